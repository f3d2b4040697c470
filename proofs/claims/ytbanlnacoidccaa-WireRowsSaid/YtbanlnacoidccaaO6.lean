/- Rows of commands, of replies, as arguments. -/
import Derived.Test.YtbanlnacoidccaaO5
namespace Go.Proofs.Ytbanlnacoidccaa
open Go.ChangeShapes Go.WideShapes Go.ChangeAt Go.RowKit Go.Deep
set_option linter.unusedVariables false
set_option linter.unusedSimpArgs false

/-- A slice that reads as xs, each of sz cells f x. -/
structure RG {α : Type} (f : α → List Value) (sz : Nat) (z : α) (w : World) (A : Option Addr) (len cap : Nat) (xs : List α) : Prop where
  long : xs.length = len
  room : len ≤ cap
  top : cap ≤ 9223372036854775807
  at_ : 0 < len → ∃ b o, A = some ⟨b, o, none⟩ ∧ b < w.heap.size ∧ ∀ k, k < len → ∀ j u, (f (xs.getD k z))[j]? = some u → w.cell? ⟨b, o + k * sz + j, none⟩ = some u

theorem RG.below {α : Type} {f : α → List Value} {sz : Nat} {z : α} {w w' : World} {A : Option Addr} {len cap : Nat} {xs : List α} (h : RG f sz z w A len cap xs) (hb : Below w.heap.size w w') : RG f sz z w' A len cap xs :=
  ⟨h.long, h.room, h.top, fun h0 => by
    obtain ⟨b, o, e, hlt, hc⟩ := h.at_ h0
    exact ⟨b, o, e, Nat.lt_of_lt_of_le hlt hb.size, fun k hk j u hu => by
      rw [hb.cell (p := ⟨b, o + k * sz + j, none⟩) hlt]
      exact hc k hk j u hu⟩⟩

/-- A slice, as an argument: where, how many, the room, what it is. -/
structure SA (α : Type) where
  a : Option Addr
  len : Nat
  cap : Nat
  xs : List α
def SA.V {α : Type} (x : SA α) : Value := .slice x.a x.len x.cap

instance : Inhabited Cmd := ⟨Cmd.zero⟩
def RpA.zero : RpA := ⟨0, 0, ⟨none, 0, 0, []⟩⟩
instance : Inhabited RpA := ⟨RpA.zero⟩

theorem trod_row {α : Type} [Inhabited α] {f : α → List Value} {sz : Nat} {z : α} {p : α → Prop} (t e : TypeId) (hsz : 0 < sz) (hf : ∀ x, (f x).length = sz) (ht : Try.prog.underlying t = some (.slice e)) (ce : Try.prog.cellsOf e = sz)
    {H : Type} {enc : TypeId × Value → H} {w : World} {base : Nat} {spare : Nat → Bool} {held : Bool}
    (hone : ∀ {fuel : Nat} {cs : List Value} {x : DataW H × List MemPlace}, DataW.trod enc Try.prog w base spare held fuel e cs = some x → ∃ y : α, cs = f y ∧ p y)
    {fuel : Nat} {cs : List Value} {x : DataW H × List MemPlace} (h : DataW.trod enc Try.prog w base spare held fuel t cs = some x) :
    ∃ q : SA α, cs = [.slice q.a q.len q.cap] ∧ RG f sz z w q.a q.len q.cap q.xs ∧ ∀ k, k < q.len → p (q.xs.getD k z) := by
  rcases open_slice ht h with ⟨hcs, hx⟩ | ⟨a, len, cap, m, n, D, Pl, hcs, hb, hl, hm, hmm, hx, hel⟩
  · exact ⟨⟨none, 0, 0, []⟩, hcs, ⟨rfl, Nat.le_refl _, by simp, fun h0 => by simp at h0⟩, fun k hk => by simp at hk⟩
  · have key : ∀ i', i' < len → ∃ y : α, p y ∧ (∀ j u, (f y)[j]? = some u → w.cell? ⟨a.block, a.off + i' * sz + j, none⟩ = some u) ∧ (i' = 0 → a.spot = none) ∧ a.block < w.heap.size := by
      intro i' hi'
      have hm' : len ≤ m := by rw [hmm]; split <;> omega
      obtain ⟨cs', h1, h2⟩ := hel i' (by omega)
      rw [ce] at h1
      obtain ⟨_, hlen, hget⟩ := World.cells?_some h1
      obtain ⟨y, rfl, hok⟩ := hone h2
      have hg : ∀ j u, (f y)[j]? = some u → w.cell? ((a.add (i' * sz)).add j) = some u := by
        intro j u hu
        have hj : j < sz := by
          rcases Nat.lt_or_ge j sz with h' | h'
          · exact h'
          · rw [List.getElem?_eq_none (by rw [hf]; exact h')] at hu; cases hu
        have := hget j hj
        rw [this]
        simpa using hu
      obtain ⟨u0, hu0⟩ : ∃ u0, (f y)[0]? = some u0 := ⟨_, List.getElem?_eq_getElem (by rw [hf]; exact hsz)⟩
      have s0 := hg 0 _ hu0
      have es := spot_of_cell s0
      have hs1 : (i' = 0 → a.spot = none) ∧ a.block < w.heap.size := by
        have e2 : ((a.add (i' * sz)).add 0).block = a.block := by unfold Addr.add; split <;> split <;> rfl
        rw [e2] at es
        refine ⟨fun e0 => ?_, es.2⟩
        subst e0
        have e3 : ((a.add (0 * sz)).add 0).spot = a.spot := by rw [Nat.zero_mul]; rfl
        rw [e3] at es
        exact es.1
      refine ⟨y, hok, fun j u hu => ?_, hs1⟩
      have h3 := hg j u hu
      rw [add_add] at h3
      have h4 := cell_add h3
      rw [← Nat.add_assoc] at h4
      exact h4
    obtain ⟨Y, hY⟩ := choose_lt key
    refine ⟨⟨some a, len, cap, (List.range len).map Y⟩, hcs, ⟨by simp, hl, by unfold maxLen at hm; simp; omega, fun h0 => ?_⟩, ?_⟩
    · have hs0 := (hY 0 h0).2.2
      refine ⟨a.block, a.off, by rw [← hs0.1 rfl], hs0.2, fun k hk j u hu => ?_⟩
      exact (hY k hk).2.1 j u (by simpa [List.getD_eq_getElem?_getD, List.getElem?_range hk] using hu)
    · intro k hk
      have hk' : k < len := hk
      have := (hY k hk').1
      simpa [List.getD_eq_getElem?_getD, List.getElem?_range hk'] using this

theorem cells23 : Try.prog.cellsOf 23 = 4 := by kernel_rfl
theorem cells40 : Try.prog.cellsOf 40 = 3 := by kernel_rfl

theorem open51 {H : Type} {enc : TypeId × Value → H} {w : World} {r : Reach} {b0 base : Nat} {spare : Nat → Bool} {held : Bool} {v : Value} {d : DataW H} {ps : List MemPlace}
    (hval : Value.okWide Try.prog w r b0 51 v) (h : DataW.Trod enc Try.prog w base spare held 51 v d ps) : ∃ x : SA Cmd, v = x.V ∧ RG Cmd.cells 4 Cmd.zero w x.a x.len x.cap x.xs := by
  obtain ⟨a0, len0, cap0, rfl⟩ := okWide_slice Try.underlying51 hval
  obtain ⟨fuel, hf⟩ := h
  obtain ⟨q, hq, hR, _⟩ := trod_row (f := Cmd.cells) (z := Cmd.zero) (p := fun _ => True) 51 23 (by decide) (fun _ => rfl) Try.underlying51 cells23 (fun h => by
    obtain ⟨c, hc⟩ := trod_cmd h
    exact ⟨c, hc, trivial⟩) hf
  simp [Value.cells] at hq
  obtain ⟨rfl, rfl, rfl⟩ := hq
  exact ⟨q, rfl, hR⟩

theorem open52 {H : Type} {enc : TypeId × Value → H} {w : World} {r : Reach} {b0 base : Nat} {spare : Nat → Bool} {held : Bool} {v : Value} {d : DataW H} {ps : List MemPlace}
    (hval : Value.okWide Try.prog w r b0 52 v) (h : DataW.Trod enc Try.prog w base spare held 52 v d ps) : ∃ x : SA RpA, v = x.V ∧ (RG RpA.cells 3 RpA.zero w x.a x.len x.cap x.xs ∧ ∀ k, k < x.len → (x.xs.getD k RpA.zero).There w) := by
  obtain ⟨a0, len0, cap0, rfl⟩ := okWide_slice Try.underlying52 hval
  obtain ⟨fuel, hf⟩ := h
  obtain ⟨q, hq, hR, hp⟩ := trod_row (f := RpA.cells) (z := RpA.zero) (p := fun r => r.There w) 52 40 (by decide) (fun _ => rfl) Try.underlying52 cells40 (fun h => trod_rp h) hf
  simp [Value.cells] at hq
  obtain ⟨rfl, rfl, rfl⟩ := hq
  exact ⟨q, rfl, hR, hp⟩

theorem RpA.There.below {w w' : World} {r : RpA} (h : r.There w) (hb : Below w.heap.size w w') : r.There w' := ⟨h.rw.below hb, h.ok, h.e, h.c⟩

theorem flatMap_cell {α : Type} (f : α → List Value) (sz : Nat) (z : α) (hf : ∀ x, (f x).length = sz) (xs : List α) (k j : Nat) (hk : k < xs.length) (hj : j < sz) : (xs.flatMap f)[k * sz + j]? = (f (xs.getD k z))[j]? := by
  induction xs generalizing k with
  | nil => simp at hk
  | cons x xs ih =>
    rw [List.flatMap_cons]
    cases k with
    | zero =>
      rw [Nat.zero_mul, Nat.zero_add, List.getElem?_append_left (by rw [hf]; exact hj)]
      simp
    | succ k =>
      have e : (k + 1) * sz + j = sz + (k * sz + j) := by rw [Nat.add_mul]; omega
      rw [List.getElem?_append_right (by rw [hf, e]; omega), hf, e, Nat.add_sub_cancel_left, ih k (by simpa using hk)]
      simp

theorem OC.read {w : World} {base : Nat} {v : Value} {cs : List Cmd} (h : OC w base v cs) : ∃ A c, v = .slice A cs.length c ∧ RG Cmd.cells 4 Cmd.zero w A cs.length c cs := by
  rcases h.2 with ⟨e, hl⟩ | ⟨g, cap, cur, e, hg, hh, hn, hc, hsz, htk⟩
  · exact ⟨none, 0, by rw [hl]; exact e, rfl, by omega, by omega, fun h0 => by omega⟩
  · refine ⟨some ⟨g, 0, none⟩, cap, e, rfl, hn, by unfold maxLen at hc; omega, fun h0 => ⟨g, 0, rfl, lt_of_block hh, fun k hk j u hu => ?_⟩⟩
    have hj : j < 4 := by
      rcases Nat.lt_or_ge j 4 with h' | h'
      · exact h'
      · rw [List.getElem?_eq_none (by simpa [Cmd.cells] using h')] at hu; cases hu
    have e1 : w.cell? ⟨g, 0 + k * 4 + j, none⟩ = cur[k * 4 + j]? := by
      rw [Nat.zero_add]
      unfold World.cell?
      simp only [hh]
      rfl
    have e2 : (cur.toList.take (cs.length * 4))[k * 4 + j]? = (cs.flatMap Cmd.cells)[k * 4 + j]? := by rw [htk]
    rw [List.getElem?_take_of_lt (by omega), Array.getElem?_toList] at e2
    rw [e1, e2, flatMap_cell Cmd.cells 4 Cmd.zero (fun _ => rfl) cs k j hk hj, hu]
end Go.Proofs.Ytbanlnacoidccaa
