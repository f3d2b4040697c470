/- A reply, a row of replies, as arguments. -/
import Derived.Test.YtbanlnacoidccaaW25
import Derived.Test.YtbanlnacoidccaaO
namespace Go.Proofs.Ytbanlnacoidccaa
open Go.ChangeShapes Go.WideShapes Go.ChangeAt Go.RowKit Go.Deep
set_option linter.unusedVariables false
set_option linter.unusedSimpArgs false

theorem cells3 : Try.prog.cellsOf 3 = 1 := by kernel_rfl
theorem cells2 : Try.prog.cellsOf 2 = 1 := by kernel_rfl
theorem cells4 : Try.prog.cellsOf 4 = 1 := by kernel_rfl
theorem cells26 : Try.prog.cellsOf 26 = 1 := by kernel_rfl
theorem cells38 : Try.prog.cellsOf 38 = 1 := by kernel_rfl
theorem cells46 : Try.prog.cellsOf 46 = 2 := by kernel_rfl
theorem cells48 : Try.prog.cellsOf 48 = 8 := by kernel_rfl

theorem trod_rat {H : Type} {enc : TypeId × Value → H} {w : World} {base : Nat} {spare : Nat → Bool} {held : Bool} {fuel : Nat} {cs : List Value} {x : DataW H × List MemPlace} (h : DataW.trod enc Try.prog w base spare held fuel 46 cs = some x) :
    ∃ a b : Int, cs = [.int .i64 a, .int .i64 b] ∧ (Lit.int .i64 a).wf = true ∧ (Lit.int .i64 b).wf = true := by
  obtain ⟨xs, m, rfl, rfl, hl, hxl, hf⟩ := DataW.trod_struct Try.underlying46 h
  have hlen : cs.length = 2 := by rw [hl]; kernel_rfl
  have g0 := hf 0 _ rfl
  have g1 := hf 1 _ rfl
  rw [List.getElem?_eq_getElem (by rw [hxl]; decide)] at g0 g1
  obtain ⟨y0, e0, _, w0⟩ := DataW.trod_int Try.underlying2 g0
  obtain ⟨y1, e1, _, w1⟩ := DataW.trod_int Try.underlying2 g1
  match cs, hlen with
  | [a0, a1], _ =>
    simp [cells2] at e0 e1
    subst e0 e1
    exact ⟨y0, y1, rfl, w0, w1⟩

theorem trod_pc {H : Type} {enc : TypeId × Value → H} {w : World} {base : Nat} {spare : Nat → Bool} {held : Bool} {fuel : Nat} {cs : List Value} {x : DataW H × List MemPlace} (h : DataW.trod enc Try.prog w base spare held fuel 48 cs = some x) :
    ∃ p : Pc, cs = p.cells ∧ p.ok := by
  obtain ⟨xs, m, rfl, rfl, hl, hxl, hf⟩ := DataW.trod_struct Try.underlying48 h
  have hlen : cs.length = 8 := by rw [hl]; kernel_rfl
  have g0 := hf 0 _ rfl
  have g1 := hf 1 _ rfl
  have g2 := hf 2 _ rfl
  have g3 := hf 3 _ rfl
  have g4 := hf 4 _ rfl
  have g5 := hf 5 _ rfl
  rw [List.getElem?_eq_getElem (by rw [hxl]; decide)] at g0 g1 g2 g3 g4 g5
  obtain ⟨y0, e0, _, w0⟩ := DataW.trod_int Try.underlying3 g0
  obtain ⟨y1, e1, _, w1⟩ := DataW.trod_int Try.underlying3 g1
  obtain ⟨y2, e2, _, w2⟩ := DataW.trod_int Try.underlying3 g2
  obtain ⟨a3, b3, e3, w3, w3'⟩ := trod_rat g3
  obtain ⟨a4, b4, e4, w4, w4'⟩ := trod_rat g4
  obtain ⟨y5, e5, _⟩ := DataW.trod_bool Try.underlying4 g5
  match cs, hlen with
  | [c0, c1, c2, c3, c4, c5, c6, c7], _ =>
    simp [cells3, cells4, cells46] at e0 e1 e2 e3 e4 e5
    obtain ⟨rfl, rfl⟩ := e3
    obtain ⟨rfl, rfl⟩ := e4
    subst e0 e1 e2 e5
    exact ⟨⟨y0, y1, y2, a3, b3, a4, b4, y5⟩, rfl, bounds_i64 w3, bounds_i64 w3', bounds_i64 w4, bounds_i64 w4'⟩

instance : Inhabited Pc := ⟨Pc.zero⟩

/-- Pieces, as an argument: where, how many, the room, what they are. -/
structure PcA where
  a : Option Addr
  len : Nat
  cap : Nat
  ps : List Pc
def PcA.V (x : PcA) : Value := .slice x.a x.len x.cap
/-- A reply, as an argument. -/
structure RpA where
  err : Int
  clock : Int
  x : PcA
def RpA.cells (r : RpA) : List Value := [.int .i64 r.err, .int .i64 r.clock, .slice r.x.a r.x.len r.x.cap]
def RpA.V (r : RpA) : Value := .agg #[.int .i64 r.err, .int .i64 r.clock, .slice r.x.a r.x.len r.x.cap]
structure RpA.There (w : World) (r : RpA) : Prop where
  rw : Rw w r.x.a r.x.len r.x.cap r.x.ps
  ok : ∀ k, k < r.x.ps.length → (r.x.ps.getD k Pc.zero).ok
  e : -9223372036854775808 ≤ r.err ∧ r.err ≤ 9223372036854775807
  c : -9223372036854775808 ≤ r.clock ∧ r.clock ≤ 9223372036854775807

theorem cell_add' {w : World} {a : Addr} {n : Nat} {v : Value} (h : w.cell? (a.add n) = some v) : w.cell? ⟨a.block, a.off + n, none⟩ = some v := cell_add h

theorem trod_pcs {H : Type} {enc : TypeId × Value → H} {w : World} {base : Nat} {spare : Nat → Bool} {held : Bool} {fuel : Nat} {cs : List Value} {x : DataW H × List MemPlace} (h : DataW.trod enc Try.prog w base spare held fuel 38 cs = some x) :
    ∃ p : PcA, cs = [.slice p.a p.len p.cap] ∧ Rw w p.a p.len p.cap p.ps ∧ ∀ k, k < p.ps.length → (p.ps.getD k Pc.zero).ok := by
  rcases open_slice Try.underlying38 h with ⟨hcs, hx⟩ | ⟨a, len, cap, m, n, D, Pl, hcs, hb, hl, hm, hmm, hx, hel⟩
  · exact ⟨⟨none, 0, 0, []⟩, hcs, ⟨rfl, Nat.le_refl _, by simp, fun h0 => by simp at h0⟩, fun k hk => by simp at hk⟩
  · have key : ∀ i', i' < len → ∃ p : Pc, p.ok ∧ (∀ j u, p.cells[j]? = some u → w.cell? ⟨a.block, a.off + i' * 8 + j, none⟩ = some u) ∧ (i' = 0 → a.spot = none) ∧ a.block < w.heap.size := by
      intro i' hi'
      have hm' : len ≤ m := by rw [hmm]; split <;> omega
      obtain ⟨cs', h1, h2⟩ := hel i' (by omega)
      rw [cells48] at h1
      obtain ⟨_, hlen, hget⟩ := World.cells?_some h1
      obtain ⟨p, rfl, hok⟩ := trod_pc h2
      have hg : ∀ j u, p.cells[j]? = some u → w.cell? ((a.add (i' * 8)).add j) = some u := by
        intro j u hu
        have hj : j < 8 := by
          rcases Nat.lt_or_ge j 8 with h' | h'
          · exact h'
          · rw [List.getElem?_eq_none (by simpa [Pc.cells] using h')] at hu; cases hu
        have := hget j hj
        rw [this]
        simpa using hu
      have s0 := hg 0 _ rfl
      have es := spot_of_cell s0
      have hs1 : (i' = 0 → a.spot = none) ∧ a.block < w.heap.size := by
        have e2 : ((a.add (i' * 8)).add 0).block = a.block := by unfold Addr.add; split <;> split <;> rfl
        rw [e2] at es
        refine ⟨fun e0 => ?_, es.2⟩
        subst e0
        exact es.1
      refine ⟨p, hok, fun j u hu => ?_, hs1⟩
      have h3 := hg j u hu
      rw [add_add] at h3
      have h4 := cell_add h3
      rw [← Nat.add_assoc] at h4
      exact h4
    obtain ⟨Y, hY⟩ := choose_lt key
    refine ⟨⟨some a, len, cap, (List.range len).map Y⟩, hcs, ⟨by simp, hl, by unfold maxLen at hm; simp; omega, fun h0 => ?_⟩, ?_⟩
    · have hs0 := (hY 0 h0).2.2
      refine ⟨a.block, a.off, by rw [← hs0.1 rfl], hs0.2, fun k hk j u hu => ?_⟩
      have := (hY k hk).2.1 j u (by simpa [List.getD_eq_getElem?_getD, List.getElem?_range hk] using hu)
      exact this
    · intro k hk
      rw [List.length_map, List.length_range] at hk
      have := (hY k hk).1
      simpa [List.getD_eq_getElem?_getD, List.getElem?_range hk] using this

theorem trod_rp {H : Type} {enc : TypeId × Value → H} {w : World} {base : Nat} {spare : Nat → Bool} {held : Bool} {fuel : Nat} {cs : List Value} {x : DataW H × List MemPlace} (h : DataW.trod enc Try.prog w base spare held fuel 40 cs = some x) :
    ∃ r : RpA, cs = r.cells ∧ r.There w := by
  obtain ⟨xs, m, rfl, rfl, hl, hxl, hf⟩ := DataW.trod_struct Try.underlying40 h
  have hlen : cs.length = 3 := by rw [hl]; kernel_rfl
  have g0 := hf 0 _ rfl
  have g1 := hf 1 _ rfl
  have g2 := hf 2 _ rfl
  rw [List.getElem?_eq_getElem (by rw [hxl]; decide)] at g0 g1 g2
  obtain ⟨y0, e0, _, w0⟩ := DataW.trod_int Try.underlying26 g0
  obtain ⟨y1, e1, _, w1⟩ := DataW.trod_int Try.underlying3 g1
  obtain ⟨p, e2, hR, hok⟩ := trod_pcs g2
  match cs, hlen with
  | [a0, a1, a2], _ =>
    simp [cells26, cells3, cells38] at e0 e1 e2
    subst e0 e1 e2
    exact ⟨⟨y0, y1, p⟩, rfl, ⟨hR, hok, bounds_i64 w0, bounds_i64 w1⟩⟩

theorem open40 {H : Type} {enc : TypeId × Value → H} {w : World} {r : Reach} {b0 base : Nat} {spare : Nat → Bool} {held : Bool} {v : Value} {d : DataW H} {ps : List MemPlace}
    (hval : Value.okWide Try.prog w r b0 40 v) (h : DataW.Trod enc Try.prog w base spare held 40 v d ps) : ∃ x : RpA, v = x.V ∧ x.There w := by
  obtain ⟨cs, rfl, _⟩ := okWide_struct Try.underlying40 hval
  obtain ⟨fuel, hf⟩ := h
  obtain ⟨c, hc, ht⟩ := trod_rp hf
  refine ⟨c, ?_, ht⟩
  obtain ⟨l⟩ := cs
  have hc' : l = _ := hc
  rw [hc']
  rfl
end Go.Proofs.Ytbanlnacoidccaa
