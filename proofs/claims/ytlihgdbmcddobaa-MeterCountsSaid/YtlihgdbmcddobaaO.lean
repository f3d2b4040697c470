/- A slice of arrays of two whole numbers, as an argument. -/
import Derived.Test.YtlihgdbmcddobaaL
import Derived.Deep.Slices
namespace Go.Proofs.Ytlihgdbmcddobaa
open Go.ChangeShapes Go.WideShapes Go.ChangeAt Go.RowKit Go.Deep
set_option linter.unusedVariables false

structure Sl2 where
  a : Option Addr
  len : Nat
  cap : Nat
  xs : Nat → Nat → Int

def Sl2.V (x : Sl2) : Value := .slice x.a x.len x.cap

def Sl2.ok (x : Sl2) (k : IntKind) (w : World) : Prop :=
  x.len ≤ 9223372036854775807 ∧ ∀ i, i < x.len → ∃ b o, x.a = some ⟨b, o, none⟩ ∧ b < w.heap.size ∧ ∀ j, j < 2 → w.cell? ⟨b, o + (i * 2 + j), none⟩ = some (.int k (x.xs i j)) ∧ (Lit.int k (x.xs i j)).wf = true

theorem spot_of_cell {w : World} {a : Addr} {v : Value} (h : w.cell? a = some v) : a.spot = none ∧ a.block < w.heap.size := by
  unfold World.cell? at h
  split at h
  · rename_i c t fr hb
    refine ⟨?_, ?_⟩
    · cases hs : a.spot with
      | none => rfl
      | some n => simp [hs] at h
    · rcases Nat.lt_or_ge a.block w.heap.size with h' | h'
      · exact h'
      · simp [Array.getElem?_eq_none h'] at hb
  · cases h

theorem cell_add {w : World} {a : Addr} {n : Nat} {v : Value} (h : w.cell? (a.add n) = some v) : w.cell? ⟨a.block, a.off + n, none⟩ = some v := by
  unfold Addr.add at h
  split at h
  · rename_i hn
    have hs := (spot_of_cell h).1
    subst hn
    rw [Nat.add_zero, ← hs]
    exact h
  · exact h

theorem open_rows2 {H : Type} {enc : TypeId × Value → H} {P : Program} {w : World} {r : Reach} {b0 base : Nat} {spare : Nat → Bool} {held : Bool} {t e i : TypeId} {k : IntKind} {v : Value} {d : DataW H} {ps : List MemPlace}
    (ht : P.underlying t = some (.slice e)) (he : P.underlying e = some (.array 2 i)) (hi : P.underlying i = some (.int k)) (ce : P.cellsOf e = 2) (ci : P.cellsOf i = 1)
    (hval : Value.okWide P w r b0 t v) (h : DataW.Trod enc P w base spare held t v d ps) : ∃ x : Sl2, v = x.V ∧ x.ok k w := by
  obtain ⟨a0, len0, cap0, rfl⟩ := okWide_slice ht hval
  obtain ⟨fuel, hf⟩ := h
  rcases open_slice ht hf with ⟨hcs, hx⟩ | ⟨a, len, cap, m, n, D, Pl, hcs, hb, hl, hm, hmm, hx, hel⟩
  · simp [Value.cells] at hcs
    obtain ⟨rfl, rfl, rfl⟩ := hcs
    exact ⟨⟨none, 0, 0, fun _ _ => 0⟩, rfl, by simp, fun i hi => by simp at hi⟩
  · simp [Value.cells] at hcs
    obtain ⟨rfl, rfl, rfl⟩ := hcs
    have key : ∀ i', i' < len0 → ∃ y0 y1 : Int, (w.cell? (a.add (i' * 2)) = some (.int k y0) ∧ (Lit.int k y0).wf = true) ∧ (w.cell? (a.add (i' * 2 + 1)) = some (.int k y1) ∧ (Lit.int k y1).wf = true) := by
      intro i' hi'
      have hm' : len0 ≤ m := by rw [hmm]; split <;> omega
      obtain ⟨cs', h1, h2⟩ := hel i' (by omega)
      rw [ce] at h1
      obtain ⟨_, hlen, hget⟩ := World.cells?_some h1
      obtain ⟨xs, m', rfl, _, _, hxl, hxs⟩ := DataW.trod_array he h2
      have g0 := hxs 0 (by omega)
      have g1 := hxs 1 (by omega)
      rw [List.getElem?_eq_getElem (by omega)] at g0 g1
      rw [ci] at g0 g1
      obtain ⟨y0, e0, _, w0⟩ := DataW.trod_int hi g0
      obtain ⟨y1, e1, _, w1⟩ := DataW.trod_int hi g1
      match cs', hlen with
      | [c0, c1], _ =>
        simp at e0 e1
        subst e0 e1
        refine ⟨y0, y1, ⟨?_, w0⟩, ⟨?_, w1⟩⟩
        · have := hget 0 (by omega)
          simpa [add_add] using this
        · have := hget 1 (by omega)
          simpa [add_add] using this
    obtain ⟨Y0, hY0⟩ := choose_lt key
    obtain ⟨Y1, hY1⟩ := choose_lt hY0
    refine ⟨⟨some a, len0, cap0, fun i' j => if j = 0 then Y0 i' else Y1 i'⟩, rfl, by unfold maxLen at hm; simp; omega, fun i' hi' => ?_⟩
    have hs0 := spot_of_cell (hY1 0 (by have : i' < len0 := hi'; omega)).1.1
    simp only [Nat.zero_mul, Addr.add, if_true] at hs0
    obtain ⟨⟨c0, w0⟩, ⟨c1, w1⟩⟩ := hY1 i' hi'
    refine ⟨a.block, a.off, by rw [← hs0.1], hs0.2, fun j hj => ?_⟩
    have : j = 0 ∨ j = 1 := by omega
    rcases this with rfl | rfl
    · exact ⟨by simpa using cell_add c0, by simpa using w0⟩
    · exact ⟨by simpa using cell_add c1, by simpa using w1⟩

theorem open22 {H : Type} {enc : TypeId × Value → H} {w : World} {r : Reach} {b0 base : Nat} {spare : Nat → Bool} {held : Bool} {v : Value} {d : DataW H} {ps : List MemPlace}
    (hval : Value.okWide Try.prog w r b0 22 v) (h : DataW.Trod enc Try.prog w base spare held 22 v d ps) : ∃ x : Sl2, v = x.V ∧ x.ok .i64 w :=
  open_rows2 Try.underlying22 Try.underlying27 Try.underlying2 (by kernel_rfl) (by kernel_rfl) hval h
theorem open34 {H : Type} {enc : TypeId × Value → H} {w : World} {r : Reach} {b0 base : Nat} {spare : Nat → Bool} {held : Bool} {v : Value} {d : DataW H} {ps : List MemPlace}
    (hval : Value.okWide Try.prog w r b0 34 v) (h : DataW.Trod enc Try.prog w base spare held 34 v d ps) : ∃ x : Sl2, v = x.V ∧ x.ok .i16 w :=
  open_rows2 Try.underlying34 Try.underlying35 Try.underlying32 (by kernel_rfl) (by kernel_rfl) hval h
end Go.Proofs.Ytlihgdbmcddobaa
