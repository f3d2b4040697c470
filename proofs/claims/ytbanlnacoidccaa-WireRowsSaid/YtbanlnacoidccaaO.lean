/- A command, bytes, as arguments. -/
import Derived.Test.YtbanlnacoidccaaW11
import Derived.Deep.Slices
namespace Go.Proofs.Ytbanlnacoidccaa
open Go.ChangeShapes Go.WideShapes Go.ChangeAt Go.RowKit Go.Deep
set_option linter.unusedVariables false
set_option linter.unusedSimpArgs false

theorem trod_cmd {H : Type} {enc : TypeId × Value → H} {w : World} {base : Nat} {spare : Nat → Bool} {held : Bool} {fuel : Nat} {cs : List Value} {x : DataW H × List MemPlace} (h : DataW.trod enc Try.prog w base spare held fuel 23 cs = some x) :
    ∃ c : Cmd, cs = [.int .i64 c.op, .int .i64 c.id, .int .i64 c.e, .int .i64 c.p] := by
  obtain ⟨xs, m, rfl, rfl, hl, hxl, hf⟩ := DataW.trod_struct Try.underlying23 h
  have hlen : cs.length = 4 := by rw [hl]; kernel_rfl
  have c3 : Try.prog.cellsOf 3 = 1 := by kernel_rfl
  have g0 := hf 0 _ rfl
  have g1 := hf 1 _ rfl
  have g2 := hf 2 _ rfl
  have g3 := hf 3 _ rfl
  rw [List.getElem?_eq_getElem (by rw [hxl]; decide)] at g0 g1 g2 g3
  obtain ⟨y0, e0, _, w0⟩ := DataW.trod_int Try.underlying3 g0
  obtain ⟨y1, e1, _, w1⟩ := DataW.trod_int Try.underlying3 g1
  obtain ⟨y2, e2, _, w2⟩ := DataW.trod_int Try.underlying3 g2
  obtain ⟨y3, e3, _, w3⟩ := DataW.trod_int Try.underlying3 g3
  match cs, hlen with
  | [a0, a1, a2, a3], _ =>
    simp [c3] at e0 e1 e2 e3
    subst e0 e1 e2 e3
    exact ⟨⟨y0, y1, y2, y3⟩, rfl⟩

theorem open23 {H : Type} {enc : TypeId × Value → H} {w : World} {r : Reach} {b0 base : Nat} {spare : Nat → Bool} {held : Bool} {v : Value} {d : DataW H} {ps : List MemPlace}
    (hval : Value.okWide Try.prog w r b0 23 v) (h : DataW.Trod enc Try.prog w base spare held 23 v d ps) : ∃ c : Cmd, v = c.V ∧ True := by
  obtain ⟨cs, rfl, _⟩ := okWide_struct Try.underlying23 hval
  obtain ⟨fuel, hf⟩ := h
  obtain ⟨c, hc⟩ := trod_cmd hf
  refine ⟨c, ?_, trivial⟩
  obtain ⟨l⟩ := cs
  have hc' : l = _ := hc
  rw [hc']
  rfl

/-- Bytes, as an argument: where, how many, the room, what they are. -/
structure ByA where
  a : Option Addr
  len : Nat
  cap : Nat
  xs : List Int
def ByA.V (x : ByA) : Value := .slice x.a x.len x.cap

theorem spot_of_cell {w : World} {a : Addr} {v : Value} (h : w.cell? a = some v) : a.spot = none ∧ a.block < w.heap.size := by
  unfold World.cell? at h
  split at h
  · rename_i c t fr hb
    refine ⟨?_, ?_⟩
    · cases hs : a.spot with
      | none => rfl
      | some n => simp [hs] at h
    · rcases Nat.lt_or_ge a.block w.heap.size with h' | h'
      · exact h'
      · simp [Array.getElem?_eq_none h'] at hb
  · cases h

theorem cell_add {w : World} {a : Addr} {n : Nat} {v : Value} (h : w.cell? (a.add n) = some v) : w.cell? ⟨a.block, a.off + n, none⟩ = some v := by
  unfold Addr.add at h
  split at h
  · rename_i hn
    have hs := (spot_of_cell h).1
    subst hn
    rw [Nat.add_zero, ← hs]
    exact h
  · exact h

theorem open24 {H : Type} {enc : TypeId × Value → H} {w : World} {r : Reach} {b0 base : Nat} {spare : Nat → Bool} {held : Bool} {v : Value} {d : DataW H} {ps : List MemPlace}
    (hval : Value.okWide Try.prog w r b0 24 v) (h : DataW.Trod enc Try.prog w base spare held 24 v d ps) : ∃ x : ByA, v = x.V ∧ Sl w x.a x.len x.cap x.xs := by
  obtain ⟨a0, len0, cap0, rfl⟩ := okWide_slice Try.underlying24 hval
  obtain ⟨fuel, hf⟩ := h
  rcases open_slice Try.underlying24 hf with ⟨hcs, hx⟩ | ⟨a, len, cap, m, n, D, Pl, hcs, hb, hl, hm, hmm, hx, hel⟩
  · simp [Value.cells] at hcs
    obtain ⟨rfl, rfl, rfl⟩ := hcs
    exact ⟨⟨none, 0, 0, []⟩, rfl, rfl, Nat.le_refl _, by simp, allB_nil, fun h0 => by simp at h0⟩
  · simp [Value.cells] at hcs
    obtain ⟨rfl, rfl, rfl⟩ := hcs
    have ce : Try.prog.cellsOf 5 = 1 := by kernel_rfl
    have key : ∀ i', i' < len0 → ∃ y : Int, w.cell? (a.add i') = some (.int .u8 y) ∧ (Lit.int .u8 y).wf = true := by
      intro i' hi'
      have hm' : len0 ≤ m := by rw [hmm]; split <;> omega
      obtain ⟨cs', h1, h2⟩ := hel i' (by omega)
      rw [ce] at h1
      obtain ⟨_, hlen, hget⟩ := World.cells?_some h1
      obtain ⟨y, rfl, _, wy⟩ := DataW.trod_int Try.underlying5 h2
      refine ⟨y, ?_, wy⟩
      have := hget 0 (by omega)
      rw [add_add] at this
      simpa using this
    obtain ⟨Y, hY⟩ := choose_lt key
    have hall : AllB ((List.range len0).map Y) := by
      intro i hi
      rw [List.length_map, List.length_range] at hi
      have := bounds_u8 (hY i hi).2
      simpa [List.getD_eq_getElem?_getD, List.getElem?_range hi] using this
    refine ⟨⟨some a, len0, cap0, (List.range len0).map Y⟩, rfl, by simp, hl, by unfold maxLen at hm; simp; omega, hall, fun h0 => ?_⟩
    have h0' : 0 < len0 := h0
    have hs0 := spot_of_cell (hY 0 h0').1
    have ea : a.add 0 = a := by unfold Addr.add; rw [if_pos rfl]
    rw [ea] at hs0
    refine ⟨a.block, a.off, by rw [← hs0.1], hs0.2, fun i hi => ⟨?_, hall i hi⟩⟩
    rw [List.length_map, List.length_range] at hi
    have := cell_add (hY i hi).1
    simpa [List.getD_eq_getElem?_getD, List.getElem?_range hi] using this
end Go.Proofs.Ytbanlnacoidccaa
