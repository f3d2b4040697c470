/- A slice of pieces, as an argument; two entries, or pieces, are one. -/
import Derived.Test.YtiajdfipkojodaaL
import Derived.Test.YtiajdfipkojodaaR6
import Derived.Deep.Slices
import Derived.Laws.StructEq
namespace Go.Proofs.Ytiajdfipkojodaa
open Go.ChangeShapes Go.WideShapes Go.ChangeAt Go.RowKit Go.Deep
set_option linter.unusedVariables false
set_option linter.unusedSimpArgs false

section
variable {H : Type} {enc : TypeId × Value → H} {w : World} {base : Nat} {spare : Nat → Bool} {held : Bool} {fuel : Nat} {cs : List Value} {x : DataW H × List MemPlace}

theorem trod_rat (h : DataW.trod enc Try.prog w base spare held fuel 28 cs = some x) :
    ∃ n d : Int, cs = [.int .i64 n, .int .i64 d] ∧ (Lit.int .i64 n).wf = true ∧ (Lit.int .i64 d).wf = true := by
  obtain ⟨xs, m, rfl, rfl, hl, hxl, hf⟩ := DataW.trod_struct Try.underlying28 h
  have hlen : cs.length = 2 := by rw [hl]; kernel_rfl
  have c2 : Try.prog.cellsOf 2 = 1 := by kernel_rfl
  have g0 := hf 0 _ rfl
  have g1 := hf 1 _ rfl
  rw [List.getElem?_eq_getElem (by rw [hxl]; decide)] at g0 g1
  obtain ⟨n, e0, _, w0⟩ := DataW.trod_int Try.underlying2 g0
  obtain ⟨d, e1, _, w1⟩ := DataW.trod_int Try.underlying2 g1
  match cs, hlen with
  | [a, b], _ =>
    simp [c2] at e0 e1
    subst e0 e1
    exact ⟨n, d, rfl, w0, w1⟩

theorem trod_piece (h : DataW.trod enc Try.prog w base spare held fuel 30 cs = some x) :
    ∃ e : Ent, cs = [.int .i64 e.v2, .int .i64 e.v3, .int .i64 e.v4, .int .i64 e.v5, .int .i64 e.v6, .int .i64 e.v7, .int .i64 e.v8, .bool e.v9] := by
  obtain ⟨xs, m, rfl, rfl, hl, hxl, hf⟩ := DataW.trod_struct Try.underlying30 h
  have hlen : cs.length = 8 := by rw [hl]; kernel_rfl
  have c3 : Try.prog.cellsOf 3 = 1 := by kernel_rfl
  have c4 : Try.prog.cellsOf 4 = 1 := by kernel_rfl
  have c28 : Try.prog.cellsOf 28 = 2 := by kernel_rfl
  have g0 := hf 0 _ rfl
  have g1 := hf 1 _ rfl
  have g2 := hf 2 _ rfl
  have g3 := hf 3 _ rfl
  have g4 := hf 4 _ rfl
  have g5 := hf 5 _ rfl
  rw [List.getElem?_eq_getElem (by rw [hxl]; decide)] at g0 g1 g2 g3 g4 g5
  obtain ⟨y0, e0, _, w0⟩ := DataW.trod_int Try.underlying3 g0
  obtain ⟨y1, e1, _, w1⟩ := DataW.trod_int Try.underlying3 g1
  obtain ⟨y2, e2, _, w2⟩ := DataW.trod_int Try.underlying3 g2
  obtain ⟨y3, y4, e3, w3, w4⟩ := trod_rat g3
  obtain ⟨y5, y6, e4, w5, w6⟩ := trod_rat g4
  obtain ⟨y7, e5, _⟩ := DataW.trod_bool Try.underlying4 g5
  match cs, hlen with
  | [a0, a1, a2, a3, a4, a5, a6, a7], _ =>
    simp [c3, c4, c28] at e0 e1 e2 e3 e4 e5
    obtain ⟨e3, e3'⟩ := e3
    obtain ⟨e4, e4'⟩ := e4
    subst e0 e1 e2 e3 e3' e4 e4' e5
    exact ⟨⟨0, 0, y0, y1, y2, y3, y4, y5, y6, y7⟩, rfl⟩
end

/-- A slice of pieces: where, how many, the room, and what it holds (the pieces of entries). -/
structure SlP where
  a : Option Addr
  len : Nat
  cap : Nat
  p : Nat → Ent

def SlP.V (x : SlP) : Value := .slice x.a x.len x.cap

/-- The cells of an entry's piece. -/
def Ent.pcells (e : Ent) : List Value := [.int .i64 e.v2, .int .i64 e.v3, .int .i64 e.v4, .int .i64 e.v5, .int .i64 e.v6, .int .i64 e.v7, .int .i64 e.v8, .bool e.v9]

def SlP.ok (x : SlP) (w : World) : Prop :=
  x.len ≤ 9223372036854775807 ∧ ∀ i, i < x.len → ∃ b o, x.a = some ⟨b, o, none⟩ ∧ b < w.heap.size ∧ ∀ q, q < 8 → w.cell? ⟨b, o + (i * 8 + q), none⟩ = (x.p i).pcells[q]?

theorem spot_of_cell {w : World} {a : Addr} {v : Value} (h : w.cell? a = some v) : a.spot = none ∧ a.block < w.heap.size := by
  unfold World.cell? at h
  split at h
  · rename_i c t fr hb
    refine ⟨?_, ?_⟩
    · cases hs : a.spot with
      | none => rfl
      | some n => simp [hs] at h
    · rcases Nat.lt_or_ge a.block w.heap.size with h' | h'
      · exact h'
      · simp [Array.getElem?_eq_none h'] at hb
  · cases h

theorem cell_add {w : World} {a : Addr} {n : Nat} {v : Value} (h : w.cell? (a.add n) = some v) : w.cell? ⟨a.block, a.off + n, none⟩ = some v := by
  unfold Addr.add at h
  split at h
  · rename_i hn
    have hs := (spot_of_cell h).1
    subst hn
    rw [Nat.add_zero, ← hs]
    exact h
  · exact h

instance : Inhabited Ent := ⟨zeroEnt⟩

theorem open22 {H : Type} {enc : TypeId × Value → H} {w : World} {r : Reach} {b0 base : Nat} {spare : Nat → Bool} {held : Bool} {v : Value} {d : DataW H} {ps : List MemPlace}
    (hval : Value.okWide Try.prog w r b0 22 v) (h : DataW.Trod enc Try.prog w base spare held 22 v d ps) : ∃ x : SlP, v = x.V ∧ x.ok w := by
  obtain ⟨a0, len0, cap0, rfl⟩ := okWide_slice Try.underlying22 hval
  obtain ⟨fuel, hf⟩ := h
  rcases open_slice Try.underlying22 hf with ⟨hcs, hx⟩ | ⟨a, len, cap, m, n, D, Pl, hcs, hb, hl, hm, hmm, hx, hel⟩
  · simp [Value.cells] at hcs
    obtain ⟨rfl, rfl, rfl⟩ := hcs
    exact ⟨⟨none, 0, 0, fun _ => zeroEnt⟩, rfl, by simp, fun i hi => by simp at hi⟩
  · simp [Value.cells] at hcs
    obtain ⟨rfl, rfl, rfl⟩ := hcs
    have ce : Try.prog.cellsOf 30 = 8 := by kernel_rfl
    have key : ∀ i', i' < len0 → ∃ e : Ent, ∀ q, q < 8 → w.cell? (a.add (i' * 8 + q)) = e.pcells[q]? := by
      intro i' hi'
      have hm' : len0 ≤ m := by rw [hmm]; split <;> omega
      obtain ⟨cs', h1, h2⟩ := hel i' (by omega)
      rw [ce] at h1
      obtain ⟨_, hlen, hget⟩ := World.cells?_some h1
      obtain ⟨e, rfl⟩ := trod_piece h2
      exact ⟨e, fun q hq => by rw [← add_add]; exact hget q hq⟩
    obtain ⟨E, hE⟩ := choose_lt key
    refine ⟨⟨some a, len0, cap0, E⟩, rfl, by unfold maxLen at hm; simp; omega, fun i' hi' => ?_⟩
    have hs0 := spot_of_cell (hE 0 (by have : i' < len0 := hi'; omega) 0 (by omega))
    simp only [Nat.zero_mul, Nat.add_zero, Addr.add, if_true] at hs0
    refine ⟨a.block, a.off, by rw [← hs0.1], hs0.2, fun q hq => ?_⟩
    have h1 := hE i' hi' q hq
    have hq' : q < (E i').pcells.length := hq
    rw [List.getElem?_eq_getElem hq'] at h1 ⊢
    exact cell_add h1
theorem eqRat (d : Nat) (a b : Int) (w : World) : (Op.equalIn (d + 2) 28 (.agg #[.int .i64 a, .int .i64 b]) (.agg #[.int .i64 a, .int .i64 b])).run Try.prog w = .ok true w := by
  rw [run_equalIn_struct w (d + 1) 28 _ _ (by kernel_rfl) (by kernel_rfl)]
  simp [go_sem, Try.underlying28]
theorem eqPiece (d : Nat) (a0 a1 a2 a3 a4 a5 a6 : Int) (a7 : Bool) (w : World) :
    (Op.equalIn (d + 3) 30 (.agg #[.int .i64 a0, .int .i64 a1, .int .i64 a2, .int .i64 a3, .int .i64 a4, .int .i64 a5, .int .i64 a6, .bool a7]) (.agg #[.int .i64 a0, .int .i64 a1, .int .i64 a2, .int .i64 a3, .int .i64 a4, .int .i64 a5, .int .i64 a6, .bool a7])).run Try.prog w = .ok true w := by
  have hr := eqRat d
  have s28 : Try.prog.cellsOf 28 = 2 := by kernel_rfl
  rw [run_equalIn_struct w (d + 2) 30 _ _ (by kernel_rfl) (by kernel_rfl)]
  simp [go_sem, Try.underlying30, hr]

theorem eqEntry (d : Nat) (a0 a1 a2 a3 a4 a5 a6 a7 a8 : Int) (a9 : Bool) (w : World) :
    (Op.equalIn (d + 4) 33 (.agg #[.int .i64 a0, .int .i64 a1, .int .i64 a2, .int .i64 a3, .int .i64 a4, .int .i64 a5, .int .i64 a6, .int .i64 a7, .int .i64 a8, .bool a9]) (.agg #[.int .i64 a0, .int .i64 a1, .int .i64 a2, .int .i64 a3, .int .i64 a4, .int .i64 a5, .int .i64 a6, .int .i64 a7, .int .i64 a8, .bool a9])).run Try.prog w = .ok true w := by
  have hr := eqPiece d
  rw [run_equalIn_struct w (d + 3) 33 _ _ (by kernel_rfl) (by kernel_rfl)]
  simp [go_sem, Try.underlying33, hr]
theorem eqP (a0 a1 a2 a3 a4 a5 a6 : Int) (a7 : Bool) (w : World) :
    (Op.equalIn 10000 30 (.agg #[.int .i64 a0, .int .i64 a1, .int .i64 a2, .int .i64 a3, .int .i64 a4, .int .i64 a5, .int .i64 a6, .bool a7]) (.agg #[.int .i64 a0, .int .i64 a1, .int .i64 a2, .int .i64 a3, .int .i64 a4, .int .i64 a5, .int .i64 a6, .bool a7])).run Try.prog w = .ok true w := eqPiece 9997 a0 a1 a2 a3 a4 a5 a6 a7 w
theorem eqE (a0 a1 a2 a3 a4 a5 a6 a7 a8 : Int) (a9 : Bool) (w : World) :
    (Op.equalIn 10000 33 (.agg #[.int .i64 a0, .int .i64 a1, .int .i64 a2, .int .i64 a3, .int .i64 a4, .int .i64 a5, .int .i64 a6, .int .i64 a7, .int .i64 a8, .bool a9]) (.agg #[.int .i64 a0, .int .i64 a1, .int .i64 a2, .int .i64 a3, .int .i64 a4, .int .i64 a5, .int .i64 a6, .int .i64 a7, .int .i64 a8, .bool a9])).run Try.prog w = .ok true w := eqEntry 9996 a0 a1 a2 a3 a4 a5 a6 a7 a8 a9 w
end Go.Proofs.Ytiajdfipkojodaa
