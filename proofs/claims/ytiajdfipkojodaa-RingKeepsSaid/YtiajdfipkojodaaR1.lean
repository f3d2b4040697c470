/- The ring's functions: contracts. -/
import Derived.Test.YtiajdfipkojodaaRows
import Derived.WalkKit
import Derived.WalkLawsBesides
import Derived.OneCell
import Derived.Outline
import Derived.RowKit3
import Derived.Laws.LoneSync
import Derived.Handy
import Derived.Laws.StructEq
import Derived.Lib.Hide
import Derived.Deep.QuietTactic
import Derived.BigQuiet
import Derived.StillTailTactics
namespace Go.Proofs.Ytiajdfipkojodaa
open Go.RowKit
set_option linter.unusedSimpArgs false
set_option linter.unusedVariables false

theorem setCell_drewN (w : World) (q : Nat) (a : Addr) (v : Value) : (w.drewN q).setCell a v = (w.setCell a v).drewN q := rfl
theorem alloc_drewN (w : World) (q : Nat) (o : Obj) : (w.drewN q).alloc o = (w.alloc o).drewN q := rfl

theorem ret_int {k : IntKind} {a b : Int} (h : a = b) : Ending.returned (.int k a) = .returned (.int k b) := by rw [h]

theorem lt_cell {w : World} {b o : Nat} {v : Value} (h : w.cell? ⟨b, o, none⟩ = some v) : b < w.heap.size := by
  rcases Nat.lt_or_ge b w.heap.size with h' | h'
  · exact h'
  · simp [World.cell?, Array.getElem?_eq_none h'] at h

theorem at_load (a : Addr) (x : Int) (w : World) (hc : w.cell? a = some (.int .i64 x)) :
    (callFunc 15 #[.pointer (some a)]).run Try.prog w = .ok (.value (.int .i64 x)) w :=
  run_call_load (P := Try.prog) Try.func15 (by kernel_rfl) (by kernel_rfl) (by kernel_rfl) .i64 (by kernel_rfl) hc

theorem at_store (a : Addr) (x y : Int) (w : World) (hc : w.cell? a = some (.int .i64 x)) (hf : w.frozen? a = false) :
    (callFunc 16 #[.pointer (some a), .int .i64 y]).run Try.prog w = .ok (.value (.tuple #[])) (w.setCell a (.int .i64 y)) :=
  run_call_store (P := Try.prog) Try.func16 (by kernel_rfl) (by kernel_rfl) (by kernel_rfl) (by kernel_rfl) hc hf

theorem int_load (b o : Nat) (x : Int) (w : World) (hc : w.cell? ⟨b, o, none⟩ = some (.int .i64 x)) :
    Calls Try.prog 12 #[.pointer (some ⟨b, o, none⟩)] w fun e w' => e = .returned (.int .i64 x) ∧ w = w' := by
  have ha := at_load ⟨b, o, none⟩ x w hc
  go_enter Try.func12, Try.ntmps12
  go_wp2
  go_ret
  exact ⟨rfl, rfl⟩

theorem int_store (b o : Nat) (x y : Int) (w : World) (hc : w.cell? ⟨b, o, none⟩ = some (.int .i64 x)) (hf : w.frozen? ⟨b, o, none⟩ = false) :
    Calls Try.prog 13 #[.pointer (some ⟨b, o, none⟩), .int .i64 y] w fun e w' => e = .returned (.tuple #[]) ∧ w.setCell ⟨b, o, none⟩ (.int .i64 y) = w' := by
  have ha := at_store ⟨b, o, none⟩ x y w hc hf
  go_enter Try.func13, Try.ntmps13
  go_wp2
  go_returns
  exact ⟨rfl, rfl⟩

theorem next_any (r : Nat) (x : Int) (w : World) (hc : w.cell? ⟨r, 1, none⟩ = some (.int .i64 x)) :
    Calls Try.prog 9 #[.pointer (some ⟨r, 0, none⟩)] w fun e w' => e = .returned (.int .i64 x) ∧ w = w' := by
  go_enter Try.func9, Try.ntmps9
  go_wp2_with fail
  refine (int_load _ _ x _ hc).mono ?_
  rintro e w' ⟨rfl, rfl⟩
  go_wp2_with fail
  go_returns
  exact ⟨rfl, rfl⟩

theorem first_any (r a n c : Nat) (w : World) (hc : w.cell? ⟨r, 1, none⟩ = some (.int .i64 c)) (hs : w.cell? ⟨r, 0, none⟩ = some (.slice (some ⟨a, 0, none⟩) n n)) (hn : n ≤ 4096) (hcb : c ≤ 1000000000000) :
    Calls Try.prog 14 #[.pointer (some ⟨r, 0, none⟩)] w fun e w' => e = .returned (.int .i64 ((c - n : Nat) : Int)) ∧ ∃ q, w' = w.drewN q := by
  go_enter Try.func14, Try.ntmps14
  go_wp2_with fail
  go_quiet ((go_at_call 12; exact Calls.quiet_of_same ((int_load _ _ (c : Int) _ (by assumption)).mono fun e w' h => ⟨h.1, h.2.symm⟩)))
  go_wp2_with fail
  · go_returns
    exact ⟨ret_int (by have : (c : Int) - n < 0 := by assumption
                       omega), _, rfl⟩
  · go_returns
    exact ⟨ret_int (by have : 0 ≤ (c : Int) - n := by assumption
                       omega), _, rfl⟩

theorem info33 : (Try.prog.info? 33).map (fun i => (i.zero, i.size, i.bytes)) = some (some (.agg #[.int .i64 0, .int .i64 0, .int .i64 0, .int .i64 0, .int .i64 0, .int .i64 0, .int .i64 0, .int .i64 0, .int .i64 0, .bool false]), 10, 80) := by kernel_rfl

/-- The cells of n entries that are all nought. -/
def zeros (n : Nat) : Array Value := madeCells (Value.agg #[.int .i64 0, .int .i64 0, .int .i64 0, .int .i64 0, .int .i64 0, .int .i64 0, .int .i64 0, .int .i64 0, .int .i64 0, .bool false]).cells (n * 10)

theorem make_entries (w : World) (m : Int) (h0 : 0 ≤ m) (h1 : m ≤ 4096) :
    (Instr.makeSlice 36 (.int .i64 m) (.int .i64 m)).run Try.prog w = .ok (.slice (some ⟨w.heap.size, 0, none⟩) m.toNat m.toNat) (w.alloc (.cells (zeros m.toNat) 33)) := by
  obtain ⟨i0, hi, hz0, hz1, hz2⟩ := info_parts info33
  have h := run_make (P := Try.prog) w 36 33 i0 _ Try.underlying36 hi hz0 .i64 .i64 m m h0 (Int.le_refl _) (by rw [hz2]; omega) (by omega)
  rw [hz1] at h
  exact h

theorem new_in (a0 : Int) (n : Nat) (hn : (n : Int) = a0) (h4 : n ≤ 4096) (w : World) :
    Calls Try.prog 7 #[.int .i64 a0] w fun e w' => e = .returned (.pointer (some ⟨w.heap.size + 1, 0, none⟩)) ∧ (w.alloc (.cells (zeros n) 33)).alloc (.cells #[.slice (some ⟨w.heap.size, 0, none⟩) n n, .int .i64 0] 47) = w' := by
  subst hn
  have h4i : (n : Int) ≤ 4096 := by omega
  have hmk := make_entries w n (by omega) h4i
  go_enter Try.func7, Try.ntmps7
  go_wp2_with fail
  go_returns
  exact ⟨rfl, rfl⟩

theorem new_below (a0 : Int) (h : a0 < 0) (w : World) :
    Calls Try.prog 7 #[.int .i64 a0] w fun e w' => e = .returned (.pointer (some ⟨w.heap.size + 1, 0, none⟩)) ∧ (w.alloc (.cells (zeros 0) 33)).alloc (.cells #[.slice (some ⟨w.heap.size, 0, none⟩) 0 0, .int .i64 0] 47) = w' := by
  have hmk := make_entries w 0 (by omega) (by omega)
  go_enter Try.func7, Try.ntmps7
  go_wp2_with fail
  go_returns
  exact ⟨rfl, rfl⟩

theorem new_above (a0 : Int) (h : 4096 < a0) (w : World) :
    Calls Try.prog 7 #[.int .i64 a0] w fun e w' => e = .returned (.pointer (some ⟨w.heap.size + 1, 0, none⟩)) ∧ (w.alloc (.cells (zeros 4096) 33)).alloc (.cells #[.slice (some ⟨w.heap.size, 0, none⟩) 4096 4096, .int .i64 0] 47) = w' := by
  have hmk := make_entries w 4096 (by omega) (by omega)
  go_enter Try.func7, Try.ntmps7
  go_wp2_with fail
  go_returns
  exact ⟨rfl, rfl⟩
end Go.Proofs.Ytiajdfipkojodaa
