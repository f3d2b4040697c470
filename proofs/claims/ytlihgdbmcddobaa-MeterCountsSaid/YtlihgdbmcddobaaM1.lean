/- The meter's functions: contracts. -/
import Derived.Test.YtlihgdbmcddobaaRows
import Derived.WalkKit
import Derived.OneCell
import Derived.Outline
import Derived.RowKit3
import Derived.Laws.LoneSync
import Derived.Handy
import Derived.Laws.StructEq
import Derived.Lib.Hide
namespace Go.Proofs.Ytlihgdbmcddobaa
open Go.RowKit
set_option linter.unusedSimpArgs false
set_option linter.unusedVariables false

theorem lt_cell {w : World} {b o : Nat} {v : Value} (h : w.cell? ⟨b, o, none⟩ = some v) : b < w.heap.size := by
  rcases Nat.lt_or_ge b w.heap.size with h' | h'
  · exact h'
  · simp [World.cell?, Array.getElem?_eq_none h'] at h

theorem cell_two {w : World} {b o : Nat} {v : Value} (x y : Obj) (h : w.cell? ⟨b, o, none⟩ = some v) : ((w.alloc x).alloc y).cell? ⟨b, o, none⟩ = some v := by
  have hb := lt_cell h
  rw [World.cell?_alloc_past _ _ _ (by simp; omega), World.cell?_alloc_past _ _ _ hb, h]

theorem there_any (b o : Nat) (k : Int) (w : World) :
    Calls Try.prog 13 #[.pointer (some ⟨b, o, none⟩), .int .i64 k] w fun e w' => e = .returned (.bool (decide (0 ≤ k) && decide (k < 5))) ∧ w = w' := by
  by_cases h : 0 ≤ k <;> by_cases h2 : k < 5
  all_goals
    go_enter Try.func13, Try.ntmps13
    go_wp2
    go_ret
    exact ⟨by simp [*], rfl⟩

theorem new_any (w : World) :
    Calls Try.prog 9 #[] w fun e w' => e = .returned (.pointer (some ⟨w.heap.size, 0, none⟩)) ∧ w.alloc (.cells #[.int .i64 0, .int .i64 0, .int .i64 0, .int .i64 0, .int .i64 0] 45 (0, 0)) = w' := by
  go_enter Try.func9, Try.ntmps9
  go_wp2
  go_ret
  exact ⟨rfl, rfl⟩


theorem at_add (a : Addr) (x n : Int) (w : World) (hc : w.cell? a = some (.int .i64 x)) (hf : w.frozen? a = false) :
    (callFunc 16 #[.pointer (some a), .int .i64 n]).run Try.prog w = .ok (.value (.int .i64 (wrap64 (x + n)))) (w.setCell a (.int .i64 (wrap64 (x + n)))) :=
  run_call_add (P := Try.prog) Try.func16 (by kernel_rfl) (by kernel_rfl) (by kernel_rfl) .i64 (by kernel_rfl) hc hf (by simp [go_sem, wrap64, IntKind.wrap_i64])

theorem at_load (a : Addr) (x : Int) (w : World) (hc : w.cell? a = some (.int .i64 x)) :
    (callFunc 17 #[.pointer (some a)]).run Try.prog w = .ok (.value (.int .i64 x)) w :=
  run_call_load (P := Try.prog) Try.func17 (by kernel_rfl) (by kernel_rfl) (by kernel_rfl) .i64 (by kernel_rfl) hc

theorem int_add (b o : Nat) (x n : Int) (w : World) (hc : w.cell? ⟨b, o, none⟩ = some (.int .i64 x)) (hf : w.frozen? ⟨b, o, none⟩ = false) :
    Calls Try.prog 14 #[.pointer (some ⟨b, o, none⟩), .int .i64 n] w fun e w' => e = .returned (.int .i64 (wrap64 (x + n))) ∧ w.setCell ⟨b, o, none⟩ (.int .i64 (wrap64 (x + n))) = w' := by
  have ha := at_add ⟨b, o, none⟩ x n w hc hf
  go_enter Try.func14, Try.ntmps14
  go_wp2
  go_ret
  exact ⟨rfl, rfl⟩

theorem int_load (b o : Nat) (x : Int) (w : World) (hc : w.cell? ⟨b, o, none⟩ = some (.int .i64 x)) :
    Calls Try.prog 15 #[.pointer (some ⟨b, o, none⟩)] w fun e w' => e = .returned (.int .i64 x) ∧ w = w' := by
  have ha := at_load ⟨b, o, none⟩ x w hc
  go_enter Try.func15, Try.ntmps15
  go_wp2
  go_ret
  exact ⟨rfl, rfl⟩

theorem add_in (b k : Nat) (x n : Int) (w : World) (hk : k < 5) (hc : w.cell? ⟨b, k, none⟩ = some (.int .i64 x)) (hf : w.frozen? ⟨b, k, none⟩ = false) :
    Calls Try.prog 10 #[.pointer (some ⟨b, 0, none⟩), .int .i64 k, .int .i64 n] w fun e w' => e = .returned (.int .i64 (wrap64 (x + n))) ∧ w.setCell ⟨b, k, none⟩ (.int .i64 (wrap64 (x + n))) = w' := by
  have h1 : decide ((k : Int) < 5) = true := by simp; omega
  go_enter Try.func10, Try.ntmps10
  go_wp2_with (first | (go_at_call 13; refine (there_any _ _ _ _).mono ?_; rintro e w' ⟨rfl, rfl⟩) | (go_at_call 14; refine (int_add _ _ x _ _ (by assumption) (by assumption)).mono ?_; rintro e w' ⟨rfl, rfl⟩))
  go_ret
  exact ⟨rfl, rfl⟩

theorem add_out (b : Nat) (k n : Int) (w : World) (hk : k < 0 ∨ 5 ≤ k) :
    Calls Try.prog 10 #[.pointer (some ⟨b, 0, none⟩), .int .i64 k, .int .i64 n] w fun e w' => e = .returned (.int .i64 0) ∧ w = w' := by
  have h1 : (decide (0 ≤ k) && decide (k < 5)) = false := by simp; omega
  go_enter Try.func10, Try.ntmps10
  go_wp2_with (first | (go_at_call 13; refine (there_any _ _ _ _).mono ?_; rintro e w' ⟨rfl, rfl⟩))
  go_ret
  exact ⟨rfl, rfl⟩

theorem get_in (b k : Nat) (x : Int) (w : World) (hk : k < 5) (hc : w.cell? ⟨b, k, none⟩ = some (.int .i64 x)) :
    Calls Try.prog 11 #[.pointer (some ⟨b, 0, none⟩), .int .i64 k] w fun e w' => e = .returned (.int .i64 x) ∧ w = w' := by
  have h1 : decide ((k : Int) < 5) = true := by simp; omega
  go_enter Try.func11, Try.ntmps11
  go_wp2_with (first | (go_at_call 13; refine (there_any _ _ _ _).mono ?_; rintro e w' ⟨rfl, rfl⟩) | (go_at_call 15; refine (int_load _ _ x _ (by assumption)).mono ?_; rintro e w' ⟨rfl, rfl⟩))
  go_ret
  exact ⟨rfl, rfl⟩

theorem get_out (b : Nat) (k : Int) (w : World) (hk : k < 0 ∨ 5 ≤ k) :
    Calls Try.prog 11 #[.pointer (some ⟨b, 0, none⟩), .int .i64 k] w fun e w' => e = .returned (.int .i64 0) ∧ w = w' := by
  have h1 : (decide (0 ≤ k) && decide (k < 5)) = false := by simp; omega
  go_enter Try.func11, Try.ntmps11
  go_wp2_with (first | (go_at_call 13; refine (there_any _ _ _ _).mono ?_; rintro e w' ⟨rfl, rfl⟩))
  go_ret
  exact ⟨rfl, rfl⟩

theorem all_any (b : Nat) (x0 x1 x2 x3 x4 : Int) (w : World) (h0 : w.cell? ⟨b, 0, none⟩ = some (.int .i64 x0)) (h1 : w.cell? ⟨b, 1, none⟩ = some (.int .i64 x1))
    (h2 : w.cell? ⟨b, 2, none⟩ = some (.int .i64 x2)) (h3 : w.cell? ⟨b, 3, none⟩ = some (.int .i64 x3)) (h4 : w.cell? ⟨b, 4, none⟩ = some (.int .i64 x4)) :
    Calls Try.prog 12 #[.pointer (some ⟨b, 0, none⟩)] w fun e w' => e = .returned (.agg #[.int .i64 x0, .int .i64 x1, .int .i64 x2, .int .i64 x3, .int .i64 x4]) ∧ Below w.heap.size w w' := by
  go_enter Try.func12, Try.ntmps12
  go_wp2
  refine wp_loop_rounds 6 ?_
  rw [rounds_succ]
  go_wp2_with fail
  refine (get_in b 0 x0 _ (by omega) (cell_two _ _ (by assumption))).mono ?_; rintro e w' ⟨rfl, rfl⟩
  go_wp2_with fail
  rw [rounds_succ]
  go_wp2_with fail
  refine (get_in b 1 x1 _ (by omega) (cell_two _ _ (by assumption))).mono ?_; rintro e w' ⟨rfl, rfl⟩
  go_wp2_with fail
  rw [rounds_succ]
  go_wp2_with fail
  refine (get_in b 2 x2 _ (by omega) (cell_two _ _ (by assumption))).mono ?_; rintro e w' ⟨rfl, rfl⟩
  go_wp2_with fail
  rw [rounds_succ]
  go_wp2_with fail
  refine (get_in b 3 x3 _ (by omega) (cell_two _ _ (by assumption))).mono ?_; rintro e w' ⟨rfl, rfl⟩
  go_wp2_with fail
  rw [rounds_succ]
  go_wp2_with fail
  refine (get_in b 4 x4 _ (by omega) (cell_two _ _ (by assumption))).mono ?_; rintro e w' ⟨rfl, rfl⟩
  go_wp2_with fail
  rw [rounds_succ]
  go_wp2_with fail
  go_returns
  exact ⟨rfl, by go_grown⟩
theorem part_at (a0 a1 a2 a3 a4 v : Value) (i : Nat) (w : World) (h : #[a0, a1, a2, a3, a4][i]? = some v) : (part 2 #[a0, a1, a2, a3, a4] i).run Try.prog w = .ok v w := by
  have hi : ∀ w, (isAgg 2).run Try.prog w = .ok false w := by intro w; kernel_rfl
  simp only [part, Sem.run_bind, hi, Result.andThen_ok, Bool.false_eq_true, if_false, h]
  rfl
theorem eqarr_d (d : Nat) (x0 x1 x2 x3 x4 y0 y1 y2 y3 y4 : Int) (w : World) :
    (Op.equalIn (d + 2) 26 (.agg #[.int .i64 x0, .int .i64 x1, .int .i64 x2, .int .i64 x3, .int .i64 x4]) (.agg #[.int .i64 y0, .int .i64 y1, .int .i64 y2, .int .i64 y3, .int .i64 y4])).run Try.prog w
      = .ok (x0 == y0 && (x1 == y1 && (x2 == y2 && (x3 == y3 && x4 == y4)))) w := by
  have hn : ∀ w, (sizeOf 2).run Try.prog w = .ok 1 w := by intro w; kernel_rfl
  rw [Op.equalIn]
  simp only [Sem.run_bind, run_underlying Try.underlying26, Result.andThen_ok, hn]
  rw [Std.Legacy.Range.forIn_eq_forIn_range']
  simp only [Std.Legacy.Range.size, List.range', List.forIn_cons, List.forIn_nil, Sem.run_bind]
  have hq := fun a b w => run_equalIn_int (P := Try.prog) w d 2 .i64 .i64 a b Try.underlying2
  have p0 := fun (a0 a1 a2 a3 a4 : Value) (w : World) => part_at a0 a1 a2 a3 a4 a0 (0 * 1) w rfl
  have p1 := fun (a0 a1 a2 a3 a4 : Value) (w : World) => part_at a0 a1 a2 a3 a4 a1 ((0 + 1) * 1) w rfl
  have p2 := fun (a0 a1 a2 a3 a4 : Value) (w : World) => part_at a0 a1 a2 a3 a4 a2 ((0 + 1 + 1) * 1) w rfl
  have p3 := fun (a0 a1 a2 a3 a4 : Value) (w : World) => part_at a0 a1 a2 a3 a4 a3 ((0 + 1 + 1 + 1) * 1) w rfl
  have p4 := fun (a0 a1 a2 a3 a4 : Value) (w : World) => part_at a0 a1 a2 a3 a4 a4 ((0 + 1 + 1 + 1 + 1) * 1) w rfl
  simp only [p0, p1, p2, p3, p4, hq, Result.andThen_ok]
  cases e0 : (x0 == y0) <;> cases e1 : (x1 == y1) <;> cases e2 : (x2 == y2) <;> cases e3 : (x3 == y3) <;> cases e4 : (x4 == y4) <;>
    simp [p0, p1, p2, p3, p4, hq, e0, e1, e2, e3, e4, -Nat.zero_mul, -Nat.zero_add, -Nat.mul_one, -Nat.reduceAdd, -Nat.reduceMul]
theorem eqarr (x0 x1 x2 x3 x4 y0 y1 y2 y3 y4 : Int) (w : World) :
    (Op.equalIn 10000 26 (.agg #[.int .i64 x0, .int .i64 x1, .int .i64 x2, .int .i64 x3, .int .i64 x4]) (.agg #[.int .i64 y0, .int .i64 y1, .int .i64 y2, .int .i64 y3, .int .i64 y4])).run Try.prog w
      = .ok (x0 == y0 && (x1 == y1 && (x2 == y2 && (x3 == y3 && x4 == y4)))) w := eqarr_d 9998 x0 x1 x2 x3 x4 y0 y1 y2 y3 y4 w
end Go.Proofs.Ytlihgdbmcddobaa
