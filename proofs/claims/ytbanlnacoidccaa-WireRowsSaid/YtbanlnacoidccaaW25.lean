/- The reference's comparison of two rows of pieces. -/
import Derived.Test.YtbanlnacoidccaaW24
namespace Go.Proofs.Ytbanlnacoidccaa
open Go.RowKit
set_option linter.unusedSimpArgs false
set_option linter.unusedVariables false

theorem eqRat (d : Nat) (a0 a1 : Int) (w : World) :
    (Op.equalIn (d + 2) 46 (.agg #[.int .i64 a0, .int .i64 a1]) (.agg #[.int .i64 a0, .int .i64 a1])).run Try.prog w = .ok true w := by
  rw [run_equalIn_struct w (d + 1) 46 _ _ (by kernel_rfl) (by kernel_rfl)]
  simp [go_sem, Try.underlying46]
theorem eqPc (p0 p1 p2 p3 p4 p5 p6 : Int) (p7 : Bool) (w : World) :
    (Op.equalIn 10000 48 (.agg #[.int .i64 p0, .int .i64 p1, .int .i64 p2, .int .i64 p3, .int .i64 p4, .int .i64 p5, .int .i64 p6, .bool p7]) (.agg #[.int .i64 p0, .int .i64 p1, .int .i64 p2, .int .i64 p3, .int .i64 p4, .int .i64 p5, .int .i64 p6, .bool p7])).run Try.prog w = .ok true w := by
  rw [run_equalIn_struct w 9999 48 _ _ (by kernel_rfl) (by kernel_rfl)]
  simp [go_sem, Try.underlying48]

set_option maxHeartbeats 1600000 in
theorem same17 (A B : Option Addr) (n ca cb : Nat) (ps : List Pc) (w : World) (hA : Rw w A n ca ps) (hB : Rw w B n cb ps) (hn : n ≤ 1000) :
    Calls Try.prog 17 #[.slice A n ca, .slice B n cb] w fun e w' => e = .returned (.bool true) ∧ ∃ q, w' = w.drewN q := by
  have hE := eqPc
  have hnn : ((n : Int) == n) = true := by simp
  have HA := Lib.hid hA
  have HB := Lib.hid hB
  have t1 := hA.top
  have t2 := hB.top
  have r1 := hA.room
  have r2 := hB.room
  clear hA hB
  go_enter Try.func17, Try.ntmps17
  go_wp2_with fail
  go_loopw [5] (fun i wr => ∃ k : Nat, k ≤ n ∧ i = .int .i64 k ∧ ∃ q, wr = w.drewN q) (fun i _ => n - (intOf i).toNat)
  case atStart => exact ⟨0, by omega, rfl, 0, rfl⟩
  case round =>
    obtain ⟨k, hk, rfl, q, rfl⟩ := hrel
    by_cases hlt : k < n
    · have hd1 : decide ((k : Int) < n) = true := by simp; omega
      have hd2 : decide (k < n) = true := by simp; omega
      have hki : (k : Int) < n := by omega
      obtain ⟨b, o, rfl, hbl, hc⟩ := HA.out.at_ (by omega)
      obtain ⟨b', o', rfl, hbl', hc'⟩ := HB.out.at_ (by omega)
      have hcc := hc k hlt
      have hcc' := hc' k hlt
      clear hc hc'
      generalize ps.getD k Pc.zero = p at hcc hcc'
      obtain ⟨p0, p1, p2, p3, p4, p5, p6, p7⟩ := p
      have y0 := hcc 0 _ rfl
      have y1 := hcc 1 _ rfl
      have y2 := hcc 2 _ rfl
      have y3 := hcc 3 _ rfl
      have y4 := hcc 4 _ rfl
      have y5 := hcc 5 _ rfl
      have y6 := hcc 6 _ rfl
      have y7 := hcc 7 _ rfl
      have z0 := hcc' 0 _ rfl
      have z1 := hcc' 1 _ rfl
      have z2 := hcc' 2 _ rfl
      have z3 := hcc' 3 _ rfl
      have z4 := hcc' 4 _ rfl
      have z5 := hcc' 5 _ rfl
      have z6 := hcc' 6 _ rfl
      have z7 := hcc' 7 _ rfl
      rw [Nat.add_zero] at y0 z0
      clear hcc hcc'
      go_wp2_with fail
      go_quiet (fail)
      go_wp2_with fail
      go_roundw
      case rel => exact ⟨k + 1, by omega, by go_num, _, rfl⟩
      case measure => simp [intOf]; omega
    · have hkn : k = n := by omega
      have hd1 : decide ((k : Int) < n) = false := by simp; omega
      have hd2 : decide (k < n) = false := by simp; omega
      have hki : (n : Int) ≤ k := by omega
      clear hkn
      go_wp2_with fail
      go_returns
      exact ⟨rfl, q, rfl⟩
end Go.Proofs.Ytbanlnacoidccaa
