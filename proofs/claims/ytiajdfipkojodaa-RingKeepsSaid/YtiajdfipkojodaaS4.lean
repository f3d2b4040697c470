/- Of whatever was put the last are kept: the walk of RingKeeps (fewer than none; 4096 and more). -/
import Derived.Test.YtiajdfipkojodaaS3
import Derived.Test.YtiajdfipkojodaaO
import Derived.BigQuiet
namespace Go.Proofs.Ytiajdfipkojodaa
open Go.RowKit
set_option linter.unusedSimpArgs false
set_option linter.unusedVariables false

set_option maxRecDepth 100000 in
theorem keeps_long (A : Option Addr) (len cap : Nat) (a0 ask : Int) (hl : 300 < len) (hm : len ≤ 9223372036854775807) (w : World) :
    Calls Try.prog 3 #[.int .i64 a0, .slice A len cap, .int .i64 ask] w fun e w' => e = .returned (.bool true) ∧ Below w.heap.size w w' := by
  have hl' : decide (300 < (len : Int)) = true := by simp; omega
  go_enter Try.func3, Try.ntmps3
  go_wp2_with fail
  refine (awake_any _).mono ?_
  rintro e w0 ⟨rfl, hb0⟩
  go_wp2_with fail
  go_returns
  exact ⟨rfl, hb0⟩

set_option maxRecDepth 100000 in
theorem keeps_mid (A : Option Addr) (len cap : Nat) (a0 ask : Int) (hl : len ≤ 300) (h1 : 100 < a0) (h2 : a0 < 4096) (w : World) :
    Calls Try.prog 3 #[.int .i64 a0, .slice A len cap, .int .i64 ask] w fun e w' => e = .returned (.bool true) ∧ Below w.heap.size w w' := by
  have hl' : decide (300 < (len : Int)) = false := by simp; omega
  have h1' : decide (100 < a0) = true := by simp; omega
  have h2' : decide (a0 < 4096) = true := by simp; omega
  go_enter Try.func3, Try.ntmps3
  go_wp2_with fail
  refine (awake_any _).mono ?_
  rintro e w0 ⟨rfl, hb0⟩
  go_wp2_with fail
  go_returns
  exact ⟨rfl, hb0⟩

set_option maxRecDepth 100000 in
set_option maxHeartbeats 3200000 in
theorem keeps_neg (A : Option Addr) (len cap : Nat) (p : Nat → Ent) (ask : Int) (a0 : Int) (h0 : a0 < 0) (hl : len ≤ 300) (w : World) (H : Hid (PCells A len p w)) (ha0 : -9223372036854775808 ≤ ask) (ha1 : ask ≤ 9223372036854775807) :
    Calls Try.prog 3 #[.int .i64 a0, .slice A len cap, .int .i64 ask] w fun e w' => e = .returned (.bool true) ∧ Below w.heap.size w w' := by
  have hl' : decide (300 < (len : Int)) = false := by simp; omega
  have hK1 : decide (100 < a0) = false := by simp; omega
  have hE := eqE
  have hP := eqP
  go_enter Try.func3, Try.ntmps3
  go_wp2_with fail
  refine (awake_any _).mono ?_
  rintro e w0 ⟨rfl, hb0⟩
  go_wp2_with fail
  refine (new_m _ 0 (by omega) (keepP p) _).mono ?_
  rintro e w1 ⟨rfl, h1, hb1⟩
  have hR : RR w (w0.heap.size + 1) w0.heap.size 0 0 (keepP p) w1 := ⟨h1, hb0.trans (hb1.mono hb0.size), by have := hb0.size; omega, hb0.size⟩
  clear h1 hb0 hb1
  go_wp2_with fail
  go_loopw [9] (fun i wr => ∃ n : Nat, n ≤ len ∧ i = .int .i64 n ∧ RR w (w0.heap.size + 1) w0.heap.size 0 n (keepP p) wr) (fun i _ => len - (intOf i).toNat)
  case atStart => exact ⟨0, by omega, rfl, hR⟩
  case round =>
    obtain ⟨n, hn, rfl, hr⟩ := hrel
    clear hR
    by_cases hlt : n < len
    · have hd : decide ((n : Int) < len) = true := by simp; omega
      have hd' : decide (n < len) = true := by simp; omega
      obtain ⟨b, o, rfl, c0, c1, c2, c3, c4, c5, c6, c7⟩ := H.out.at hr.2.1 hlt
      go_wp2_with fail
      refine (hr.put _ _ (by omega) (by rfl) (by rfl) (by rfl)).mono ?_
      rintro e w2 ⟨rfl, hr2⟩
      clear c0 c1 c2 c3 c4 c5 c6 c7
      go_wp2_with fail
      refine hr2.next.mono ?_
      rintro e w3 ⟨rfl, rfl⟩
      rw [show ((n + 1 : Nat) : Int) = (n : Int) + 1 by omega]
      go_wp2_with fail
      go_roundw
      case rel => exact ⟨n + 1, by omega, by go_num, hr2⟩
      case measure => simp [intOf]; omega
    · have : n = len := by omega
      subst this
      by_cases hn0 : n = 0
      · have q1 : (n : Int) ≤ 0 := by omega
        have q2 : ¬ 0 < n := by omega
        by_cases k1 : ask < 0
        · have k2 : decide (0 ≤ ask) = false := by simp; omega
          go_wp2_with fail
          refine (hr.miss _ (by omega) (by omega)).mono ?_
          rintro e w3 ⟨rfl, hb3⟩
          have hr4 := (hr.below hb3).alloc (.cells #[.int .i64 0, .int .i64 0, .int .i64 0, .int .i64 0, .int .i64 0, .int .i64 0, .int .i64 0, .int .i64 0, .int .i64 0, .bool false] 33)
          clear hr hb3
          go_wp2_with fail
          have e0 : (w3.alloc (.cells #[.int .i64 0, .int .i64 0, .int .i64 0, .int .i64 0, .int .i64 0, .int .i64 0, .int .i64 0, .int .i64 0, .int .i64 0, .bool false] 33)).cell? ⟨w3.heap.size, 0, none⟩ = some (.int .i64 0) := by go_simp
          have e1 : (w3.alloc (.cells #[.int .i64 0, .int .i64 0, .int .i64 0, .int .i64 0, .int .i64 0, .int .i64 0, .int .i64 0, .int .i64 0, .int .i64 0, .bool false] 33)).cell? ⟨w3.heap.size, 1, none⟩ = some (.int .i64 0) := by go_simp
          have e2 : (w3.alloc (.cells #[.int .i64 0, .int .i64 0, .int .i64 0, .int .i64 0, .int .i64 0, .int .i64 0, .int .i64 0, .int .i64 0, .int .i64 0, .bool false] 33)).cell? ⟨w3.heap.size, 2, none⟩ = some (.int .i64 0) := by go_simp
          have e3 : (w3.alloc (.cells #[.int .i64 0, .int .i64 0, .int .i64 0, .int .i64 0, .int .i64 0, .int .i64 0, .int .i64 0, .int .i64 0, .int .i64 0, .bool false] 33)).cell? ⟨w3.heap.size, 3, none⟩ = some (.int .i64 0) := by go_simp
          have e4 : (w3.alloc (.cells #[.int .i64 0, .int .i64 0, .int .i64 0, .int .i64 0, .int .i64 0, .int .i64 0, .int .i64 0, .int .i64 0, .int .i64 0, .bool false] 33)).cell? ⟨w3.heap.size, 4, none⟩ = some (.int .i64 0) := by go_simp
          have e5 : (w3.alloc (.cells #[.int .i64 0, .int .i64 0, .int .i64 0, .int .i64 0, .int .i64 0, .int .i64 0, .int .i64 0, .int .i64 0, .int .i64 0, .bool false] 33)).cell? ⟨w3.heap.size, 5, none⟩ = some (.int .i64 0) := by go_simp
          have e6 : (w3.alloc (.cells #[.int .i64 0, .int .i64 0, .int .i64 0, .int .i64 0, .int .i64 0, .int .i64 0, .int .i64 0, .int .i64 0, .int .i64 0, .bool false] 33)).cell? ⟨w3.heap.size, 6, none⟩ = some (.int .i64 0) := by go_simp
          have e7 : (w3.alloc (.cells #[.int .i64 0, .int .i64 0, .int .i64 0, .int .i64 0, .int .i64 0, .int .i64 0, .int .i64 0, .int .i64 0, .int .i64 0, .bool false] 33)).cell? ⟨w3.heap.size, 7, none⟩ = some (.int .i64 0) := by go_simp
          have e8 : (w3.alloc (.cells #[.int .i64 0, .int .i64 0, .int .i64 0, .int .i64 0, .int .i64 0, .int .i64 0, .int .i64 0, .int .i64 0, .int .i64 0, .bool false] 33)).cell? ⟨w3.heap.size, 8, none⟩ = some (.int .i64 0) := by go_simp
          have e9 : (w3.alloc (.cells #[.int .i64 0, .int .i64 0, .int .i64 0, .int .i64 0, .int .i64 0, .int .i64 0, .int .i64 0, .int .i64 0, .int .i64 0, .bool false] 33)).cell? ⟨w3.heap.size, 9, none⟩ = some (.bool false) := by go_simp
          generalize (w3.alloc (.cells #[.int .i64 0, .int .i64 0, .int .i64 0, .int .i64 0, .int .i64 0, .int .i64 0, .int .i64 0, .int .i64 0, .int .i64 0, .bool false] 33)) = w4 at hr4 e0 e1 e2 e3 e4 e5 e6 e7 e8 e9 ⊢
          go_quiet (fail)
          go_wp2_with fail
          have hr5 := hr4.below (below_drewN (Below.refl _ _) nq)
          clear hr4
          refine (since_m _ _ 0 n 0 0 (keepP p) ask _ (by omega) hr5.1 (by omega) (by omega)).mono ?_
          rintro e w5 ⟨A5, cap5, rfl, hcs, hb5⟩
          have HC := Lib.hid hcs
          have hb50 : Below w.heap.size w w5 := (hr5.below hb5).2.1
          clear hcs hr5 hb5
          have z1 : (n : Int) = 0 := by omega
          go_wp2_with fail
          all_goals (refine wp_loop_rounds 1 ?_; rw [rounds_succ]; go_wp2_with fail; go_returns; exact ⟨rfl, hb50⟩)
        · have k4 : (n : Int) ≤ ask := by omega
          have k7 : decide (ask < 0) = false := decide_eq_false k1
          have k2 : decide (ask < (n : Int)) = false := by simp; omega
          go_wp2_with fail
          refine (hr.miss _ (by omega) (by omega)).mono ?_
          rintro e w3 ⟨rfl, hb3⟩
          have hr4 := (hr.below hb3).alloc (.cells #[.int .i64 0, .int .i64 0, .int .i64 0, .int .i64 0, .int .i64 0, .int .i64 0, .int .i64 0, .int .i64 0, .int .i64 0, .bool false] 33)
          clear hr hb3
          go_wp2_with fail
          have e0 : (w3.alloc (.cells #[.int .i64 0, .int .i64 0, .int .i64 0, .int .i64 0, .int .i64 0, .int .i64 0, .int .i64 0, .int .i64 0, .int .i64 0, .bool false] 33)).cell? ⟨w3.heap.size, 0, none⟩ = some (.int .i64 0) := by go_simp
          have e1 : (w3.alloc (.cells #[.int .i64 0, .int .i64 0, .int .i64 0, .int .i64 0, .int .i64 0, .int .i64 0, .int .i64 0, .int .i64 0, .int .i64 0, .bool false] 33)).cell? ⟨w3.heap.size, 1, none⟩ = some (.int .i64 0) := by go_simp
          have e2 : (w3.alloc (.cells #[.int .i64 0, .int .i64 0, .int .i64 0, .int .i64 0, .int .i64 0, .int .i64 0, .int .i64 0, .int .i64 0, .int .i64 0, .bool false] 33)).cell? ⟨w3.heap.size, 2, none⟩ = some (.int .i64 0) := by go_simp
          have e3 : (w3.alloc (.cells #[.int .i64 0, .int .i64 0, .int .i64 0, .int .i64 0, .int .i64 0, .int .i64 0, .int .i64 0, .int .i64 0, .int .i64 0, .bool false] 33)).cell? ⟨w3.heap.size, 3, none⟩ = some (.int .i64 0) := by go_simp
          have e4 : (w3.alloc (.cells #[.int .i64 0, .int .i64 0, .int .i64 0, .int .i64 0, .int .i64 0, .int .i64 0, .int .i64 0, .int .i64 0, .int .i64 0, .bool false] 33)).cell? ⟨w3.heap.size, 4, none⟩ = some (.int .i64 0) := by go_simp
          have e5 : (w3.alloc (.cells #[.int .i64 0, .int .i64 0, .int .i64 0, .int .i64 0, .int .i64 0, .int .i64 0, .int .i64 0, .int .i64 0, .int .i64 0, .bool false] 33)).cell? ⟨w3.heap.size, 5, none⟩ = some (.int .i64 0) := by go_simp
          have e6 : (w3.alloc (.cells #[.int .i64 0, .int .i64 0, .int .i64 0, .int .i64 0, .int .i64 0, .int .i64 0, .int .i64 0, .int .i64 0, .int .i64 0, .bool false] 33)).cell? ⟨w3.heap.size, 6, none⟩ = some (.int .i64 0) := by go_simp
          have e7 : (w3.alloc (.cells #[.int .i64 0, .int .i64 0, .int .i64 0, .int .i64 0, .int .i64 0, .int .i64 0, .int .i64 0, .int .i64 0, .int .i64 0, .bool false] 33)).cell? ⟨w3.heap.size, 7, none⟩ = some (.int .i64 0) := by go_simp
          have e8 : (w3.alloc (.cells #[.int .i64 0, .int .i64 0, .int .i64 0, .int .i64 0, .int .i64 0, .int .i64 0, .int .i64 0, .int .i64 0, .int .i64 0, .bool false] 33)).cell? ⟨w3.heap.size, 8, none⟩ = some (.int .i64 0) := by go_simp
          have e9 : (w3.alloc (.cells #[.int .i64 0, .int .i64 0, .int .i64 0, .int .i64 0, .int .i64 0, .int .i64 0, .int .i64 0, .int .i64 0, .int .i64 0, .bool false] 33)).cell? ⟨w3.heap.size, 9, none⟩ = some (.bool false) := by go_simp
          generalize (w3.alloc (.cells #[.int .i64 0, .int .i64 0, .int .i64 0, .int .i64 0, .int .i64 0, .int .i64 0, .int .i64 0, .int .i64 0, .int .i64 0, .bool false] 33)) = w4 at hr4 e0 e1 e2 e3 e4 e5 e6 e7 e8 e9 ⊢
          go_quiet (fail)
          go_wp2_with fail
          all_goals
            have hr5 := hr4.below (below_drewN (Below.refl _ _) nq)
            clear hr4
            refine (since_m _ _ 0 n ask.toNat 0 (keepP p) ask _ (by omega) hr5.1 (by omega) (by omega)).mono ?_
            rintro e w5 ⟨A5, cap5, rfl, hcs, hb5⟩
            have hb50 : Below w.heap.size w w5 := (hr5.below hb5).2.1
            clear hcs hr5 hb5
            have z1 : ¬ (0 : Int) < n - ask := by omega
            go_wp2_with fail
            all_goals (refine wp_loop_rounds 1 ?_; rw [rounds_succ]; go_wp2_with fail; go_returns; exact ⟨rfl, hb50⟩)
      · have q1 : (0 : Int) < n := by omega
        have q2 : 0 < n := by omega
        by_cases k1 : ask < n
        · obtain ⟨M, hM⟩ : ∃ M : Nat, (n : Int) - n = M := ⟨0, by omega⟩
          have k2 : decide (n ≤ ask) = false := by simp; omega
          go_wp2_with fail
          refine (hr.miss _ (by omega) (by omega)).mono ?_
          rintro e w3 ⟨rfl, hb3⟩
          have hr4 := (hr.below hb3).alloc (.cells #[.int .i64 0, .int .i64 0, .int .i64 0, .int .i64 0, .int .i64 0, .int .i64 0, .int .i64 0, .int .i64 0, .int .i64 0, .bool false] 33)
          clear hr hb3
          go_wp2_with fail
          have e0 : (w3.alloc (.cells #[.int .i64 0, .int .i64 0, .int .i64 0, .int .i64 0, .int .i64 0, .int .i64 0, .int .i64 0, .int .i64 0, .int .i64 0, .bool false] 33)).cell? ⟨w3.heap.size, 0, none⟩ = some (.int .i64 0) := by go_simp
          have e1 : (w3.alloc (.cells #[.int .i64 0, .int .i64 0, .int .i64 0, .int .i64 0, .int .i64 0, .int .i64 0, .int .i64 0, .int .i64 0, .int .i64 0, .bool false] 33)).cell? ⟨w3.heap.size, 1, none⟩ = some (.int .i64 0) := by go_simp
          have e2 : (w3.alloc (.cells #[.int .i64 0, .int .i64 0, .int .i64 0, .int .i64 0, .int .i64 0, .int .i64 0, .int .i64 0, .int .i64 0, .int .i64 0, .bool false] 33)).cell? ⟨w3.heap.size, 2, none⟩ = some (.int .i64 0) := by go_simp
          have e3 : (w3.alloc (.cells #[.int .i64 0, .int .i64 0, .int .i64 0, .int .i64 0, .int .i64 0, .int .i64 0, .int .i64 0, .int .i64 0, .int .i64 0, .bool false] 33)).cell? ⟨w3.heap.size, 3, none⟩ = some (.int .i64 0) := by go_simp
          have e4 : (w3.alloc (.cells #[.int .i64 0, .int .i64 0, .int .i64 0, .int .i64 0, .int .i64 0, .int .i64 0, .int .i64 0, .int .i64 0, .int .i64 0, .bool false] 33)).cell? ⟨w3.heap.size, 4, none⟩ = some (.int .i64 0) := by go_simp
          have e5 : (w3.alloc (.cells #[.int .i64 0, .int .i64 0, .int .i64 0, .int .i64 0, .int .i64 0, .int .i64 0, .int .i64 0, .int .i64 0, .int .i64 0, .bool false] 33)).cell? ⟨w3.heap.size, 5, none⟩ = some (.int .i64 0) := by go_simp
          have e6 : (w3.alloc (.cells #[.int .i64 0, .int .i64 0, .int .i64 0, .int .i64 0, .int .i64 0, .int .i64 0, .int .i64 0, .int .i64 0, .int .i64 0, .bool false] 33)).cell? ⟨w3.heap.size, 6, none⟩ = some (.int .i64 0) := by go_simp
          have e7 : (w3.alloc (.cells #[.int .i64 0, .int .i64 0, .int .i64 0, .int .i64 0, .int .i64 0, .int .i64 0, .int .i64 0, .int .i64 0, .int .i64 0, .bool false] 33)).cell? ⟨w3.heap.size, 7, none⟩ = some (.int .i64 0) := by go_simp
          have e8 : (w3.alloc (.cells #[.int .i64 0, .int .i64 0, .int .i64 0, .int .i64 0, .int .i64 0, .int .i64 0, .int .i64 0, .int .i64 0, .int .i64 0, .bool false] 33)).cell? ⟨w3.heap.size, 8, none⟩ = some (.int .i64 0) := by go_simp
          have e9 : (w3.alloc (.cells #[.int .i64 0, .int .i64 0, .int .i64 0, .int .i64 0, .int .i64 0, .int .i64 0, .int .i64 0, .int .i64 0, .int .i64 0, .bool false] 33)).cell? ⟨w3.heap.size, 9, none⟩ = some (.bool false) := by go_simp
          generalize (w3.alloc (.cells #[.int .i64 0, .int .i64 0, .int .i64 0, .int .i64 0, .int .i64 0, .int .i64 0, .int .i64 0, .int .i64 0, .int .i64 0, .bool false] 33)) = w4 at hr4 e0 e1 e2 e3 e4 e5 e6 e7 e8 e9 ⊢
          go_quiet (fail)
          go_wp2_with fail
          obtain ⟨M, hM⟩ : ∃ M : Nat, (n : Int) - n = M := ⟨n - n, by omega⟩
          have hr5 := hr4.below (below_drewN (Below.refl _ _) nq)
          clear hr4
          refine (since_m _ _ 0 n n 0 (keepP p) ask _ (by omega) hr5.1 (by omega) (by omega)).mono ?_
          rintro e w5 ⟨A5, cap5, rfl, hcs, hb5⟩
          have HC := Lib.hid hcs
          have hb50 : Below w.heap.size w w5 := (hr5.below hb5).2.1
          clear hcs hr5 hb5
          have z1 : (M : Int) = 0 := by omega
          go_wp2_with fail
          have HM := Lib.hid hM
          clear hM
          all_goals (refine wp_loop_rounds 1 ?_; rw [rounds_succ]; go_wp2_with fail; go_returns; exact ⟨rfl, hb50⟩)
        · have k4 : (n : Int) ≤ ask := by omega
          have k2 : decide (ask < (n : Int)) = false := by simp; omega
          go_wp2_with fail
          refine (hr.miss _ (by omega) (by omega)).mono ?_
          rintro e w3 ⟨rfl, hb3⟩
          have hr4 := (hr.below hb3).alloc (.cells #[.int .i64 0, .int .i64 0, .int .i64 0, .int .i64 0, .int .i64 0, .int .i64 0, .int .i64 0, .int .i64 0, .int .i64 0, .bool false] 33)
          clear hr hb3
          go_wp2_with fail
          have e0 : (w3.alloc (.cells #[.int .i64 0, .int .i64 0, .int .i64 0, .int .i64 0, .int .i64 0, .int .i64 0, .int .i64 0, .int .i64 0, .int .i64 0, .bool false] 33)).cell? ⟨w3.heap.size, 0, none⟩ = some (.int .i64 0) := by go_simp
          have e1 : (w3.alloc (.cells #[.int .i64 0, .int .i64 0, .int .i64 0, .int .i64 0, .int .i64 0, .int .i64 0, .int .i64 0, .int .i64 0, .int .i64 0, .bool false] 33)).cell? ⟨w3.heap.size, 1, none⟩ = some (.int .i64 0) := by go_simp
          have e2 : (w3.alloc (.cells #[.int .i64 0, .int .i64 0, .int .i64 0, .int .i64 0, .int .i64 0, .int .i64 0, .int .i64 0, .int .i64 0, .int .i64 0, .bool false] 33)).cell? ⟨w3.heap.size, 2, none⟩ = some (.int .i64 0) := by go_simp
          have e3 : (w3.alloc (.cells #[.int .i64 0, .int .i64 0, .int .i64 0, .int .i64 0, .int .i64 0, .int .i64 0, .int .i64 0, .int .i64 0, .int .i64 0, .bool false] 33)).cell? ⟨w3.heap.size, 3, none⟩ = some (.int .i64 0) := by go_simp
          have e4 : (w3.alloc (.cells #[.int .i64 0, .int .i64 0, .int .i64 0, .int .i64 0, .int .i64 0, .int .i64 0, .int .i64 0, .int .i64 0, .int .i64 0, .bool false] 33)).cell? ⟨w3.heap.size, 4, none⟩ = some (.int .i64 0) := by go_simp
          have e5 : (w3.alloc (.cells #[.int .i64 0, .int .i64 0, .int .i64 0, .int .i64 0, .int .i64 0, .int .i64 0, .int .i64 0, .int .i64 0, .int .i64 0, .bool false] 33)).cell? ⟨w3.heap.size, 5, none⟩ = some (.int .i64 0) := by go_simp
          have e6 : (w3.alloc (.cells #[.int .i64 0, .int .i64 0, .int .i64 0, .int .i64 0, .int .i64 0, .int .i64 0, .int .i64 0, .int .i64 0, .int .i64 0, .bool false] 33)).cell? ⟨w3.heap.size, 6, none⟩ = some (.int .i64 0) := by go_simp
          have e7 : (w3.alloc (.cells #[.int .i64 0, .int .i64 0, .int .i64 0, .int .i64 0, .int .i64 0, .int .i64 0, .int .i64 0, .int .i64 0, .int .i64 0, .bool false] 33)).cell? ⟨w3.heap.size, 7, none⟩ = some (.int .i64 0) := by go_simp
          have e8 : (w3.alloc (.cells #[.int .i64 0, .int .i64 0, .int .i64 0, .int .i64 0, .int .i64 0, .int .i64 0, .int .i64 0, .int .i64 0, .int .i64 0, .bool false] 33)).cell? ⟨w3.heap.size, 8, none⟩ = some (.int .i64 0) := by go_simp
          have e9 : (w3.alloc (.cells #[.int .i64 0, .int .i64 0, .int .i64 0, .int .i64 0, .int .i64 0, .int .i64 0, .int .i64 0, .int .i64 0, .int .i64 0, .bool false] 33)).cell? ⟨w3.heap.size, 9, none⟩ = some (.bool false) := by go_simp
          generalize (w3.alloc (.cells #[.int .i64 0, .int .i64 0, .int .i64 0, .int .i64 0, .int .i64 0, .int .i64 0, .int .i64 0, .int .i64 0, .int .i64 0, .bool false] 33)) = w4 at hr4 e0 e1 e2 e3 e4 e5 e6 e7 e8 e9 ⊢
          go_quiet (fail)
          go_wp2_with fail
          all_goals
            have hr5 := hr4.below (below_drewN (Below.refl _ _) nq)
            clear hr4
            refine (since_m _ _ 0 n ask.toNat 0 (keepP p) ask _ (by omega) hr5.1 (by omega) (by omega)).mono ?_
            rintro e w5 ⟨A5, cap5, rfl, hcs, hb5⟩
            have hb50 : Below w.heap.size w w5 := (hr5.below hb5).2.1
            clear hcs hr5 hb5
            have z1 : ¬ (0 : Int) < n - ask := by omega
            go_wp2_with fail
            all_goals (refine wp_loop_rounds 1 ?_; rw [rounds_succ]; go_wp2_with fail; go_returns; exact ⟨rfl, hb50⟩)
end Go.Proofs.Ytiajdfipkojodaa
