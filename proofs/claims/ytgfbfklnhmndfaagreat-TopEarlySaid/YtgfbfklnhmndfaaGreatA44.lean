/- The parts of the top that the law of early release walks through: part 44 of 52. -/
import Derived.Test.YtgfbfklnhmndfaaGreatA1
import Derived.Test.YtgfbfklnhmndfaaGreatA2
import Derived.Test.YtgfbfklnhmndfaaGreatA3
import Derived.Test.YtgfbfklnhmndfaaGreatA4
import Derived.Test.YtgfbfklnhmndfaaGreatA6
import Derived.Test.YtgfbfklnhmndfaaGreatA8
import Derived.Test.YtgfbfklnhmndfaaGreatA9
import Derived.Test.YtgfbfklnhmndfaaGreatA16
import Derived.Test.YtgfbfklnhmndfaaGreatA21
import Derived.Test.YtgfbfklnhmndfaaGreatA27
import Derived.Test.YtgfbfklnhmndfaaGreatA29
import Derived.Test.YtgfbfklnhmndfaaGreatA30
import Derived.Test.YtgfbfklnhmndfaaGreatA32
import Derived.Test.YtgfbfklnhmndfaaGreatA35
import Derived.Test.YtgfbfklnhmndfaaGreatA36
import Derived.Test.YtgfbfklnhmndfaaGreatA37
import Derived.Test.YtgfbfklnhmndfaaGreatA41
import Derived.Test.YtgfbfklnhmndfaaGreatA42
import Derived.Test.YtgfbfklnhmndfaaGreatA43
namespace Go.Proofs.YtgfbfklnhmndfaaGreat
open Go.RowKit
set_option linter.unusedSimpArgs false
set_option linter.unusedVariables false
section
attribute [local go_sem ↓] setCell_drewN alloc_drewN grow_cell grow_frozen setCell_grow grow_size cell_alloc_grow frozen_alloc_grow setCell_alloc_grow cell_grow_alloc_grow frozen_grow_alloc_grow setCell_grow_alloc_grow grow_grow
attribute [local go_sem] lt_len size_setCell
theorem cmpR_gt {a b : Int} (h : a ≤ b) : decide (cmpR (a : Rat) (b : Rat) > 0) = false := by
  apply decide_eq_false
  unfold cmpR
  split
  · omega
  · rw [if_neg (by rw [Rat.intCast_lt_intCast]; omega)]
    omega
def mayY (S T10 : Nat) (i : Nat) (v : Value) (lo hi : Nat) (w : World) : Prop := match i with
  | 0 => v = .pointer (some ⟨S, 0, none⟩)
  | 1 => v = wi 2
  | 2 => v = .int .i64 1
  | 3 => v = wi 1
  | 4 => v = .tuple #[wi 2, .int .i64 0]
  | 5 => v = wi 2
  | 6 => v = .int .i64 0
  | 7 => v = wi 2
  | 8 => ∃ b, lo ≤ b ∧ b < hi ∧ v = .pointer (some ⟨b, 0, none⟩) ∧ w.heap[b]? = some (.cells #[.int .i64 0, .int .i64 0] 39 (0, 0))
  | _ => True
set_option maxHeartbeats 4000000 in
theorem may163 (G C : Nat) (cur : List Value) (w : World) (hg : w.heap[G]? = some (.cells (.int .i64 3 :: .int .i64 1 :: .int .i64 1 :: .bool false :: cur).toArray 267 (0, 0))) :
    Calls Tryz.prog 163 #[.slice (some ⟨G, 0, none⟩) 1 C, .int .i64 0, .int .i64 2, .int .i64 1] w fun e W => e = .returned (.int .i64 0) ∧ Kept [] w W := by
  have WH2 := fun w => whole140 2 w
  have WH0 := fun w => whole140 0 w
  have WH1 := fun w => whole140 1 w
  have SB := fun (b : Nat) (w : World) (h : SumsAt w b) => sub164 b 2 0 (by omega) (by omega) (by omega) (by omega) w h
  rw [show (2 : Int) - 0 = 2 by omega] at SB
  have MY := fun w => May114 ((1 : Int) : Rat) (by unfold Sml; decide) w
  have CM := fun w => cmpRI 1 2 (by omega) (by omega) (by omega) (by omega) w
  have hcm := cmpR_gt (a := 1) (b := 2) (by omega)
  generalize cmpR ((1 : Int) : Rat) ((2 : Int) : Rat) = xc at CM hcm
  have ML := fun w => Mul207r ((2 : Int) : Rat) ((1 : Int) : Rat) (sm_int (by omega) (by omega)) (sm_int (by omega) (by omega)) w
  rw [show ((2 : Int) : Rat) * ((1 : Int) : Rat) = ((2 : Int) : Rat) by decide +kernel] at ML
  simp only [rvI] at MY ML
  replace SB := Lib.hid SB
  have KW : Hid (Kept [] w w) := Lib.hid (Kept.refl _ _)
  have B_G := Lib.hid (hg)
  clear hg
  have c_w_G_0 : w.cell? ⟨G, 0, none⟩ = some (.int .i64 3) := cell_of B_G.out 0
  have c_w_G_1 : w.cell? ⟨G, 1, none⟩ = some (.int .i64 1) := cell_of B_G.out 1
  have c_w_G_2 : w.cell? ⟨G, 2, none⟩ = some (.int .i64 1) := cell_of B_G.out 2
  have c_w_G_3 : w.cell? ⟨G, 3, none⟩ = some (.bool false) := cell_of B_G.out 3
  have l_w_G := heap_lt B_G.out
  go_enter Tryz.func163, Tryz.ntmps163
  go_wp2_with fail
  refine (WH2 _).mono ?_
  rintro e' V1 ⟨rfl, os1, q1, hg1⟩
  have kg1 := kept_grow hg1
  clear hg1
  clear c_w_G_0 c_w_G_1 c_w_G_2 c_w_G_3 l_w_G
  have kA1 : Kept [] w V1 := Kept.tr ((Kept.refl [] w).alloc _) kg1
  have hx_S := kg1.at (heap_alloc_new (w := w) (o := .cells #[.int .i64 0] 271)) (by simp)
  have Z_G := kA1.at B_G.out (by simp)
  obtain ⟨S, E_S⟩ : ∃ x, w.heap.size = x := ⟨_, rfl⟩
  rw [E_S] at hx_S
  have g1 := KW.out.1
  have G_S : Hid (w.heap.size ≤ S) := Lib.hid (by omega)
  have N_G_S : Hid (G ≠ S) := Lib.hid (by have := heap_lt B_G.out; omega)
  replace B_G := Lib.hid Z_G
  have B_S := Lib.hid hx_S
  replace KW := Lib.hid (Kept.tr KW.out kA1)
  clear Z_G hx_S kA1 g1 kg1
  have c_V1_G_0 : V1.cell? ⟨G, 0, none⟩ = some (.int .i64 3) := cell_of B_G.out 0
  have c_V1_G_1 : V1.cell? ⟨G, 1, none⟩ = some (.int .i64 1) := cell_of B_G.out 1
  have c_V1_G_2 : V1.cell? ⟨G, 2, none⟩ = some (.int .i64 1) := cell_of B_G.out 2
  have c_V1_G_3 : V1.cell? ⟨G, 3, none⟩ = some (.bool false) := cell_of B_G.out 3
  have l_V1_G := heap_lt B_G.out
  have c_V1_S_0 : V1.cell? ⟨S, 0, none⟩ = some (.int .i64 0) := cell_of B_S.out 0
  have l_V1_S := heap_lt B_S.out
  go_wp2_with fail
  refine (WH0 _).mono ?_
  rintro e' V2 ⟨rfl, os2, q2, hg2⟩
  have kg2 := kept_grow hg2
  clear hg2
  clear c_V1_G_0 c_V1_G_1 c_V1_G_2 c_V1_G_3 l_V1_G c_V1_S_0 l_V1_S
  try rw [E_S] at kg2
  have kA2 : Kept [] V1 V2 := Kept.tr (Kept.refl [] V1) kg2
  have Z_G := kA2.at B_G.out (by simp)
  have Z_S := kA2.at B_S.out (by simp)
  have g2 := KW.out.1
  replace B_G := Lib.hid Z_G
  replace B_S := Lib.hid Z_S
  replace KW := Lib.hid (Kept.tr KW.out kA2)
  clear Z_G Z_S kA2 g2 kg2
  clear E_S
  have c_V2_G_0 : V2.cell? ⟨G, 0, none⟩ = some (.int .i64 3) := cell_of B_G.out 0
  have c_V2_G_1 : V2.cell? ⟨G, 1, none⟩ = some (.int .i64 1) := cell_of B_G.out 1
  have c_V2_G_2 : V2.cell? ⟨G, 2, none⟩ = some (.int .i64 1) := cell_of B_G.out 2
  have c_V2_G_3 : V2.cell? ⟨G, 3, none⟩ = some (.bool false) := cell_of B_G.out 3
  have l_V2_G := heap_lt B_G.out
  have c_V2_S_0 : V2.cell? ⟨S, 0, none⟩ = some (.int .i64 0) := cell_of B_S.out 0
  have l_V2_S := heap_lt B_S.out
  go_wp2_with fail
  refine (SB.out S V2 B_S.out).mono ?_
  rintro e' V3 ⟨rfl, os3, q3, hg3⟩
  have kg3 := kept_grow hg3
  clear hg3
  clear c_V2_G_0 c_V2_G_1 c_V2_G_2 c_V2_G_3 l_V2_G c_V2_S_0 l_V2_S
  have kA3 : Kept [] V2 V3 := Kept.tr (Kept.refl [] V2) kg3
  have Z_G := kA3.at B_G.out (by simp)
  have Z_S := kA3.at B_S.out (by simp)
  have g3 := KW.out.1
  replace B_G := Lib.hid Z_G
  replace B_S := Lib.hid Z_S
  replace KW := Lib.hid (Kept.tr KW.out kA3)
  clear Z_G Z_S kA3 g3 kg3
  have c_V3_G_0 : V3.cell? ⟨G, 0, none⟩ = some (.int .i64 3) := cell_of B_G.out 0
  have c_V3_G_1 : V3.cell? ⟨G, 1, none⟩ = some (.int .i64 1) := cell_of B_G.out 1
  have c_V3_G_2 : V3.cell? ⟨G, 2, none⟩ = some (.int .i64 1) := cell_of B_G.out 2
  have c_V3_G_3 : V3.cell? ⟨G, 3, none⟩ = some (.bool false) := cell_of B_G.out 3
  have l_V3_G := heap_lt B_G.out
  have c_V3_S_0 : V3.cell? ⟨S, 0, none⟩ = some (.int .i64 0) := cell_of B_S.out 0
  have l_V3_S := heap_lt B_S.out
  go_wp2_with fail
  refine wp_loop_rounds 2 ?_
  rw [rounds_succ]
  go_wp2_with fail
  refine (MY _).mono ?_
  rintro e' V4 ⟨rfl, os4, q4, hg4⟩
  have kg4 := kept_grow hg4
  clear hg4
  clear c_V3_G_0 c_V3_G_1 c_V3_G_2 c_V3_G_3 l_V3_G c_V3_S_0 l_V3_S
  have kA4 : Kept [] V3 V4 := Kept.tr (((Kept.refl [] V3).alloc _).alloc _) kg4
  have hx_T10 := kg4.at ((heap_alloc (o := .cells #[.int .i64 3, .int .i64 1, .int .i64 1, .bool false] 267) (by simp <;> omega)).trans (heap_alloc_new (w := V3) (o := .cells #[.int .i64 2, .int .i64 1] 39))) (by simp)
  have hx_T12 := kg4.at (heap_alloc_new (w := (V3.alloc (.cells #[.int .i64 2, .int .i64 1] 39))) (o := .cells #[.int .i64 3, .int .i64 1, .int .i64 1, .bool false] 267)) (by simp)
  simp only [World.size_alloc] at hx_T12
  have Z_G := kA4.at B_G.out (by simp)
  have Z_S := kA4.at B_S.out (by simp)
  obtain ⟨T10, E_T10⟩ : ∃ x, V3.heap.size = x := ⟨_, rfl⟩
  obtain ⟨T12, E_T12⟩ : ∃ x, T10 + 1 = x := ⟨_, rfl⟩
  rw [E_T10] at hx_T10
  rw [E_T10, E_T12] at hx_T12
  have g4 := KW.out.1
  have G_T10 : Hid (w.heap.size ≤ T10) := Lib.hid (by omega)
  have N_G_T10 : Hid (G ≠ T10) := Lib.hid (by have := heap_lt B_G.out; omega)
  have N_S_T10 : Hid (S ≠ T10) := Lib.hid (by have := heap_lt B_S.out; omega)
  have G_T12 : Hid (w.heap.size ≤ T12) := Lib.hid (by omega)
  have N_G_T12 : Hid (G ≠ T12) := Lib.hid (by have := heap_lt B_G.out; omega)
  have N_S_T12 : Hid (S ≠ T12) := Lib.hid (by have := heap_lt B_S.out; omega)
  have N_T10_T12 : Hid (T10 ≠ T12) := Lib.hid (by omega)
  replace B_G := Lib.hid Z_G
  replace B_S := Lib.hid Z_S
  have B_T10 := Lib.hid hx_T10
  have B_T12 := Lib.hid hx_T12
  replace KW := Lib.hid (Kept.tr KW.out kA4)
  clear Z_G Z_S hx_T10 hx_T12 kA4 g4 kg4
  have c_V4_G_0 : V4.cell? ⟨G, 0, none⟩ = some (.int .i64 3) := cell_of B_G.out 0
  have c_V4_G_1 : V4.cell? ⟨G, 1, none⟩ = some (.int .i64 1) := cell_of B_G.out 1
  have c_V4_G_2 : V4.cell? ⟨G, 2, none⟩ = some (.int .i64 1) := cell_of B_G.out 2
  have c_V4_G_3 : V4.cell? ⟨G, 3, none⟩ = some (.bool false) := cell_of B_G.out 3
  have l_V4_G := heap_lt B_G.out
  have c_V4_S_0 : V4.cell? ⟨S, 0, none⟩ = some (.int .i64 0) := cell_of B_S.out 0
  have l_V4_S := heap_lt B_S.out
  have c_V4_T10_0 : V4.cell? ⟨T10, 0, none⟩ = some (.int .i64 2) := cell_of B_T10.out 0
  have c_V4_T10_1 : V4.cell? ⟨T10, 1, none⟩ = some (.int .i64 1) := cell_of B_T10.out 1
  have l_V4_T10 := heap_lt B_T10.out
  have c_V4_T12_0 : V4.cell? ⟨T12, 0, none⟩ = some (.int .i64 3) := cell_of B_T12.out 0
  have c_V4_T12_1 : V4.cell? ⟨T12, 1, none⟩ = some (.int .i64 1) := cell_of B_T12.out 1
  have c_V4_T12_2 : V4.cell? ⟨T12, 2, none⟩ = some (.int .i64 1) := cell_of B_T12.out 2
  have c_V4_T12_3 : V4.cell? ⟨T12, 3, none⟩ = some (.bool false) := cell_of B_T12.out 3
  have l_V4_T12 := heap_lt B_T12.out
  go_wp2_with fail
  refine (CM _).mono ?_
  rintro e' V5 ⟨rfl, os5, q5, hg5⟩
  have kg5 := kept_grow hg5
  clear hg5
  clear c_V4_G_0 c_V4_G_1 c_V4_G_2 c_V4_G_3 l_V4_G c_V4_S_0 l_V4_S c_V4_T10_0 c_V4_T10_1 l_V4_T10 c_V4_T12_0 c_V4_T12_1 c_V4_T12_2 c_V4_T12_3 l_V4_T12
  try rw [E_T10] at kg5
  try rw [E_T12] at kg5
  have kA5 : Kept [] V4 V5 := Kept.tr (Kept.refl [] V4) kg5
  have Z_G := kA5.at B_G.out (by simp)
  have Z_S := kA5.at B_S.out (by simp)
  have Z_T10 := kA5.at B_T10.out (by simp)
  have Z_T12 := kA5.at B_T12.out (by simp)
  have g5 := KW.out.1
  replace B_G := Lib.hid Z_G
  replace B_S := Lib.hid Z_S
  replace B_T10 := Lib.hid Z_T10
  replace B_T12 := Lib.hid Z_T12
  replace KW := Lib.hid (Kept.tr KW.out kA5)
  clear Z_G Z_S Z_T10 Z_T12 kA5 g5 kg5
  clear E_T10 E_T12
  have c_V5_G_0 : V5.cell? ⟨G, 0, none⟩ = some (.int .i64 3) := cell_of B_G.out 0
  have c_V5_G_1 : V5.cell? ⟨G, 1, none⟩ = some (.int .i64 1) := cell_of B_G.out 1
  have c_V5_G_2 : V5.cell? ⟨G, 2, none⟩ = some (.int .i64 1) := cell_of B_G.out 2
  have c_V5_G_3 : V5.cell? ⟨G, 3, none⟩ = some (.bool false) := cell_of B_G.out 3
  have l_V5_G := heap_lt B_G.out
  have c_V5_S_0 : V5.cell? ⟨S, 0, none⟩ = some (.int .i64 0) := cell_of B_S.out 0
  have l_V5_S := heap_lt B_S.out
  have c_V5_T10_0 : V5.cell? ⟨T10, 0, none⟩ = some (.int .i64 2) := cell_of B_T10.out 0
  have c_V5_T10_1 : V5.cell? ⟨T10, 1, none⟩ = some (.int .i64 1) := cell_of B_T10.out 1
  have l_V5_T10 := heap_lt B_T10.out
  have c_V5_T12_0 : V5.cell? ⟨T12, 0, none⟩ = some (.int .i64 3) := cell_of B_T12.out 0
  have c_V5_T12_1 : V5.cell? ⟨T12, 1, none⟩ = some (.int .i64 1) := cell_of B_T12.out 1
  have c_V5_T12_2 : V5.cell? ⟨T12, 2, none⟩ = some (.int .i64 1) := cell_of B_T12.out 2
  have c_V5_T12_3 : V5.cell? ⟨T12, 3, none⟩ = some (.bool false) := cell_of B_T12.out 3
  have l_V5_T12 := heap_lt B_T12.out
  go_wp2_with fail
  rw [rounds_succ]
  go_wp2_with fail
  refine (Sum208 G C cur V5 B_G.out).mono ?_
  rintro e' V6 ⟨rfl, kg6⟩
  clear c_V5_G_0 c_V5_G_1 c_V5_G_2 c_V5_G_3 l_V5_G c_V5_S_0 l_V5_S c_V5_T10_0 c_V5_T10_1 l_V5_T10 c_V5_T12_0 c_V5_T12_1 c_V5_T12_2 c_V5_T12_3 l_V5_T12
  have kA6 : Kept [] V5 V6 := Kept.tr (Kept.refl [] V5) kg6
  have Z_G := kA6.at B_G.out (by simp)
  have Z_S := kA6.at B_S.out (by simp)
  have Z_T10 := kA6.at B_T10.out (by simp)
  have Z_T12 := kA6.at B_T12.out (by simp)
  have g6 := KW.out.1
  replace B_G := Lib.hid Z_G
  replace B_S := Lib.hid Z_S
  replace B_T10 := Lib.hid Z_T10
  replace B_T12 := Lib.hid Z_T12
  replace KW := Lib.hid (Kept.tr KW.out kA6)
  clear Z_G Z_S Z_T10 Z_T12 kA6 g6 kg6
  have c_V6_G_0 : V6.cell? ⟨G, 0, none⟩ = some (.int .i64 3) := cell_of B_G.out 0
  have c_V6_G_1 : V6.cell? ⟨G, 1, none⟩ = some (.int .i64 1) := cell_of B_G.out 1
  have c_V6_G_2 : V6.cell? ⟨G, 2, none⟩ = some (.int .i64 1) := cell_of B_G.out 2
  have c_V6_G_3 : V6.cell? ⟨G, 3, none⟩ = some (.bool false) := cell_of B_G.out 3
  have l_V6_G := heap_lt B_G.out
  have c_V6_S_0 : V6.cell? ⟨S, 0, none⟩ = some (.int .i64 0) := cell_of B_S.out 0
  have l_V6_S := heap_lt B_S.out
  have c_V6_T10_0 : V6.cell? ⟨T10, 0, none⟩ = some (.int .i64 2) := cell_of B_T10.out 0
  have c_V6_T10_1 : V6.cell? ⟨T10, 1, none⟩ = some (.int .i64 1) := cell_of B_T10.out 1
  have l_V6_T10 := heap_lt B_T10.out
  have c_V6_T12_0 : V6.cell? ⟨T12, 0, none⟩ = some (.int .i64 3) := cell_of B_T12.out 0
  have c_V6_T12_1 : V6.cell? ⟨T12, 1, none⟩ = some (.int .i64 1) := cell_of B_T12.out 1
  have c_V6_T12_2 : V6.cell? ⟨T12, 2, none⟩ = some (.int .i64 1) := cell_of B_T12.out 2
  have c_V6_T12_3 : V6.cell? ⟨T12, 3, none⟩ = some (.bool false) := cell_of B_T12.out 3
  have l_V6_T12 := heap_lt B_T12.out
  go_wp2_with fail
  obtain ⟨V7, V_V7⟩ : ∃ x, (V6.alloc (.cells #[.int .i64 1, .int .i64 1] 39)) = x := ⟨_, rfl⟩
  have kg7 : Kept [] (V6.alloc (.cells #[.int .i64 1, .int .i64 1] 39)) V7 := by rw [V_V7]; exact Kept.refl _ _
  clear c_V6_G_0 c_V6_G_1 c_V6_G_2 c_V6_G_3 l_V6_G c_V6_S_0 l_V6_S c_V6_T10_0 c_V6_T10_1 l_V6_T10 c_V6_T12_0 c_V6_T12_1 c_V6_T12_2 c_V6_T12_3 l_V6_T12
  have kA7 : Kept [] V6 V7 := Kept.tr ((Kept.refl [] V6).alloc _) kg7
  have hx_T13 := kg7.at (heap_alloc_new (w := V6) (o := .cells #[.int .i64 1, .int .i64 1] 39)) (by simp)
  have Z_G := kA7.at B_G.out (by simp)
  have Z_S := kA7.at B_S.out (by simp)
  have Z_T10 := kA7.at B_T10.out (by simp)
  have Z_T12 := kA7.at B_T12.out (by simp)
  obtain ⟨T13, E_T13⟩ : ∃ x, V6.heap.size = x := ⟨_, rfl⟩
  rw [E_T13] at hx_T13
  have g7 := KW.out.1
  have G_T13 : Hid (w.heap.size ≤ T13) := Lib.hid (by omega)
  have N_G_T13 : Hid (G ≠ T13) := Lib.hid (by have := heap_lt B_G.out; omega)
  have N_S_T13 : Hid (S ≠ T13) := Lib.hid (by have := heap_lt B_S.out; omega)
  have N_T10_T13 : Hid (T10 ≠ T13) := Lib.hid (by have := heap_lt B_T10.out; omega)
  have N_T12_T13 : Hid (T12 ≠ T13) := Lib.hid (by have := heap_lt B_T12.out; omega)
  replace B_G := Lib.hid Z_G
  replace B_S := Lib.hid Z_S
  replace B_T10 := Lib.hid Z_T10
  replace B_T12 := Lib.hid Z_T12
  have B_T13 := Lib.hid hx_T13
  replace KW := Lib.hid (Kept.tr KW.out kA7)
  clear Z_G Z_S Z_T10 Z_T12 hx_T13 kA7 g7 kg7
  try rw [V_V7]
  try rw [E_T13]
  have BS := B_S.out
  have BT10 := B_T10.out
  refine bornQ 9 [] [15, 78, 77, 76, 75, 74, 73, 72, 71] (mayY S T10) (by kernel_rfl) (by kernel_rfl) (by kernel_rfl) (fun _ _ d _ _ h => by cases d <;> exact h) ?_ ?_ ?_
  · intro i v lo hi w w' hY hw
    unfold mayY at *
    split at hY <;> first
      | exact hY
      | (obtain ⟨b, h1, h2, h3, h4⟩ := hY; exact ⟨b, h1, h2, h3, by rw [hw b h1 h2]; exact h4⟩)
      | trivial
  · intro i hi o ho a W hr hd hk
    rcases i with _ | _ | _ | _ | _ | _ | _ | _ | _ | i
    · cases ho
      have h9 : a.tmps.getD 9 undef = .pointer (some ⟨S, 0, none⟩) := (hr 9 (by kernel_rfl)).trans (by kernel_rfl)
      refine ⟨fun h => absurd h (by decide), fun _ => ?_⟩
      clear hr hd hk
      exact born_value _ (by go_simp; try rfl) rfl
    · cases ho
      have h10 : a.tmps.getD 10 undef = .pointer (some ⟨T10, 0, none⟩) := (hr 10 (by kernel_rfl)).trans (by kernel_rfl)
      refine ⟨fun h => absurd h (by decide), fun _ => ?_⟩
      have c0 : W.cell? ⟨T10, 0, none⟩ = some (.int .i64 2) := cell_of (hk.at BT10 (by simp)) 0
      have c1 : W.cell? ⟨T10, 1, none⟩ = some (.int .i64 1) := cell_of (hk.at BT10 (by simp)) 1
      have ll := hk.lt (heap_lt BT10)
      clear hr hd hk
      exact born_value _ (by go_simp; try rfl) rfl
    · cases ho
      have h3 : a.tmps.getD 3 undef = .int .i64 1 := (hr 3 (by kernel_rfl)).trans (by kernel_rfl)
      refine ⟨fun h => absurd h (by decide), fun _ => ?_⟩
      clear hr hd hk
      exact born_value _ (by go_simp; try rfl) rfl
    · cases ho
      obtain ⟨_, _, h73⟩ := hd 2 73 (by kernel_rfl) (by kernel_rfl)
      have h73 : a.tmps.getD 73 undef = .int .i64 1 := h73
      refine ⟨fun h => absurd h (by decide), fun _ => ?_⟩
      clear hr hd hk
      refine Or.inr ⟨_, _, W, by go_simp; first | done | rfl | exact ⟨rfl, rfl⟩, (WH1 W).mono ?_⟩
      rintro e' w' ⟨rfl, os, q, rfl⟩
      exact ⟨_, rfl, (Kept.refl _ _).grow _ _, rfl⟩
    · cases ho
      obtain ⟨_, _, h72⟩ := hd 1 72 (by kernel_rfl) (by kernel_rfl)
      have h72 : a.tmps.getD 72 undef = wi 2 := h72
      obtain ⟨_, _, h74⟩ := hd 3 74 (by kernel_rfl) (by kernel_rfl)
      have h74 : a.tmps.getD 74 undef = wi 1 := h74
      refine ⟨fun h => absurd h (by decide), fun _ => ?_⟩
      clear hr hd hk
      refine Or.inr ⟨_, _, W, by go_simp; first | done | rfl | exact ⟨rfl, rfl⟩, (ML W).mono ?_⟩
      rintro e' w' ⟨rfl, os, q, rfl⟩
      exact ⟨_, rfl, (Kept.refl _ _).grow _ _, rfl⟩
    · cases ho
      obtain ⟨_, _, h75⟩ := hd 4 75 (by kernel_rfl) (by kernel_rfl)
      have h75 : a.tmps.getD 75 undef = .tuple #[wi 2, .int .i64 0] := h75
      refine ⟨fun h => absurd h (by decide), fun _ => ?_⟩
      clear hr hd hk
      exact born_value _ (by go_simp; try rfl) rfl
    · cases ho
      obtain ⟨_, _, h75⟩ := hd 4 75 (by kernel_rfl) (by kernel_rfl)
      have h75 : a.tmps.getD 75 undef = .tuple #[wi 2, .int .i64 0] := h75
      refine ⟨fun h => absurd h (by decide), fun _ => ?_⟩
      clear hr hd hk
      exact born_value _ (by go_simp; try rfl) rfl
    · cases ho
      obtain ⟨_, _, h71⟩ := hd 0 71 (by kernel_rfl) (by kernel_rfl)
      have h71 : a.tmps.getD 71 undef = .pointer (some ⟨S, 0, none⟩) := h71
      obtain ⟨_, _, h76⟩ := hd 5 76 (by kernel_rfl) (by kernel_rfl)
      have h76 : a.tmps.getD 76 undef = wi 2 := h76
      obtain ⟨_, _, h77⟩ := hd 6 77 (by kernel_rfl) (by kernel_rfl)
      have h77 : a.tmps.getD 77 undef = .int .i64 0 := h77
      refine ⟨fun h => absurd h (by decide), fun _ => ?_⟩
      have hs := hk.at BS (by simp)
      clear hr hd hk
      refine Or.inr ⟨_, _, W, by go_simp; first | done | rfl | exact ⟨rfl, rfl⟩, (keep209 S 2 1 W hs).mono ?_⟩
      rintro e' w' ⟨rfl, os, q, rfl⟩
      exact ⟨_, rfl, (Kept.refl _ _).grow _ _, rfl⟩
    · cases ho
      refine ⟨fun h => absurd h (by decide), fun _ => ?_⟩
      clear hr hd hk
      refine born_alloc _ _ (by go_simp; first | done | rfl | exact ⟨rfl, rfl⟩) ⟨W.heap.size, by omega, by omega, rfl, heap_alloc_new⟩
    · omega
  · intro vs lo hi W hK h1 h2
    have yy0 : vs 0 = .pointer (some ⟨S, 0, none⟩) := (h1 0 (by omega)).2.2.2
    have yy1 : vs 1 = wi 2 := (h1 1 (by omega)).2.2.2
    have yy2 : vs 2 = .int .i64 1 := (h1 2 (by omega)).2.2.2
    have yy3 : vs 3 = wi 1 := (h1 3 (by omega)).2.2.2
    have yy4 : vs 4 = .tuple #[wi 2, .int .i64 0] := (h1 4 (by omega)).2.2.2
    have yy5 : vs 5 = wi 2 := (h1 5 (by omega)).2.2.2
    have yy6 : vs 6 = .int .i64 0 := (h1 6 (by omega)).2.2.2
    have yy7 : vs 7 = wi 2 := (h1 7 (by omega)).2.2.2
    obtain ⟨p8, q8, r8, b8, t8, u8, yy8, z8⟩ := h1 8 (by omega)
    simp only [fillR, List.length_cons, List.length_nil, Nat.reduceAdd, List.setIfInBounds_toArray, List.set_cons_succ, List.set_cons_zero]
    rw [yy0, yy1, yy2, yy3, yy4, yy5, yy6, yy7, yy8]
    show wpAny _ _ _ _ 1 _ _ _
    have g7 := KW.out.1
    have gT15 : w.heap.size ≤ b8 := by omega
    have hf0 : W.frozen? ⟨b8, 0, none⟩ = false := frozen_of z8 0
    have hf1 : W.frozen? ⟨b8, 1, none⟩ = false := frozen_of z8 1
    have he0 : W.cell? ⟨b8, 0, none⟩ = some (.int .i64 0) := cell_of z8 0
    have he1 : W.cell? ⟨b8, 1, none⟩ = some (.int .i64 0) := cell_of z8 1
    have hl8 := heap_lt z8
    have h15 : ((W.setCell ⟨b8, 0, none⟩ (.int .i64 2)).setCell ⟨b8, 1, none⟩ (.int .i64 1)).heap[b8]? = some (.cells #[.int .i64 2, .int .i64 1] 39 (0, 0)) := heap_setCell (heap_setCell z8)
    have kk : Kept [] V7 ((W.setCell ⟨b8, 0, none⟩ (.int .i64 2)).setCell ⟨b8, 1, none⟩ (.int .i64 1)) := (hK.setCell _ _ (Or.inr (by show V7.heap.size ≤ b8; omega))).setCell _ _ (Or.inr (by show V7.heap.size ≤ b8; omega))
    obtain ⟨V8, V_V8⟩ : ∃ V8, (W.setCell ⟨b8, 0, none⟩ (.int .i64 2)).setCell ⟨b8, 1, none⟩ (.int .i64 1) = V8 := ⟨_, rfl⟩
    rw [V_V8] at h15 kk
    have BT13 := kk.at B_T13.out (by simp)
    have BS8 := kk.at BS (by simp)
    replace KW := Lib.hid (Kept.tr KW.out kk)
    clear kk g7 gT15 h1 h2 p8 q8 r8 t8 u8 yy0 yy1 yy2 yy3 yy4 yy5 yy6 yy7 yy8 z8 hK WH2 WH0 WH1 MY ML BS BT10
    refine aSkip (i := 9) (w' := ?_) rfl (by kernel_rfl) (by rfl) ?_ ?_
    rotate_left 1
    · go_simp; all_goals with_reducible rfl
    try simp only [Act.put, zA, zB, zC]
    refine wpAny_done (by kernel_rfl) ?_ _
    try rw [V_V8]
    have s0 : V8.cell? ⟨S, 0, none⟩ = some (.int .i64 0) := cell_of BS8 0
    have ls := heap_lt BS8
    have a0 : V8.cell? ⟨T13, 0, none⟩ = some (.int .i64 1) := cell_of BT13 0
    have a1 : V8.cell? ⟨T13, 1, none⟩ = some (.int .i64 1) := cell_of BT13 1
    have la := heap_lt BT13
    have d0 : V8.cell? ⟨b8, 0, none⟩ = some (.int .i64 2) := cell_of h15 0
    have d1 : V8.cell? ⟨b8, 1, none⟩ = some (.int .i64 1) := cell_of h15 1
    have ld := heap_lt h15
    clear hf0 hf1 he0 he1 hl8 V_V8 BT13 BS8 h15
    go_wp2_with fail
    refine (CM _).mono ?_
    rintro e' V9 ⟨rfl, os9, q9, h9⟩
    replace KW := Lib.hid (Kept.tr KW.out (kept_grow h9))
    clear h9 s0 ls a0 a1 la d0 d1 ld
    go_wp2_with fail
    go_returns
    exact ⟨rfl, KW.out⟩
end
end Go.Proofs.YtgfbfklnhmndfaaGreat
