/- The parts of the top that the law of early release walks through: part 45 of 52. -/
import Derived.Test.YtgfbfklnhmndfaaGreatA1
import Derived.Test.YtgfbfklnhmndfaaGreatA3
import Derived.Test.YtgfbfklnhmndfaaGreatA4
import Derived.Test.YtgfbfklnhmndfaaGreatA8
import Derived.Test.YtgfbfklnhmndfaaGreatA9
import Derived.Test.YtgfbfklnhmndfaaGreatA10
import Derived.Test.YtgfbfklnhmndfaaGreatA15
import Derived.Test.YtgfbfklnhmndfaaGreatA16
import Derived.Test.YtgfbfklnhmndfaaGreatA21
import Derived.Test.YtgfbfklnhmndfaaGreatA23
import Derived.Test.YtgfbfklnhmndfaaGreatA24
import Derived.Test.YtgfbfklnhmndfaaGreatA27
import Derived.Test.YtgfbfklnhmndfaaGreatA29
import Derived.Test.YtgfbfklnhmndfaaGreatA30
import Derived.Test.YtgfbfklnhmndfaaGreatA32
import Derived.Test.YtgfbfklnhmndfaaGreatA35
import Derived.Test.YtgfbfklnhmndfaaGreatA36
import Derived.Test.YtgfbfklnhmndfaaGreatA41
import Derived.Test.YtgfbfklnhmndfaaGreatA42
import Derived.Test.YtgfbfklnhmndfaaGreatA44
namespace Go.Proofs.YtgfbfklnhmndfaaGreat
open Go.RowKit
set_option linter.unusedSimpArgs false
set_option linter.unusedVariables false
section
attribute [local go_sem ↓] setCell_drewN alloc_drewN grow_cell grow_frozen setCell_grow grow_size cell_alloc_grow frozen_alloc_grow setCell_alloc_grow cell_grow_alloc_grow frozen_grow_alloc_grow setCell_grow_alloc_grow grow_grow
attribute [local go_sem] lt_len size_setCell
theorem mkPiece1 (W : World) : (Instr.buildSlice 32 1 #[(0, .agg #[.int .i64 3, .int .i64 0, .int .i64 3, .int .i64 0, .int .i64 1, .int .i64 1, .int .i64 1, .bool false])]).run Tryz.prog W = .ok (.slice (some ⟨W.heap.size, 0, none⟩) 1 1) (W.alloc (.cells #[.int .i64 3, .int .i64 0, .int .i64 3, .int .i64 0, .int .i64 1, .int .i64 1, .int .i64 1, .bool false] 53)) := by kernel_rfl
def layY (S T14 T15 T18 : Nat) (i : Nat) (v : Value) (lo hi : Nat) (w : World) : Prop := match i with
  | 0 => v = wi 1
  | 1 => v = .pointer (some ⟨S, 0, none⟩)
  | 2 => v = wi 2
  | 3 => v = wi 0
  | 4 => v = wi 2
  | 5 => v = wi 1
  | 6 => ∃ b, lo ≤ b ∧ b < hi ∧ v = .pointer (some ⟨b, 0, none⟩) ∧ w.heap[b]? = some (.cells #[.int .i64 0, .int .i64 0] 39 (0, 0))
  | _ => True
set_option maxHeartbeats 4000000 in
set_option maxRecDepth 100000 in
theorem Lay123 (G C : Nat) (cur : List Value) (w : World) (hg : w.heap[G]? = some (.cells (.int .i64 3 :: .int .i64 1 :: .int .i64 1 :: .bool false :: cur).toArray 267 (0, 0))) :
    Calls Tryz.prog 123 #[.slice (some ⟨G, 0, none⟩) 1 C, .int .i64 0, .int .i64 2, .int .i64 1] w fun e W => ∃ L c cur', e = .returned (.tuple #[.slice (some ⟨L, 0, none⟩) 1 c, .int .i64 0]) ∧ w.heap.size ≤ L ∧ W.heap[L]? = some (.cells (pieceL 3 0 3 0 1 1 1 false cur').toArray 53 (0, 0)) ∧ Kept [] w W := by
  have WH2 := fun w => whole140 2 w
  have WH0 := fun w => whole140 0 w
  obtain ⟨i0, hii, hz0, hz1, hby⟩ := info_of infoPiece
  have mk := fun w => mkPiece1 w
  have SB := fun (b : Nat) (w : World) (h : SumsAt w b) => sub164 b 2 0 (by omega) (by omega) (by omega) (by omega) w h
  rw [show (2 : Int) - 0 = 2 by omega] at SB
  have SC := fun (b : Nat) (w : World) (h : SumsAt w b) => sub164 b 1 1 (by omega) (by omega) (by omega) (by omega) w h
  rw [show (1 : Int) - 1 = 0 by omega] at SC
  have AB := fun (b : Nat) (w : World) (h : SumsAt w b) => add165 b 0 1 (by omega) (by omega) (by omega) (by omega) w h
  rw [show (0 : Int) + 1 = 1 by omega] at AB
  have LS := fun w => less141 1 2 (by omega) (by omega) (by omega) (by omega) (by omega) w
  have CM := fun w => cmpRI 1 2 (by omega) (by omega) (by omega) (by omega) w
  rw [show cmpR ((1 : Int) : Rat) ((2 : Int) : Rat) = -1 by unfold cmpR; rw [if_pos (by rw [Rat.intCast_lt_intCast]; omega)]] at CM
  replace SB := Lib.hid SB
  replace SC := Lib.hid SC
  replace AB := Lib.hid AB
  have KW : Hid (Kept [] w w) := Lib.hid (Kept.refl _ _)
  have B_G := Lib.hid (hg)
  clear hg
  have c_w_G_0 : w.cell? ⟨G, 0, none⟩ = some (.int .i64 3) := cell_of B_G.out 0
  have c_w_G_1 : w.cell? ⟨G, 1, none⟩ = some (.int .i64 1) := cell_of B_G.out 1
  have c_w_G_2 : w.cell? ⟨G, 2, none⟩ = some (.int .i64 1) := cell_of B_G.out 2
  have c_w_G_3 : w.cell? ⟨G, 3, none⟩ = some (.bool false) := cell_of B_G.out 3
  have l_w_G := heap_lt B_G.out
  go_enter Tryz.func123, Tryz.ntmps123
  go_wp2_with fail
  refine (may163 G C cur w B_G.out).mono ?_
  rintro e' V1 ⟨rfl, kg1⟩
  clear c_w_G_0 c_w_G_1 c_w_G_2 c_w_G_3 l_w_G
  have kA1 : Kept [] w V1 := Kept.tr (Kept.refl [] w) kg1
  have Z_G := kA1.at B_G.out (by simp)
  have g1 := KW.out.1
  replace B_G := Lib.hid Z_G
  replace KW := Lib.hid (Kept.tr KW.out kA1)
  clear Z_G kA1 g1 kg1
  have c_V1_G_0 : V1.cell? ⟨G, 0, none⟩ = some (.int .i64 3) := cell_of B_G.out 0
  have c_V1_G_1 : V1.cell? ⟨G, 1, none⟩ = some (.int .i64 1) := cell_of B_G.out 1
  have c_V1_G_2 : V1.cell? ⟨G, 2, none⟩ = some (.int .i64 1) := cell_of B_G.out 2
  have c_V1_G_3 : V1.cell? ⟨G, 3, none⟩ = some (.bool false) := cell_of B_G.out 3
  have l_V1_G := heap_lt B_G.out
  go_wp2_with fail
  refine (WH0 _).mono ?_
  rintro e' V2 ⟨rfl, os2, q2, hg2⟩
  have kg2 := kept_grow hg2
  clear hg2
  clear c_V1_G_0 c_V1_G_1 c_V1_G_2 c_V1_G_3 l_V1_G
  have kA2 : Kept [] V1 V2 := Kept.tr ((Kept.refl [] V1).alloc _) kg2
  have hx_S := kg2.at (heap_alloc_new (w := V1) (o := .cells #[.int .i64 0] 271)) (by simp)
  have Z_G := kA2.at B_G.out (by simp)
  obtain ⟨S, E_S⟩ : ∃ x, V1.heap.size = x := ⟨_, rfl⟩
  rw [E_S] at hx_S
  have g2 := KW.out.1
  have G_S : Hid (w.heap.size ≤ S) := Lib.hid (by omega)
  have N_G_S : Hid (G ≠ S) := Lib.hid (by have := heap_lt B_G.out; omega)
  replace B_G := Lib.hid Z_G
  have B_S := Lib.hid hx_S
  replace KW := Lib.hid (Kept.tr KW.out kA2)
  clear Z_G hx_S kA2 g2 kg2
  try rw [E_S]
  have c_V2_G_0 : V2.cell? ⟨G, 0, none⟩ = some (.int .i64 3) := cell_of B_G.out 0
  have c_V2_G_1 : V2.cell? ⟨G, 1, none⟩ = some (.int .i64 1) := cell_of B_G.out 1
  have c_V2_G_2 : V2.cell? ⟨G, 2, none⟩ = some (.int .i64 1) := cell_of B_G.out 2
  have c_V2_G_3 : V2.cell? ⟨G, 3, none⟩ = some (.bool false) := cell_of B_G.out 3
  have l_V2_G := heap_lt B_G.out
  have c_V2_S_0 : V2.cell? ⟨S, 0, none⟩ = some (.int .i64 0) := cell_of B_S.out 0
  have l_V2_S := heap_lt B_S.out
  go_wp2_with fail
  refine (WH2 _).mono ?_
  rintro e' V3 ⟨rfl, os3, q3, hg3⟩
  have kg3 := kept_grow hg3
  clear hg3
  clear c_V2_G_0 c_V2_G_1 c_V2_G_2 c_V2_G_3 l_V2_G c_V2_S_0 l_V2_S
  try rw [E_S] at kg3
  have kA3 : Kept [] V2 V3 := Kept.tr (Kept.refl [] V2) kg3
  have Z_G := kA3.at B_G.out (by simp)
  have Z_S := kA3.at B_S.out (by simp)
  have g3 := KW.out.1
  replace B_G := Lib.hid Z_G
  replace B_S := Lib.hid Z_S
  replace KW := Lib.hid (Kept.tr KW.out kA3)
  clear Z_G Z_S kA3 g3 kg3
  clear E_S
  have c_V3_G_0 : V3.cell? ⟨G, 0, none⟩ = some (.int .i64 3) := cell_of B_G.out 0
  have c_V3_G_1 : V3.cell? ⟨G, 1, none⟩ = some (.int .i64 1) := cell_of B_G.out 1
  have c_V3_G_2 : V3.cell? ⟨G, 2, none⟩ = some (.int .i64 1) := cell_of B_G.out 2
  have c_V3_G_3 : V3.cell? ⟨G, 3, none⟩ = some (.bool false) := cell_of B_G.out 3
  have l_V3_G := heap_lt B_G.out
  have c_V3_S_0 : V3.cell? ⟨S, 0, none⟩ = some (.int .i64 0) := cell_of B_S.out 0
  have l_V3_S := heap_lt B_S.out
  go_wp2_with fail
  obtain ⟨V4, V_V4⟩ : ∃ x, ((V3.alloc (.cells #[.int .i64 0, .int .i64 1] 39)).alloc (.cells #[.int .i64 2, .int .i64 1] 39)) = x := ⟨_, rfl⟩
  have kg4 : Kept [] ((V3.alloc (.cells #[.int .i64 0, .int .i64 1] 39)).alloc (.cells #[.int .i64 2, .int .i64 1] 39)) V4 := by rw [V_V4]; exact Kept.refl _ _
  clear c_V3_G_0 c_V3_G_1 c_V3_G_2 c_V3_G_3 l_V3_G c_V3_S_0 l_V3_S
  have kA4 : Kept [] V3 V4 := Kept.tr (((Kept.refl [] V3).alloc _).alloc _) kg4
  have hx_T14 := kg4.at ((heap_alloc (o := .cells #[.int .i64 2, .int .i64 1] 39) (by simp <;> omega)).trans (heap_alloc_new (w := V3) (o := .cells #[.int .i64 0, .int .i64 1] 39))) (by simp)
  have hx_T15 := kg4.at (heap_alloc_new (w := (V3.alloc (.cells #[.int .i64 0, .int .i64 1] 39))) (o := .cells #[.int .i64 2, .int .i64 1] 39)) (by simp)
  simp only [World.size_alloc] at hx_T15
  have Z_G := kA4.at B_G.out (by simp)
  have Z_S := kA4.at B_S.out (by simp)
  obtain ⟨T14, E_T14⟩ : ∃ x, V3.heap.size = x := ⟨_, rfl⟩
  obtain ⟨T15, E_T15⟩ : ∃ x, T14 + 1 = x := ⟨_, rfl⟩
  rw [E_T14] at hx_T14
  rw [E_T14, E_T15] at hx_T15
  have g4 := KW.out.1
  have G_T14 : Hid (w.heap.size ≤ T14) := Lib.hid (by omega)
  have N_G_T14 : Hid (G ≠ T14) := Lib.hid (by have := heap_lt B_G.out; omega)
  have N_S_T14 : Hid (S ≠ T14) := Lib.hid (by have := heap_lt B_S.out; omega)
  have G_T15 : Hid (w.heap.size ≤ T15) := Lib.hid (by omega)
  have N_G_T15 : Hid (G ≠ T15) := Lib.hid (by have := heap_lt B_G.out; omega)
  have N_S_T15 : Hid (S ≠ T15) := Lib.hid (by have := heap_lt B_S.out; omega)
  have N_T14_T15 : Hid (T14 ≠ T15) := Lib.hid (by omega)
  replace B_G := Lib.hid Z_G
  replace B_S := Lib.hid Z_S
  have B_T14 := Lib.hid hx_T14
  have B_T15 := Lib.hid hx_T15
  replace KW := Lib.hid (Kept.tr KW.out kA4)
  clear Z_G Z_S hx_T14 hx_T15 kA4 g4 kg4
  try rw [E_T14]
  try rw [E_T15]
  try rw [V_V4]
  try rw [E_T14]
  try rw [E_T15]
  have c_V4_G_0 : V4.cell? ⟨G, 0, none⟩ = some (.int .i64 3) := cell_of B_G.out 0
  have c_V4_G_1 : V4.cell? ⟨G, 1, none⟩ = some (.int .i64 1) := cell_of B_G.out 1
  have c_V4_G_2 : V4.cell? ⟨G, 2, none⟩ = some (.int .i64 1) := cell_of B_G.out 2
  have c_V4_G_3 : V4.cell? ⟨G, 3, none⟩ = some (.bool false) := cell_of B_G.out 3
  have l_V4_G := heap_lt B_G.out
  have c_V4_S_0 : V4.cell? ⟨S, 0, none⟩ = some (.int .i64 0) := cell_of B_S.out 0
  have l_V4_S := heap_lt B_S.out
  have c_V4_T14_0 : V4.cell? ⟨T14, 0, none⟩ = some (.int .i64 0) := cell_of B_T14.out 0
  have c_V4_T14_1 : V4.cell? ⟨T14, 1, none⟩ = some (.int .i64 1) := cell_of B_T14.out 1
  have l_V4_T14 := heap_lt B_T14.out
  have c_V4_T15_0 : V4.cell? ⟨T15, 0, none⟩ = some (.int .i64 2) := cell_of B_T15.out 0
  have c_V4_T15_1 : V4.cell? ⟨T15, 1, none⟩ = some (.int .i64 1) := cell_of B_T15.out 1
  have l_V4_T15 := heap_lt B_T15.out
  refine wp_loop_rounds 2 ?_
  rw [rounds_succ]
  go_wp2_with fail
  obtain ⟨V5, V_V5⟩ : ∃ x, ((V4.alloc (.cells #[.int .i64 3, .int .i64 1, .int .i64 1, .bool false] 267)).alloc (.cells #[.int .i64 1, .int .i64 1] 39)) = x := ⟨_, rfl⟩
  have kg5 : Kept [] ((V4.alloc (.cells #[.int .i64 3, .int .i64 1, .int .i64 1, .bool false] 267)).alloc (.cells #[.int .i64 1, .int .i64 1] 39)) V5 := by rw [V_V5]; exact Kept.refl _ _
  clear c_V4_G_0 c_V4_G_1 c_V4_G_2 c_V4_G_3 l_V4_G c_V4_S_0 l_V4_S c_V4_T14_0 c_V4_T14_1 l_V4_T14 c_V4_T15_0 c_V4_T15_1 l_V4_T15
  have kA5 : Kept [] V4 V5 := Kept.tr (((Kept.refl [] V4).alloc _).alloc _) kg5
  have hx_T17 := kg5.at ((heap_alloc (o := .cells #[.int .i64 1, .int .i64 1] 39) (by simp <;> omega)).trans (heap_alloc_new (w := V4) (o := .cells #[.int .i64 3, .int .i64 1, .int .i64 1, .bool false] 267))) (by simp)
  have hx_T18 := kg5.at (heap_alloc_new (w := (V4.alloc (.cells #[.int .i64 3, .int .i64 1, .int .i64 1, .bool false] 267))) (o := .cells #[.int .i64 1, .int .i64 1] 39)) (by simp)
  simp only [World.size_alloc] at hx_T18
  have Z_G := kA5.at B_G.out (by simp)
  have Z_S := kA5.at B_S.out (by simp)
  have Z_T14 := kA5.at B_T14.out (by simp)
  have Z_T15 := kA5.at B_T15.out (by simp)
  obtain ⟨T17, E_T17⟩ : ∃ x, V4.heap.size = x := ⟨_, rfl⟩
  obtain ⟨T18, E_T18⟩ : ∃ x, T17 + 1 = x := ⟨_, rfl⟩
  rw [E_T17] at hx_T17
  rw [E_T17, E_T18] at hx_T18
  have g5 := KW.out.1
  have G_T17 : Hid (w.heap.size ≤ T17) := Lib.hid (by omega)
  have N_G_T17 : Hid (G ≠ T17) := Lib.hid (by have := heap_lt B_G.out; omega)
  have N_S_T17 : Hid (S ≠ T17) := Lib.hid (by have := heap_lt B_S.out; omega)
  have N_T14_T17 : Hid (T14 ≠ T17) := Lib.hid (by have := heap_lt B_T14.out; omega)
  have N_T15_T17 : Hid (T15 ≠ T17) := Lib.hid (by have := heap_lt B_T15.out; omega)
  have G_T18 : Hid (w.heap.size ≤ T18) := Lib.hid (by omega)
  have N_G_T18 : Hid (G ≠ T18) := Lib.hid (by have := heap_lt B_G.out; omega)
  have N_S_T18 : Hid (S ≠ T18) := Lib.hid (by have := heap_lt B_S.out; omega)
  have N_T14_T18 : Hid (T14 ≠ T18) := Lib.hid (by have := heap_lt B_T14.out; omega)
  have N_T15_T18 : Hid (T15 ≠ T18) := Lib.hid (by have := heap_lt B_T15.out; omega)
  have N_T17_T18 : Hid (T17 ≠ T18) := Lib.hid (by omega)
  replace B_G := Lib.hid Z_G
  replace B_S := Lib.hid Z_S
  replace B_T14 := Lib.hid Z_T14
  replace B_T15 := Lib.hid Z_T15
  have B_T17 := Lib.hid hx_T17
  have B_T18 := Lib.hid hx_T18
  replace KW := Lib.hid (Kept.tr KW.out kA5)
  clear Z_G Z_S Z_T14 Z_T15 hx_T17 hx_T18 kA5 g5 kg5
  try rw [E_T17]
  try rw [E_T18]
  try rw [V_V5]
  try rw [E_T17]
  try rw [E_T18]
  clear E_T14 E_T15 V_V4
  have c_V5_G_0 : V5.cell? ⟨G, 0, none⟩ = some (.int .i64 3) := cell_of B_G.out 0
  have c_V5_G_1 : V5.cell? ⟨G, 1, none⟩ = some (.int .i64 1) := cell_of B_G.out 1
  have c_V5_G_2 : V5.cell? ⟨G, 2, none⟩ = some (.int .i64 1) := cell_of B_G.out 2
  have c_V5_G_3 : V5.cell? ⟨G, 3, none⟩ = some (.bool false) := cell_of B_G.out 3
  have l_V5_G := heap_lt B_G.out
  have c_V5_S_0 : V5.cell? ⟨S, 0, none⟩ = some (.int .i64 0) := cell_of B_S.out 0
  have l_V5_S := heap_lt B_S.out
  have c_V5_T14_0 : V5.cell? ⟨T14, 0, none⟩ = some (.int .i64 0) := cell_of B_T14.out 0
  have c_V5_T14_1 : V5.cell? ⟨T14, 1, none⟩ = some (.int .i64 1) := cell_of B_T14.out 1
  have l_V5_T14 := heap_lt B_T14.out
  have c_V5_T15_0 : V5.cell? ⟨T15, 0, none⟩ = some (.int .i64 2) := cell_of B_T15.out 0
  have c_V5_T15_1 : V5.cell? ⟨T15, 1, none⟩ = some (.int .i64 1) := cell_of B_T15.out 1
  have l_V5_T15 := heap_lt B_T15.out
  have c_V5_T17_0 : V5.cell? ⟨T17, 0, none⟩ = some (.int .i64 3) := cell_of B_T17.out 0
  have c_V5_T17_1 : V5.cell? ⟨T17, 1, none⟩ = some (.int .i64 1) := cell_of B_T17.out 1
  have c_V5_T17_2 : V5.cell? ⟨T17, 2, none⟩ = some (.int .i64 1) := cell_of B_T17.out 2
  have c_V5_T17_3 : V5.cell? ⟨T17, 3, none⟩ = some (.bool false) := cell_of B_T17.out 3
  have l_V5_T17 := heap_lt B_T17.out
  have c_V5_T18_0 : V5.cell? ⟨T18, 0, none⟩ = some (.int .i64 1) := cell_of B_T18.out 0
  have c_V5_T18_1 : V5.cell? ⟨T18, 1, none⟩ = some (.int .i64 1) := cell_of B_T18.out 1
  have l_V5_T18 := heap_lt B_T18.out
  refine wp_loop_rounds 2 ?_
  rw [rounds_succ]
  go_wp2_with fail
  have BS := B_S.out
  have BT14 := B_T14.out
  have BT15 := B_T15.out
  have BT18 := B_T18.out
  refine bornQ 7 [] [19, 58, 57, 56, 55, 54, 53] (layY S T14 T15 T18) (by kernel_rfl) (by kernel_rfl) (by kernel_rfl) (fun _ _ d _ _ h => by cases d <;> exact h) ?_ ?_ ?_
  · intro i v lo hi w w' hY hw
    unfold layY at *
    split at hY <;> first
      | exact hY
      | (obtain ⟨b, h1, h2, h3, h4⟩ := hY; exact ⟨b, h1, h2, h3, by rw [hw b h1 h2]; exact h4⟩)
      | trivial
  · intro i hi o ho a W hr hd hk
    rcases i with _ | _ | _ | _ | _ | _ | _ | i
    · cases ho
      have h18 : a.tmps.getD 18 undef = .pointer (some ⟨T18, 0, none⟩) := (hr 18 (by kernel_rfl)).trans (by kernel_rfl)
      refine ⟨fun h => absurd h (by decide), fun _ => ?_⟩
      have c0 : W.cell? ⟨T18, 0, none⟩ = some (.int .i64 1) := cell_of (hk.at BT18 (by simp)) 0
      have c1 : W.cell? ⟨T18, 1, none⟩ = some (.int .i64 1) := cell_of (hk.at BT18 (by simp)) 1
      have ll := hk.lt (heap_lt BT18)
      clear hr hd hk
      exact born_value _ (by go_simp; try rfl) rfl
    · cases ho
      have h12 : a.tmps.getD 12 undef = .pointer (some ⟨S, 0, none⟩) := (hr 12 (by kernel_rfl)).trans (by kernel_rfl)
      refine ⟨fun h => absurd h (by decide), fun _ => ?_⟩
      clear hr hd hk
      exact born_value _ (by go_simp; try rfl) rfl
    · cases ho
      have h15 : a.tmps.getD 15 undef = .pointer (some ⟨T15, 0, none⟩) := (hr 15 (by kernel_rfl)).trans (by kernel_rfl)
      refine ⟨fun h => absurd h (by decide), fun _ => ?_⟩
      have c0 : W.cell? ⟨T15, 0, none⟩ = some (.int .i64 2) := cell_of (hk.at BT15 (by simp)) 0
      have c1 : W.cell? ⟨T15, 1, none⟩ = some (.int .i64 1) := cell_of (hk.at BT15 (by simp)) 1
      have ll := hk.lt (heap_lt BT15)
      clear hr hd hk
      exact born_value _ (by go_simp; try rfl) rfl
    · cases ho
      have h14 : a.tmps.getD 14 undef = .pointer (some ⟨T14, 0, none⟩) := (hr 14 (by kernel_rfl)).trans (by kernel_rfl)
      refine ⟨fun h => absurd h (by decide), fun _ => ?_⟩
      have c0 : W.cell? ⟨T14, 0, none⟩ = some (.int .i64 0) := cell_of (hk.at BT14 (by simp)) 0
      have c1 : W.cell? ⟨T14, 1, none⟩ = some (.int .i64 1) := cell_of (hk.at BT14 (by simp)) 1
      have ll := hk.lt (heap_lt BT14)
      clear hr hd hk
      exact born_value _ (by go_simp; try rfl) rfl
    · cases ho
      obtain ⟨_, _, h54⟩ := hd 1 54 (by kernel_rfl) (by kernel_rfl)
      have h54 : a.tmps.getD 54 undef = .pointer (some ⟨S, 0, none⟩) := h54
      obtain ⟨_, _, h55⟩ := hd 2 55 (by kernel_rfl) (by kernel_rfl)
      have h55 : a.tmps.getD 55 undef = wi 2 := h55
      obtain ⟨_, _, h56⟩ := hd 3 56 (by kernel_rfl) (by kernel_rfl)
      have h56 : a.tmps.getD 56 undef = wi 0 := h56
      refine ⟨fun h => absurd h (by decide), fun _ => ?_⟩
      have hs := hk.at BS (by simp)
      clear hr hd hk
      refine Or.inr ⟨_, _, W, by go_simp; first | done | rfl | exact ⟨rfl, rfl⟩, (SB.out S W hs).mono ?_⟩
      rintro e' w' ⟨rfl, os, q, rfl⟩
      exact ⟨_, rfl, (Kept.refl _ _).grow _ _, rfl⟩
    · cases ho
      obtain ⟨_, _, h53⟩ := hd 0 53 (by kernel_rfl) (by kernel_rfl)
      have h53 : a.tmps.getD 53 undef = wi 1 := h53
      obtain ⟨_, _, h57⟩ := hd 4 57 (by kernel_rfl) (by kernel_rfl)
      have h57 : a.tmps.getD 57 undef = wi 2 := h57
      refine ⟨fun h => absurd h (by decide), fun _ => ?_⟩
      clear hr hd hk
      refine Or.inr ⟨_, _, W, by go_simp; first | done | rfl | exact ⟨rfl, rfl⟩, (LS W).mono ?_⟩
      rintro e' w' ⟨rfl, os, q, rfl⟩
      exact ⟨_, rfl, (Kept.refl _ _).grow _ _, rfl⟩
    · cases ho
      refine ⟨fun h => absurd h (by decide), fun _ => ?_⟩
      clear hr hd hk
      refine born_alloc _ _ (by go_simp; first | done | rfl | exact ⟨rfl, rfl⟩) ⟨W.heap.size, by omega, by omega, rfl, heap_alloc_new⟩
    · omega
  · intro vs lo hi W hK h1 h2
    have yy0 : vs 0 = wi 1 := (h1 0 (by omega)).2.2.2
    have yy1 : vs 1 = .pointer (some ⟨S, 0, none⟩) := (h1 1 (by omega)).2.2.2
    have yy2 : vs 2 = wi 2 := (h1 2 (by omega)).2.2.2
    have yy3 : vs 3 = wi 0 := (h1 3 (by omega)).2.2.2
    have yy4 : vs 4 = wi 2 := (h1 4 (by omega)).2.2.2
    have yy5 : vs 5 = wi 1 := (h1 5 (by omega)).2.2.2
    obtain ⟨p6, q6, r6, b6, t6, u6, yy6, z6⟩ := h1 6 (by omega)
    simp only [fillR, List.length_cons, List.length_nil, Nat.reduceAdd, List.setIfInBounds_toArray, List.set_cons_succ, List.set_cons_zero]
    rw [yy0, yy1, yy2, yy3, yy4, yy5, yy6]
    show wpAny _ _ _ _ 1 _ _ _
    have ge : V5.heap.size ≤ b6 := Nat.le_trans p6 t6
    have hf0 : W.frozen? ⟨b6, 0, none⟩ = false := frozen_of z6 0
    have hf1 : W.frozen? ⟨b6, 1, none⟩ = false := frozen_of z6 1
    have he0 : W.cell? ⟨b6, 0, none⟩ = some (.int .i64 0) := cell_of z6 0
    have he1 : W.cell? ⟨b6, 1, none⟩ = some (.int .i64 0) := cell_of z6 1
    have hl8 := heap_lt z6
    have h15 : ((W.setCell ⟨b6, 0, none⟩ (.int .i64 1)).setCell ⟨b6, 1, none⟩ (.int .i64 1)).heap[b6]? = some (.cells #[.int .i64 1, .int .i64 1] 39 (0, 0)) := heap_setCell (heap_setCell z6)
    have kk : Kept [] V5 ((W.setCell ⟨b6, 0, none⟩ (.int .i64 1)).setCell ⟨b6, 1, none⟩ (.int .i64 1)) := (hK.setCell _ _ (Or.inr ge)).setCell _ _ (Or.inr ge)
    obtain ⟨V6, V_V6⟩ : ∃ V6, (W.setCell ⟨b6, 0, none⟩ (.int .i64 1)).setCell ⟨b6, 1, none⟩ (.int .i64 1) = V6 := ⟨_, rfl⟩
    rw [V_V6] at h15 kk
    have Z_G := kk.at B_G.out (by simp)
    have Z_S := kk.at B_S.out (by simp)
    have Z_T14 := kk.at B_T14.out (by simp)
    have Z_T15 := kk.at B_T15.out (by simp)
    have Z_T17 := kk.at B_T17.out (by simp)
    have Z_T18 := kk.at B_T18.out (by simp)
    have gg := KW.out.1
    have G_b6 : Hid (w.heap.size ≤ b6) := Lib.hid (Nat.le_trans gg ge)
    have N_G_b6 : Hid (G ≠ b6) := Lib.hid (Nat.ne_of_lt (Nat.lt_of_lt_of_le (heap_lt B_G.out) ge))
    have N_S_b6 : Hid (S ≠ b6) := Lib.hid (Nat.ne_of_lt (Nat.lt_of_lt_of_le (heap_lt B_S.out) ge))
    have N_T14_b6 : Hid (T14 ≠ b6) := Lib.hid (Nat.ne_of_lt (Nat.lt_of_lt_of_le (heap_lt B_T14.out) ge))
    have N_T15_b6 : Hid (T15 ≠ b6) := Lib.hid (Nat.ne_of_lt (Nat.lt_of_lt_of_le (heap_lt B_T15.out) ge))
    have N_T17_b6 : Hid (T17 ≠ b6) := Lib.hid (Nat.ne_of_lt (Nat.lt_of_lt_of_le (heap_lt B_T17.out) ge))
    have N_T18_b6 : Hid (T18 ≠ b6) := Lib.hid (Nat.ne_of_lt (Nat.lt_of_lt_of_le (heap_lt B_T18.out) ge))
    replace B_G := Lib.hid Z_G
    replace B_S := Lib.hid Z_S
    replace B_T14 := Lib.hid Z_T14
    replace B_T15 := Lib.hid Z_T15
    replace B_T17 := Lib.hid Z_T17
    replace B_T18 := Lib.hid Z_T18
    have B_b6 := Lib.hid h15
    replace KW := Lib.hid (Kept.tr KW.out kk)
    clear gg Z_G Z_S Z_T14 Z_T15 Z_T17 Z_T18
    clear c_V5_G_0 c_V5_G_1 c_V5_G_2 c_V5_G_3 l_V5_G c_V5_S_0 l_V5_S c_V5_T14_0 c_V5_T14_1 l_V5_T14 c_V5_T15_0 c_V5_T15_1 l_V5_T15 c_V5_T17_0 c_V5_T17_1 c_V5_T17_2 c_V5_T17_3 l_V5_T17 c_V5_T18_0 c_V5_T18_1 l_V5_T18
    clear kk h15 ge h1 h2 p6 q6 r6 t6 u6 yy0 yy1 yy2 yy3 yy4 yy5 yy6 z6 hK WH2 WH0 LS BS BT14 BT15 BT18
    refine aSkip (i := 7) (w' := ?_) rfl (by kernel_rfl) (by rfl) ?_ ?_
    rotate_left 1
    · go_simp; all_goals with_reducible rfl
    try simp only [Act.put, zA, zB, zC]
    refine wpAny_done (by kernel_rfl) ?_ _
    try rw [V_V6]
    clear hf0 hf1 he0 he1 hl8 V_V6
    have c_V6_G_0 : V6.cell? ⟨G, 0, none⟩ = some (.int .i64 3) := cell_of B_G.out 0
    have c_V6_G_1 : V6.cell? ⟨G, 1, none⟩ = some (.int .i64 1) := cell_of B_G.out 1
    have c_V6_G_2 : V6.cell? ⟨G, 2, none⟩ = some (.int .i64 1) := cell_of B_G.out 2
    have c_V6_G_3 : V6.cell? ⟨G, 3, none⟩ = some (.bool false) := cell_of B_G.out 3
    have l_V6_G := heap_lt B_G.out
    have c_V6_S_0 : V6.cell? ⟨S, 0, none⟩ = some (.int .i64 0) := cell_of B_S.out 0
    have l_V6_S := heap_lt B_S.out
    have c_V6_T14_0 : V6.cell? ⟨T14, 0, none⟩ = some (.int .i64 0) := cell_of B_T14.out 0
    have c_V6_T14_1 : V6.cell? ⟨T14, 1, none⟩ = some (.int .i64 1) := cell_of B_T14.out 1
    have l_V6_T14 := heap_lt B_T14.out
    have c_V6_T15_0 : V6.cell? ⟨T15, 0, none⟩ = some (.int .i64 2) := cell_of B_T15.out 0
    have c_V6_T15_1 : V6.cell? ⟨T15, 1, none⟩ = some (.int .i64 1) := cell_of B_T15.out 1
    have l_V6_T15 := heap_lt B_T15.out
    have c_V6_T17_0 : V6.cell? ⟨T17, 0, none⟩ = some (.int .i64 3) := cell_of B_T17.out 0
    have c_V6_T17_1 : V6.cell? ⟨T17, 1, none⟩ = some (.int .i64 1) := cell_of B_T17.out 1
    have c_V6_T17_2 : V6.cell? ⟨T17, 2, none⟩ = some (.int .i64 1) := cell_of B_T17.out 2
    have c_V6_T17_3 : V6.cell? ⟨T17, 3, none⟩ = some (.bool false) := cell_of B_T17.out 3
    have l_V6_T17 := heap_lt B_T17.out
    have c_V6_T18_0 : V6.cell? ⟨T18, 0, none⟩ = some (.int .i64 1) := cell_of B_T18.out 0
    have c_V6_T18_1 : V6.cell? ⟨T18, 1, none⟩ = some (.int .i64 1) := cell_of B_T18.out 1
    have l_V6_T18 := heap_lt B_T18.out
    have c_V6_b6_0 : V6.cell? ⟨b6, 0, none⟩ = some (.int .i64 1) := cell_of B_b6.out 0
    have c_V6_b6_1 : V6.cell? ⟨b6, 1, none⟩ = some (.int .i64 1) := cell_of B_b6.out 1
    have l_V6_b6 := heap_lt B_b6.out
    go_wp2_with fail
    refine (AB.out S V6 B_S.out).mono ?_
    rintro e' V7 ⟨rfl, os6, q6, hg6⟩
    have kg6 := kept_grow hg6
    clear hg6
    clear c_V6_G_0 c_V6_G_1 c_V6_G_2 c_V6_G_3 l_V6_G c_V6_S_0 l_V6_S c_V6_T14_0 c_V6_T14_1 l_V6_T14 c_V6_T15_0 c_V6_T15_1 l_V6_T15 c_V6_T17_0 c_V6_T17_1 c_V6_T17_2 c_V6_T17_3 l_V6_T17 c_V6_T18_0 c_V6_T18_1 l_V6_T18 c_V6_b6_0 c_V6_b6_1 l_V6_b6
    have kA6 : Kept [] V6 V7 := Kept.tr (Kept.refl [] V6) kg6
    have Z_G := kA6.at B_G.out (by simp)
    have Z_S := kA6.at B_S.out (by simp)
    have Z_T14 := kA6.at B_T14.out (by simp)
    have Z_T15 := kA6.at B_T15.out (by simp)
    have Z_T17 := kA6.at B_T17.out (by simp)
    have Z_T18 := kA6.at B_T18.out (by simp)
    have Z_b6 := kA6.at B_b6.out (by simp)
    have g6 := KW.out.1
    replace B_G := Lib.hid Z_G
    replace B_S := Lib.hid Z_S
    replace B_T14 := Lib.hid Z_T14
    replace B_T15 := Lib.hid Z_T15
    replace B_T17 := Lib.hid Z_T17
    replace B_T18 := Lib.hid Z_T18
    replace B_b6 := Lib.hid Z_b6
    replace KW := Lib.hid (Kept.tr KW.out kA6)
    clear Z_G Z_S Z_T14 Z_T15 Z_T17 Z_T18 Z_b6 kA6 g6 kg6
    have c_V7_G_0 : V7.cell? ⟨G, 0, none⟩ = some (.int .i64 3) := cell_of B_G.out 0
    have c_V7_G_1 : V7.cell? ⟨G, 1, none⟩ = some (.int .i64 1) := cell_of B_G.out 1
    have c_V7_G_2 : V7.cell? ⟨G, 2, none⟩ = some (.int .i64 1) := cell_of B_G.out 2
    have c_V7_G_3 : V7.cell? ⟨G, 3, none⟩ = some (.bool false) := cell_of B_G.out 3
    have l_V7_G := heap_lt B_G.out
    have c_V7_S_0 : V7.cell? ⟨S, 0, none⟩ = some (.int .i64 0) := cell_of B_S.out 0
    have l_V7_S := heap_lt B_S.out
    have c_V7_T14_0 : V7.cell? ⟨T14, 0, none⟩ = some (.int .i64 0) := cell_of B_T14.out 0
    have c_V7_T14_1 : V7.cell? ⟨T14, 1, none⟩ = some (.int .i64 1) := cell_of B_T14.out 1
    have l_V7_T14 := heap_lt B_T14.out
    have c_V7_T15_0 : V7.cell? ⟨T15, 0, none⟩ = some (.int .i64 2) := cell_of B_T15.out 0
    have c_V7_T15_1 : V7.cell? ⟨T15, 1, none⟩ = some (.int .i64 1) := cell_of B_T15.out 1
    have l_V7_T15 := heap_lt B_T15.out
    have c_V7_T17_0 : V7.cell? ⟨T17, 0, none⟩ = some (.int .i64 3) := cell_of B_T17.out 0
    have c_V7_T17_1 : V7.cell? ⟨T17, 1, none⟩ = some (.int .i64 1) := cell_of B_T17.out 1
    have c_V7_T17_2 : V7.cell? ⟨T17, 2, none⟩ = some (.int .i64 1) := cell_of B_T17.out 2
    have c_V7_T17_3 : V7.cell? ⟨T17, 3, none⟩ = some (.bool false) := cell_of B_T17.out 3
    have l_V7_T17 := heap_lt B_T17.out
    have c_V7_T18_0 : V7.cell? ⟨T18, 0, none⟩ = some (.int .i64 1) := cell_of B_T18.out 0
    have c_V7_T18_1 : V7.cell? ⟨T18, 1, none⟩ = some (.int .i64 1) := cell_of B_T18.out 1
    have l_V7_T18 := heap_lt B_T18.out
    have c_V7_b6_0 : V7.cell? ⟨b6, 0, none⟩ = some (.int .i64 1) := cell_of B_b6.out 0
    have c_V7_b6_1 : V7.cell? ⟨b6, 1, none⟩ = some (.int .i64 1) := cell_of B_b6.out 1
    have l_V7_b6 := heap_lt B_b6.out
    go_wp2_with (at_builtin; refine wpList_app rfl _ _ rfl Tryz.underlying32 hii hz0 hz1 rfl rfl (by decide) _ _ _ rfl (Or.inl ⟨none, rfl, rfl, rfl⟩) (V7.heap.size + 1) 1 1 [.int .i64 3, .int .i64 0, .int .i64 3, .int .i64 0, .int .i64 1, .int .i64 1, .int .i64 1, .bool false] rfl rfl ?c1 ?c2 (by decide) (by decide) hby ?_)
    case c1 => intro j u hj; rw [cell_new' (by simp), ← hj]; simp
    case c2 => intro u hu; simp only [List.mem_cons, List.not_mem_nil, or_false] at hu; rcases hu with h | h | h | h | h | h | h | h <;> (subst h; rfl)
    intro v' V8 hown hk1 hat
    have kg8 := Kept.mono (U := []) hk1 (by simp [own])
    clear c_V7_G_0 c_V7_G_1 c_V7_G_2 c_V7_G_3 l_V7_G c_V7_S_0 l_V7_S c_V7_T14_0 c_V7_T14_1 l_V7_T14 c_V7_T15_0 c_V7_T15_1 l_V7_T15 c_V7_T17_0 c_V7_T17_1 c_V7_T17_2 c_V7_T17_3 l_V7_T17 c_V7_T18_0 c_V7_T18_1 l_V7_T18 c_V7_b6_0 c_V7_b6_1 l_V7_b6
    clear hk1
    have kA8 : Kept [] V7 V8 := Kept.tr (((Kept.refl [] V7).alloc _).alloc _) kg8
    have hx_T20 := kg8.at ((heap_alloc (o := .cells #[.int .i64 3, .int .i64 0, .int .i64 3, .int .i64 0, .int .i64 1, .int .i64 1, .int .i64 1, .bool false] 53) (by simp <;> omega)).trans (heap_alloc_new (w := V7) (o := .cells #[.int .i64 1, .int .i64 1] 39))) (by simp)
    have hx_X72 := kg8.at (heap_alloc_new (w := (V7.alloc (.cells #[.int .i64 1, .int .i64 1] 39))) (o := .cells #[.int .i64 3, .int .i64 0, .int .i64 3, .int .i64 0, .int .i64 1, .int .i64 1, .int .i64 1, .bool false] 53)) (by simp)
    simp only [World.size_alloc] at hx_X72
    have Z_G := kA8.at B_G.out (by simp)
    have Z_S := kA8.at B_S.out (by simp)
    have Z_T14 := kA8.at B_T14.out (by simp)
    have Z_T15 := kA8.at B_T15.out (by simp)
    have Z_T17 := kA8.at B_T17.out (by simp)
    have Z_T18 := kA8.at B_T18.out (by simp)
    have Z_b6 := kA8.at B_b6.out (by simp)
    obtain ⟨T20, E_T20⟩ : ∃ x, V7.heap.size = x := ⟨_, rfl⟩
    obtain ⟨X72, E_X72⟩ : ∃ x, T20 + 1 = x := ⟨_, rfl⟩
    rw [E_T20] at hx_T20
    rw [E_T20, E_X72] at hx_X72
    have g8 := KW.out.1
    have G_T20 : Hid (w.heap.size ≤ T20) := Lib.hid (by omega)
    have N_G_T20 : Hid (G ≠ T20) := Lib.hid (by have := heap_lt B_G.out; omega)
    have N_S_T20 : Hid (S ≠ T20) := Lib.hid (by have := heap_lt B_S.out; omega)
    have N_T14_T20 : Hid (T14 ≠ T20) := Lib.hid (by have := heap_lt B_T14.out; omega)
    have N_T15_T20 : Hid (T15 ≠ T20) := Lib.hid (by have := heap_lt B_T15.out; omega)
    have N_T17_T20 : Hid (T17 ≠ T20) := Lib.hid (by have := heap_lt B_T17.out; omega)
    have N_T18_T20 : Hid (T18 ≠ T20) := Lib.hid (by have := heap_lt B_T18.out; omega)
    have N_b6_T20 : Hid (b6 ≠ T20) := Lib.hid (by have := heap_lt B_b6.out; omega)
    have G_X72 : Hid (w.heap.size ≤ X72) := Lib.hid (by omega)
    have N_G_X72 : Hid (G ≠ X72) := Lib.hid (by have := heap_lt B_G.out; omega)
    have N_S_X72 : Hid (S ≠ X72) := Lib.hid (by have := heap_lt B_S.out; omega)
    have N_T14_X72 : Hid (T14 ≠ X72) := Lib.hid (by have := heap_lt B_T14.out; omega)
    have N_T15_X72 : Hid (T15 ≠ X72) := Lib.hid (by have := heap_lt B_T15.out; omega)
    have N_T17_X72 : Hid (T17 ≠ X72) := Lib.hid (by have := heap_lt B_T17.out; omega)
    have N_T18_X72 : Hid (T18 ≠ X72) := Lib.hid (by have := heap_lt B_T18.out; omega)
    have N_b6_X72 : Hid (b6 ≠ X72) := Lib.hid (by have := heap_lt B_b6.out; omega)
    have N_T20_X72 : Hid (T20 ≠ X72) := Lib.hid (by omega)
    replace B_G := Lib.hid Z_G
    replace B_S := Lib.hid Z_S
    replace B_T14 := Lib.hid Z_T14
    replace B_T15 := Lib.hid Z_T15
    replace B_T17 := Lib.hid Z_T17
    replace B_T18 := Lib.hid Z_T18
    replace B_b6 := Lib.hid Z_b6
    have B_T20 := Lib.hid hx_T20
    have B_X72 := Lib.hid hx_X72
    replace KW := Lib.hid (Kept.tr KW.out kA8)
    clear Z_G Z_S Z_T14 Z_T15 Z_T17 Z_T18 Z_b6 hx_T20 hx_X72 kA8 g8 kg8
    try rw [E_T20]
    try rw [E_X72]
    obtain ⟨r1, r2⟩ := hown
    rcases r2 with ⟨_, r2⟩ | ⟨L, c3, cr3, rfl, _, r4, r5, r6, r7, r8⟩
    · cases r2
    have hcur : cr3 = (pieceL 3 0 3 0 1 1 1 false (cr3.toList.drop 8)).toArray := by
        have h1 := List.take_append_drop 8 cr3.toList
        have r8' : cr3.toList.take 8 = pieceL 3 0 3 0 1 1 1 false [] := r8
        rw [r8'] at h1
        apply Array.ext'
        rw [← h1]
        simp
    rw [hcur] at r4
    have geL : w.heap.size ≤ L := by
        rcases hat with ⟨hat, _⟩ | ⟨g9, hat, hG9⟩
        · cases hat
        · have hat : some L = some g9 := hat
          cases hat
          have h9 : T20 ≤ L := by
            rw [← E_T20]
            have hG8 := hG9
            first | omega | (simp only [World.size_alloc] at hG8; omega)
          exact Nat.le_trans G_T20.out h9
    have B_L := Lib.hid r4
    replace geL := Lib.hid geL
    clear r1 r4 r5 r6 r7 r8 hcur hat
    have N_G_L : Hid (G ≠ L) := Lib.hid (by rcases Nat.eq_or_lt_of_le (Nat.le_refl 0) with _ | _ <;> exact heap_ne B_G.out B_L.out (by simp))
    have N_S_L : Hid (S ≠ L) := Lib.hid (by rcases Nat.eq_or_lt_of_le (Nat.le_refl 0) with _ | _ <;> exact heap_ne B_S.out B_L.out (by simp))
    have N_T14_L : Hid (T14 ≠ L) := Lib.hid (by rcases Nat.eq_or_lt_of_le (Nat.le_refl 0) with _ | _ <;> exact heap_ne B_T14.out B_L.out (by simp))
    have N_T15_L : Hid (T15 ≠ L) := Lib.hid (by rcases Nat.eq_or_lt_of_le (Nat.le_refl 0) with _ | _ <;> exact heap_ne B_T15.out B_L.out (by simp))
    have N_T17_L : Hid (T17 ≠ L) := Lib.hid (by rcases Nat.eq_or_lt_of_le (Nat.le_refl 0) with _ | _ <;> exact heap_ne B_T17.out B_L.out (by simp))
    have N_T18_L : Hid (T18 ≠ L) := Lib.hid (by rcases Nat.eq_or_lt_of_le (Nat.le_refl 0) with _ | _ <;> exact heap_ne B_T18.out B_L.out (by simp))
    have N_b6_L : Hid (b6 ≠ L) := Lib.hid (by rcases Nat.eq_or_lt_of_le (Nat.le_refl 0) with _ | _ <;> exact heap_ne B_b6.out B_L.out (by simp))
    have N_T20_L : Hid (T20 ≠ L) := Lib.hid (by rcases Nat.eq_or_lt_of_le (Nat.le_refl 0) with _ | _ <;> exact heap_ne B_T20.out B_L.out (by simp))
    have c_V8_S_0 : V8.cell? ⟨S, 0, none⟩ = some (.int .i64 0) := cell_of B_S.out 0
    have l_V8_S := heap_lt B_S.out
    have c_V8_T14_0 : V8.cell? ⟨T14, 0, none⟩ = some (.int .i64 0) := cell_of B_T14.out 0
    have c_V8_T14_1 : V8.cell? ⟨T14, 1, none⟩ = some (.int .i64 1) := cell_of B_T14.out 1
    have l_V8_T14 := heap_lt B_T14.out
    have c_V8_T15_0 : V8.cell? ⟨T15, 0, none⟩ = some (.int .i64 2) := cell_of B_T15.out 0
    have c_V8_T15_1 : V8.cell? ⟨T15, 1, none⟩ = some (.int .i64 1) := cell_of B_T15.out 1
    have l_V8_T15 := heap_lt B_T15.out
    have c_V8_T18_0 : V8.cell? ⟨T18, 0, none⟩ = some (.int .i64 1) := cell_of B_T18.out 0
    have c_V8_T18_1 : V8.cell? ⟨T18, 1, none⟩ = some (.int .i64 1) := cell_of B_T18.out 1
    have l_V8_T18 := heap_lt B_T18.out
    have c_V8_b6_0 : V8.cell? ⟨b6, 0, none⟩ = some (.int .i64 1) := cell_of B_b6.out 0
    have c_V8_b6_1 : V8.cell? ⟨b6, 1, none⟩ = some (.int .i64 1) := cell_of B_b6.out 1
    have l_V8_b6 := heap_lt B_b6.out
    have c_V8_T20_0 : V8.cell? ⟨T20, 0, none⟩ = some (.int .i64 1) := cell_of B_T20.out 0
    have c_V8_T20_1 : V8.cell? ⟨T20, 1, none⟩ = some (.int .i64 1) := cell_of B_T20.out 1
    have l_V8_T20 := heap_lt B_T20.out
    go_wp2_with fail
    refine (SC.out S V8 B_S.out).mono ?_
    rintro e' V9 ⟨rfl, os9, q9, hg9⟩
    have kg9 := kept_grow hg9
    clear hg9
    clear c_V8_S_0 l_V8_S c_V8_T14_0 c_V8_T14_1 l_V8_T14 c_V8_T15_0 c_V8_T15_1 l_V8_T15 c_V8_T18_0 c_V8_T18_1 l_V8_T18 c_V8_b6_0 c_V8_b6_1 l_V8_b6 c_V8_T20_0 c_V8_T20_1 l_V8_T20
    try rw [E_T20] at kg9
    try rw [E_X72] at kg9
    have kA9 : Kept [] V8 V9 := Kept.tr (Kept.refl [] V8) kg9
    have Z_G := kA9.at B_G.out (by simp)
    have Z_S := kA9.at B_S.out (by simp)
    have Z_T14 := kA9.at B_T14.out (by simp)
    have Z_T15 := kA9.at B_T15.out (by simp)
    have Z_T17 := kA9.at B_T17.out (by simp)
    have Z_T18 := kA9.at B_T18.out (by simp)
    have Z_b6 := kA9.at B_b6.out (by simp)
    have Z_T20 := kA9.at B_T20.out (by simp)
    have Z_X72 := kA9.at B_X72.out (by simp)
    have Z_L := kA9.at B_L.out (by simp)
    have g9 := KW.out.1
    replace B_G := Lib.hid Z_G
    replace B_S := Lib.hid Z_S
    replace B_T14 := Lib.hid Z_T14
    replace B_T15 := Lib.hid Z_T15
    replace B_T17 := Lib.hid Z_T17
    replace B_T18 := Lib.hid Z_T18
    replace B_b6 := Lib.hid Z_b6
    replace B_T20 := Lib.hid Z_T20
    replace B_X72 := Lib.hid Z_X72
    replace B_L := Lib.hid Z_L
    replace KW := Lib.hid (Kept.tr KW.out kA9)
    clear Z_G Z_S Z_T14 Z_T15 Z_T17 Z_T18 Z_b6 Z_T20 Z_X72 Z_L kA9 g9 kg9
    clear E_T20 E_X72
    have c_V9_S_0 : V9.cell? ⟨S, 0, none⟩ = some (.int .i64 0) := cell_of B_S.out 0
    have l_V9_S := heap_lt B_S.out
    have c_V9_T14_0 : V9.cell? ⟨T14, 0, none⟩ = some (.int .i64 0) := cell_of B_T14.out 0
    have c_V9_T14_1 : V9.cell? ⟨T14, 1, none⟩ = some (.int .i64 1) := cell_of B_T14.out 1
    have l_V9_T14 := heap_lt B_T14.out
    have c_V9_T15_0 : V9.cell? ⟨T15, 0, none⟩ = some (.int .i64 2) := cell_of B_T15.out 0
    have c_V9_T15_1 : V9.cell? ⟨T15, 1, none⟩ = some (.int .i64 1) := cell_of B_T15.out 1
    have l_V9_T15 := heap_lt B_T15.out
    have c_V9_T18_0 : V9.cell? ⟨T18, 0, none⟩ = some (.int .i64 1) := cell_of B_T18.out 0
    have c_V9_T18_1 : V9.cell? ⟨T18, 1, none⟩ = some (.int .i64 1) := cell_of B_T18.out 1
    have f_V9_T18_0 : V9.frozen? ⟨T18, 0, none⟩ = false := frozen_of B_T18.out 0
    have f_V9_T18_1 : V9.frozen? ⟨T18, 1, none⟩ = false := frozen_of B_T18.out 1
    have l_V9_T18 := heap_lt B_T18.out
    have c_V9_b6_0 : V9.cell? ⟨b6, 0, none⟩ = some (.int .i64 1) := cell_of B_b6.out 0
    have c_V9_b6_1 : V9.cell? ⟨b6, 1, none⟩ = some (.int .i64 1) := cell_of B_b6.out 1
    have l_V9_b6 := heap_lt B_b6.out
    have c_V9_T20_0 : V9.cell? ⟨T20, 0, none⟩ = some (.int .i64 1) := cell_of B_T20.out 0
    have c_V9_T20_1 : V9.cell? ⟨T20, 1, none⟩ = some (.int .i64 1) := cell_of B_T20.out 1
    have l_V9_T20 := heap_lt B_T20.out
    obtain ⟨V10, V_V10⟩ : ∃ x, ((V9.setCell ⟨T18, 0, none⟩ (.int .i64 0)).setCell ⟨T18, 1, none⟩ (.int .i64 1)) = x := ⟨_, rfl⟩
    have Z_T18 : V10.heap[T18]? = some (.cells #[.int .i64 0, .int .i64 1] 39 (0, 0)) := by rw [← V_V10]; exact heap_setCell (heap_setCell (B_T18.out))
    have Z_G : V10.heap[G]? = some (.cells (.int .i64 3 :: .int .i64 1 :: .int .i64 1 :: .bool false :: cur).toArray 267 (0, 0)) := by rw [← V_V10]; exact (heap_setCell_ne (Ne.symm N_G_T18.out)).trans ((heap_setCell_ne (Ne.symm N_G_T18.out)).trans (B_G.out))
    have Z_S : V10.heap[S]? = some (.cells #[.int .i64 0] 271 (0, 0)) := by rw [← V_V10]; exact (heap_setCell_ne (Ne.symm N_S_T18.out)).trans ((heap_setCell_ne (Ne.symm N_S_T18.out)).trans (B_S.out))
    have Z_T14 : V10.heap[T14]? = some (.cells #[.int .i64 0, .int .i64 1] 39 (0, 0)) := by rw [← V_V10]; exact (heap_setCell_ne (Ne.symm N_T14_T18.out)).trans ((heap_setCell_ne (Ne.symm N_T14_T18.out)).trans (B_T14.out))
    have Z_T15 : V10.heap[T15]? = some (.cells #[.int .i64 2, .int .i64 1] 39 (0, 0)) := by rw [← V_V10]; exact (heap_setCell_ne (Ne.symm N_T15_T18.out)).trans ((heap_setCell_ne (Ne.symm N_T15_T18.out)).trans (B_T15.out))
    have Z_T17 : V10.heap[T17]? = some (.cells #[.int .i64 3, .int .i64 1, .int .i64 1, .bool false] 267 (0, 0)) := by rw [← V_V10]; exact (heap_setCell_ne (Ne.symm N_T17_T18.out)).trans ((heap_setCell_ne (Ne.symm N_T17_T18.out)).trans (B_T17.out))
    have Z_b6 : V10.heap[b6]? = some (.cells #[.int .i64 1, .int .i64 1] 39 (0, 0)) := by rw [← V_V10]; exact (heap_setCell_ne N_T18_b6.out).trans ((heap_setCell_ne N_T18_b6.out).trans (B_b6.out))
    have Z_T20 : V10.heap[T20]? = some (.cells #[.int .i64 1, .int .i64 1] 39 (0, 0)) := by rw [← V_V10]; exact (heap_setCell_ne N_T18_T20.out).trans ((heap_setCell_ne N_T18_T20.out).trans (B_T20.out))
    have Z_X72 : V10.heap[X72]? = some (.cells #[.int .i64 3, .int .i64 0, .int .i64 3, .int .i64 0, .int .i64 1, .int .i64 1, .int .i64 1, .bool false] 53 (0, 0)) := by rw [← V_V10]; exact (heap_setCell_ne N_T18_X72.out).trans ((heap_setCell_ne N_T18_X72.out).trans (B_X72.out))
    have Z_L : V10.heap[L]? = some (.cells (.int .i64 3 :: .int .i64 0 :: .int .i64 3 :: .int .i64 0 :: .int .i64 1 :: .int .i64 1 :: .int .i64 1 :: .bool false :: (cr3.toList.drop 8)).toArray 53 (0, 0)) := by rw [← V_V10]; exact (heap_setCell_ne N_T18_L.out).trans ((heap_setCell_ne N_T18_L.out).trans (B_L.out))
    have Zk := ((KW.out.setCell ⟨T18, 0, none⟩ (.int .i64 0) (Or.inr G_T18.out)).setCell ⟨T18, 1, none⟩ (.int .i64 1) (Or.inr G_T18.out))
    rw [V_V10] at Zk
    replace B_G := Lib.hid Z_G
    replace B_S := Lib.hid Z_S
    replace B_T14 := Lib.hid Z_T14
    replace B_T15 := Lib.hid Z_T15
    replace B_T17 := Lib.hid Z_T17
    replace B_T18 := Lib.hid Z_T18
    replace B_b6 := Lib.hid Z_b6
    replace B_T20 := Lib.hid Z_T20
    replace B_X72 := Lib.hid Z_X72
    replace B_L := Lib.hid Z_L
    replace KW := Lib.hid Zk
    clear Zk Z_G Z_S Z_T14 Z_T15 Z_T17 Z_T18 Z_b6 Z_T20 Z_X72 Z_L
    have c_V10_T14_0 : V10.cell? ⟨T14, 0, none⟩ = some (.int .i64 0) := cell_of B_T14.out 0
    have c_V10_T14_1 : V10.cell? ⟨T14, 1, none⟩ = some (.int .i64 1) := cell_of B_T14.out 1
    have f_V10_T14_0 : V10.frozen? ⟨T14, 0, none⟩ = false := frozen_of B_T14.out 0
    have f_V10_T14_1 : V10.frozen? ⟨T14, 1, none⟩ = false := frozen_of B_T14.out 1
    have l_V10_T14 := heap_lt B_T14.out
    have c_V10_T20_0 : V10.cell? ⟨T20, 0, none⟩ = some (.int .i64 1) := cell_of B_T20.out 0
    have c_V10_T20_1 : V10.cell? ⟨T20, 1, none⟩ = some (.int .i64 1) := cell_of B_T20.out 1
    have l_V10_T20 := heap_lt B_T20.out
    obtain ⟨V11, V_V11⟩ : ∃ x, ((V10.setCell ⟨T14, 0, none⟩ (.int .i64 1)).setCell ⟨T14, 1, none⟩ (.int .i64 1)) = x := ⟨_, rfl⟩
    have Z_T14 : V11.heap[T14]? = some (.cells #[.int .i64 1, .int .i64 1] 39 (0, 0)) := by rw [← V_V11]; exact heap_setCell (heap_setCell (B_T14.out))
    have Z_G : V11.heap[G]? = some (.cells (.int .i64 3 :: .int .i64 1 :: .int .i64 1 :: .bool false :: cur).toArray 267 (0, 0)) := by rw [← V_V11]; exact (heap_setCell_ne (Ne.symm N_G_T14.out)).trans ((heap_setCell_ne (Ne.symm N_G_T14.out)).trans (B_G.out))
    have Z_S : V11.heap[S]? = some (.cells #[.int .i64 0] 271 (0, 0)) := by rw [← V_V11]; exact (heap_setCell_ne (Ne.symm N_S_T14.out)).trans ((heap_setCell_ne (Ne.symm N_S_T14.out)).trans (B_S.out))
    have Z_T15 : V11.heap[T15]? = some (.cells #[.int .i64 2, .int .i64 1] 39 (0, 0)) := by rw [← V_V11]; exact (heap_setCell_ne N_T14_T15.out).trans ((heap_setCell_ne N_T14_T15.out).trans (B_T15.out))
    have Z_T17 : V11.heap[T17]? = some (.cells #[.int .i64 3, .int .i64 1, .int .i64 1, .bool false] 267 (0, 0)) := by rw [← V_V11]; exact (heap_setCell_ne N_T14_T17.out).trans ((heap_setCell_ne N_T14_T17.out).trans (B_T17.out))
    have Z_T18 : V11.heap[T18]? = some (.cells #[.int .i64 0, .int .i64 1] 39 (0, 0)) := by rw [← V_V11]; exact (heap_setCell_ne N_T14_T18.out).trans ((heap_setCell_ne N_T14_T18.out).trans (B_T18.out))
    have Z_b6 : V11.heap[b6]? = some (.cells #[.int .i64 1, .int .i64 1] 39 (0, 0)) := by rw [← V_V11]; exact (heap_setCell_ne N_T14_b6.out).trans ((heap_setCell_ne N_T14_b6.out).trans (B_b6.out))
    have Z_T20 : V11.heap[T20]? = some (.cells #[.int .i64 1, .int .i64 1] 39 (0, 0)) := by rw [← V_V11]; exact (heap_setCell_ne N_T14_T20.out).trans ((heap_setCell_ne N_T14_T20.out).trans (B_T20.out))
    have Z_X72 : V11.heap[X72]? = some (.cells #[.int .i64 3, .int .i64 0, .int .i64 3, .int .i64 0, .int .i64 1, .int .i64 1, .int .i64 1, .bool false] 53 (0, 0)) := by rw [← V_V11]; exact (heap_setCell_ne N_T14_X72.out).trans ((heap_setCell_ne N_T14_X72.out).trans (B_X72.out))
    have Z_L : V11.heap[L]? = some (.cells (.int .i64 3 :: .int .i64 0 :: .int .i64 3 :: .int .i64 0 :: .int .i64 1 :: .int .i64 1 :: .int .i64 1 :: .bool false :: (cr3.toList.drop 8)).toArray 53 (0, 0)) := by rw [← V_V11]; exact (heap_setCell_ne N_T14_L.out).trans ((heap_setCell_ne N_T14_L.out).trans (B_L.out))
    have Zk := ((KW.out.setCell ⟨T14, 0, none⟩ (.int .i64 1) (Or.inr G_T14.out)).setCell ⟨T14, 1, none⟩ (.int .i64 1) (Or.inr G_T14.out))
    rw [V_V11] at Zk
    replace B_G := Lib.hid Z_G
    replace B_S := Lib.hid Z_S
    replace B_T14 := Lib.hid Z_T14
    replace B_T15 := Lib.hid Z_T15
    replace B_T17 := Lib.hid Z_T17
    replace B_T18 := Lib.hid Z_T18
    replace B_b6 := Lib.hid Z_b6
    replace B_T20 := Lib.hid Z_T20
    replace B_X72 := Lib.hid Z_X72
    replace B_L := Lib.hid Z_L
    replace KW := Lib.hid Zk
    clear Zk Z_G Z_S Z_T14 Z_T15 Z_T17 Z_T18 Z_b6 Z_T20 Z_X72 Z_L
    have c_V11_S_0 : V11.cell? ⟨S, 0, none⟩ = some (.int .i64 0) := cell_of B_S.out 0
    have l_V11_S := heap_lt B_S.out
    have c_V11_T14_0 : V11.cell? ⟨T14, 0, none⟩ = some (.int .i64 1) := cell_of B_T14.out 0
    have c_V11_T14_1 : V11.cell? ⟨T14, 1, none⟩ = some (.int .i64 1) := cell_of B_T14.out 1
    have l_V11_T14 := heap_lt B_T14.out
    have c_V11_T15_0 : V11.cell? ⟨T15, 0, none⟩ = some (.int .i64 2) := cell_of B_T15.out 0
    have c_V11_T15_1 : V11.cell? ⟨T15, 1, none⟩ = some (.int .i64 1) := cell_of B_T15.out 1
    have l_V11_T15 := heap_lt B_T15.out
    have c_V11_T18_0 : V11.cell? ⟨T18, 0, none⟩ = some (.int .i64 0) := cell_of B_T18.out 0
    have c_V11_T18_1 : V11.cell? ⟨T18, 1, none⟩ = some (.int .i64 1) := cell_of B_T18.out 1
    have l_V11_T18 := heap_lt B_T18.out
    go_wp2_with fail
    refine (CM _).mono ?_
    rintro e' V12 ⟨rfl, os10, q10, hg10⟩
    have kg10 := kept_grow hg10
    clear hg10
    clear c_V9_S_0 l_V9_S c_V9_T14_0 c_V9_T14_1 l_V9_T14 c_V9_T15_0 c_V9_T15_1 l_V9_T15 c_V9_T18_0 c_V9_T18_1 f_V9_T18_0 f_V9_T18_1 l_V9_T18 c_V9_b6_0 c_V9_b6_1 l_V9_b6 c_V9_T20_0 c_V9_T20_1 l_V9_T20 c_V10_T14_0 c_V10_T14_1 f_V10_T14_0 f_V10_T14_1 l_V10_T14 c_V10_T20_0 c_V10_T20_1 l_V10_T20 c_V11_S_0 l_V11_S c_V11_T14_0 c_V11_T14_1 l_V11_T14 c_V11_T15_0 c_V11_T15_1 l_V11_T15 c_V11_T18_0 c_V11_T18_1 l_V11_T18
    try rw [V_V10] at kg10
    try rw [V_V11] at kg10
    have kA10 : Kept [] V11 V12 := Kept.tr (Kept.refl [] V11) kg10
    have Z_G := kA10.at B_G.out (by simp)
    have Z_S := kA10.at B_S.out (by simp)
    have Z_T14 := kA10.at B_T14.out (by simp)
    have Z_T15 := kA10.at B_T15.out (by simp)
    have Z_T17 := kA10.at B_T17.out (by simp)
    have Z_T18 := kA10.at B_T18.out (by simp)
    have Z_b6 := kA10.at B_b6.out (by simp)
    have Z_T20 := kA10.at B_T20.out (by simp)
    have Z_X72 := kA10.at B_X72.out (by simp)
    have Z_L := kA10.at B_L.out (by simp)
    have g10 := KW.out.1
    replace B_G := Lib.hid Z_G
    replace B_S := Lib.hid Z_S
    replace B_T14 := Lib.hid Z_T14
    replace B_T15 := Lib.hid Z_T15
    replace B_T17 := Lib.hid Z_T17
    replace B_T18 := Lib.hid Z_T18
    replace B_b6 := Lib.hid Z_b6
    replace B_T20 := Lib.hid Z_T20
    replace B_X72 := Lib.hid Z_X72
    replace B_L := Lib.hid Z_L
    replace KW := Lib.hid (Kept.tr KW.out kA10)
    clear Z_G Z_S Z_T14 Z_T15 Z_T17 Z_T18 Z_b6 Z_T20 Z_X72 Z_L kA10 g10 kg10
    clear V_V10 V_V11
    have c_V12_S_0 : V12.cell? ⟨S, 0, none⟩ = some (.int .i64 0) := cell_of B_S.out 0
    have l_V12_S := heap_lt B_S.out
    have c_V12_T18_0 : V12.cell? ⟨T18, 0, none⟩ = some (.int .i64 0) := cell_of B_T18.out 0
    have c_V12_T18_1 : V12.cell? ⟨T18, 1, none⟩ = some (.int .i64 1) := cell_of B_T18.out 1
    have l_V12_T18 := heap_lt B_T18.out
    go_wp2_with fail
    rw [rounds_succ]
    go_wp2_with fail
    rw [rounds_succ]
    go_wp2_with fail
    go_returns
    exact ⟨L, _, _, rfl, geL.out, ((Kept.refl [] V12).alloc _).at B_L.out (by simp), KW.out.alloc _⟩
end
end Go.Proofs.YtgfbfklnhmndfaaGreat
