/- The parts of the top that the law of early release walks through: part 46 of 52. -/
import Derived.Test.YtgfbfklnhmndfaaGreatA1
import Derived.Test.YtgfbfklnhmndfaaGreatA2
import Derived.Test.YtgfbfklnhmndfaaGreatA3
import Derived.Test.YtgfbfklnhmndfaaGreatA4
import Derived.Test.YtgfbfklnhmndfaaGreatA8
import Derived.Test.YtgfbfklnhmndfaaGreatA10
import Derived.Test.YtgfbfklnhmndfaaGreatA15
import Derived.Test.YtgfbfklnhmndfaaGreatA16
import Derived.Test.YtgfbfklnhmndfaaGreatA23
import Derived.Test.YtgfbfklnhmndfaaGreatA24
import Derived.Test.YtgfbfklnhmndfaaGreatA29
import Derived.Test.YtgfbfklnhmndfaaGreatA30
import Derived.Test.YtgfbfklnhmndfaaGreatA35
import Derived.Test.YtgfbfklnhmndfaaGreatA36
import Derived.Test.YtgfbfklnhmndfaaGreatA41
import Derived.Test.YtgfbfklnhmndfaaGreatA42
import Derived.Test.YtgfbfklnhmndfaaGreatA43
import Derived.Test.YtgfbfklnhmndfaaGreatA45
namespace Go.Proofs.YtgfbfklnhmndfaaGreat
open Go.RowKit
set_option linter.unusedSimpArgs false
set_option linter.unusedVariables false
section
attribute [local go_sem ↓] setCell_drewN alloc_drewN grow_cell grow_frozen setCell_grow grow_size cell_alloc_grow frozen_alloc_grow setCell_alloc_grow cell_grow_alloc_grow frozen_grow_alloc_grow setCell_grow_alloc_grow grow_grow
attribute [local go_sem] lt_len size_setCell
set_option maxHeartbeats 1000000 in
theorem Begin84 (b G c : Nat) (cur : List Value) (w : World) (hb : w.heap[b]? = some (.cells #[.int .i64 1, .bool false, .int .i64 0, .slice none 0 0] 103 (0, 0))) (hg : w.heap[G]? = some (.cells (taskL 3 1 2 true 0 0 1 cur).toArray 143 (0, 0))) :
    Calls Tryz.prog 84 #[pt b, .slice (some ⟨G, 0, none⟩) 1 c, .int .i64 0] w fun e W => e = .returned (.int .i64 0) ∧ Kept [b] w W ∧ ∃ L C cur', w.heap.size ≤ L ∧ W.heap[L]? = some (.cells (pieceL 3 0 3 0 1 1 1 false cur').toArray 53 (0, 0)) ∧ W.heap[b]? = some (.cells #[.int .i64 1, .bool true, .int .i64 2, .slice (some ⟨L, 0, none⟩) 1 C] 103 (0, 0)) := by
  have O := Open81_new b 0 _ 0 w hb
  have N := Next121 G c cur w hg
  have h1 := setCell_self (i := 1) (v := .bool false) hb rfl
  have h2 := setCell_self (i := 2) (v := .int .i64 0) hb rfl
  have h3 := setCell_self (i := 3) (v := .slice none 0 0) hb rfl
  have f1 : w.frozen? ⟨b, 1, none⟩ = false := frozen_of hb 1
  have f2 : w.frozen? ⟨b, 2, none⟩ = false := frozen_of hb 2
  have f3 : w.frozen? ⟨b, 3, none⟩ = false := frozen_of hb 3
  have c1 : w.cell? ⟨b, 1, none⟩ = some (.bool false) := cell_of hb 1
  have c2 : w.cell? ⟨b, 2, none⟩ = some (.int .i64 0) := cell_of hb 2
  have c3 : w.cell? ⟨b, 3, none⟩ = some (.slice none 0 0) := cell_of hb 3
  have lb := heap_lt hb
  replace hb := Lib.hid hb
  replace hg := Lib.hid hg
  go_enter Tryz.func84, Tryz.ntmps84
  go_wp2_with fail
  refine O.mono ?_
  rintro e' w0 ⟨rfl, rfl⟩
  go_wp2_with fail
  refine N.mono ?_
  rintro e' w1 ⟨rfl, k1⟩
  have A := All122 G c cur w1 (k1.at hg.out (by simp))
  replace k1 := Lib.hid k1
  clear O N h1 h2 h3 f1 f2 f3 c1 c2 c3 lb
  go_wp2_with fail
  refine A.mono ?_
  rintro e' w2 ⟨Gs, Cs, cs, rfl, hs, k2⟩
  have LY := Lay123 Gs Cs cs w2 hs
  have k12 := Kept.tr k1.out k2
  have hb2 := k12.at hb.out (by simp)
  have c0 : w2.cell? ⟨b, 0, none⟩ = some (.int .i64 1) := cell_of hb2 0
  have lb := heap_lt hb2
  replace k1 := Lib.hid k12
  clear A hs k2 k12 hb2
  go_wp2_with fail
  refine LY.mono ?_
  rintro e' w3 ⟨L, C, cl, rfl, hL, hl, k3⟩
  have k13 := Kept.tr k1.out k3
  have hb3 := k13.at hb.out (by simp)
  have f1 : w3.frozen? ⟨b, 1, none⟩ = false := frozen_of hb3 1
  have f2 : w3.frozen? ⟨b, 2, none⟩ = false := frozen_of hb3 2
  have f3 : w3.frozen? ⟨b, 3, none⟩ = false := frozen_of hb3 3
  have c1 : w3.cell? ⟨b, 1, none⟩ = some (.bool false) := cell_of hb3 1
  have c2 : w3.cell? ⟨b, 2, none⟩ = some (.int .i64 0) := cell_of hb3 2
  have c3 : w3.cell? ⟨b, 3, none⟩ = some (.slice none 0 0) := cell_of hb3 3
  have lb3 := heap_lt hb3
  have hne : b ≠ L := heap_ne hb3 hl (by simp)
  have hwL : w.heap.size ≤ L := Nat.le_trans k1.out.1 hL
  obtain ⟨W4, hW4⟩ : ∃ W4, ((w3.setCell ⟨b, 1, none⟩ (.bool true)).setCell ⟨b, 2, none⟩ (.int .i64 2)).setCell ⟨b, 3, none⟩ (.slice (some ⟨L, 0, none⟩) 1 C) = W4 := ⟨_, rfl⟩
  have hb4 : W4.heap[b]? = some (.cells #[.int .i64 1, .bool true, .int .i64 2, .slice (some ⟨L, 0, none⟩) 1 C] 103 (0, 0)) := by rw [← hW4]; exact heap_setCell (heap_setCell (heap_setCell hb3))
  have hl4 : W4.heap[L]? = some (.cells (pieceL 3 0 3 0 1 1 1 false cl).toArray 53 (0, 0)) := by rw [← hW4]; exact (heap_setCell_ne hne).trans ((heap_setCell_ne hne).trans ((heap_setCell_ne hne).trans hl))
  have k4 : Kept [b] w W4 := by rw [← hW4]; exact (((k13.mono (U := [b]) (by simp)).setCell _ _ (Or.inl (by simp))).setCell _ _ (Or.inl (by simp))).setCell _ _ (Or.inl (by simp))
  have fin := Lib.hid (And.intro k4 (And.intro hwL (And.intro hl4 hb4)))
  clear LY hL hl k3 k13 hb3 hne hwL hb4 hl4 k4 c0 lb hb hg
  go_wp2_with fail
  go_returns
  obtain ⟨a1, a2, a3, a4⟩ := fin.out
  exact ⟨rfl, a1, L, C, cl, a2, a3, a4⟩
set_option maxHeartbeats 2000000 in
set_option maxRecDepth 100000 in
theorem Clip100_0 (L c : Nat) (cur : List Value) (w : World) (hl : w.heap[L]? = some (.cells (pieceL 3 0 3 0 1 1 1 false cur).toArray 53 (0, 0))) :
    Calls Tryz.prog 100 #[.slice (some ⟨L, 0, none⟩) 1 c, .int .i64 0, .int .i64 1] w fun e W => ∃ G C cur', e = .returned (.slice (some ⟨G, 0, none⟩) 1 C) ∧ w.heap.size ≤ G ∧ W.heap[G]? = some (.cells (pieceL 3 0 3 0 1 1 1 false cur').toArray 53 (0, 0)) ∧ Kept [] w W := by
  obtain ⟨i0, hii, hz0, hz1, hby⟩ := info_of infoPiece
  have mk := fun w => mkPiece1 w
  have MY0 := fun w => May114 ((0 : Int) : Rat) (by unfold Sml; decide) w
  have MY1 := fun w => May114 ((1 : Int) : Rat) (by unfold Sml; decide) w
  have WH := fun w => whole140 0 w
  have WT := fun w => whole140 1 w
  have CM := fun w => cmpRI 0 0 (by omega) (by omega) (by omega) (by omega) w
  rw [show cmpR ((0 : Int) : Rat) ((0 : Int) : Rat) = 0 by unfold cmpR; rw [if_neg (by rw [Rat.intCast_lt_intCast]; omega), if_neg (by rw [Rat.intCast_lt_intCast]; omega)]] at CM
  have LS := fun w => less141 1 1 (by omega) (by omega) (by omega) (by omega) (by omega) w
  have CN := fun w => cmpRI 0 1 (by omega) (by omega) (by omega) (by omega) w
  rw [show cmpR ((0 : Int) : Rat) ((1 : Int) : Rat) = -1 by unfold cmpR; rw [if_pos (by rw [Rat.intCast_lt_intCast]; omega)]] at CN
  simp only [rvI] at MY0 MY1
  have KW : Hid (Kept [] w w) := Lib.hid (Kept.refl _ _)
  have B_L := Lib.hid (hl)
  clear hl
  have c_w_L_0 : w.cell? ⟨L, 0, none⟩ = some (.int .i64 3) := cell_of B_L.out 0
  have c_w_L_1 : w.cell? ⟨L, 1, none⟩ = some (.int .i64 0) := cell_of B_L.out 1
  have c_w_L_2 : w.cell? ⟨L, 2, none⟩ = some (.int .i64 3) := cell_of B_L.out 2
  have c_w_L_3 : w.cell? ⟨L, 3, none⟩ = some (.int .i64 0) := cell_of B_L.out 3
  have c_w_L_4 : w.cell? ⟨L, 4, none⟩ = some (.int .i64 1) := cell_of B_L.out 4
  have c_w_L_5 : w.cell? ⟨L, 5, none⟩ = some (.int .i64 1) := cell_of B_L.out 5
  have c_w_L_6 : w.cell? ⟨L, 6, none⟩ = some (.int .i64 1) := cell_of B_L.out 6
  have c_w_L_7 : w.cell? ⟨L, 7, none⟩ = some (.bool false) := cell_of B_L.out 7
  have l_w_L := heap_lt B_L.out
  go_enter Tryz.func100, Tryz.ntmps100
  go_wp2_with fail
  refine wp_loop_rounds 2 ?_
  rw [rounds_succ]
  go_wp2_with fail
  refine (MY0 _).mono ?_
  rintro e' V1 ⟨rfl, os1, q1, hg1⟩
  have kg1 := kept_grow hg1
  clear hg1
  clear c_w_L_0 c_w_L_1 c_w_L_2 c_w_L_3 c_w_L_4 c_w_L_5 c_w_L_6 c_w_L_7 l_w_L
  have kA1 : Kept [] w V1 := Kept.tr ((Kept.refl [] w).alloc _) kg1
  have hx_T9 := kg1.at (heap_alloc_new (w := w) (o := .cells #[.int .i64 3, .int .i64 0, .int .i64 3, .int .i64 0, .int .i64 1, .int .i64 1, .int .i64 1, .bool false] 53)) (by simp)
  have Z_L := kA1.at B_L.out (by simp)
  obtain ⟨T9, E_T9⟩ : ∃ x, w.heap.size = x := ⟨_, rfl⟩
  rw [E_T9] at hx_T9
  have g1 := KW.out.1
  have G_T9 : Hid (w.heap.size ≤ T9) := Lib.hid (by omega)
  have N_L_T9 : Hid (L ≠ T9) := Lib.hid (by have := heap_lt B_L.out; omega)
  replace B_L := Lib.hid Z_L
  have B_T9 := Lib.hid hx_T9
  replace KW := Lib.hid (Kept.tr KW.out kA1)
  clear Z_L hx_T9 kA1 g1 kg1
  try rw [E_T9]
  have c_V1_L_0 : V1.cell? ⟨L, 0, none⟩ = some (.int .i64 3) := cell_of B_L.out 0
  have c_V1_L_1 : V1.cell? ⟨L, 1, none⟩ = some (.int .i64 0) := cell_of B_L.out 1
  have c_V1_L_2 : V1.cell? ⟨L, 2, none⟩ = some (.int .i64 3) := cell_of B_L.out 2
  have c_V1_L_3 : V1.cell? ⟨L, 3, none⟩ = some (.int .i64 0) := cell_of B_L.out 3
  have c_V1_L_4 : V1.cell? ⟨L, 4, none⟩ = some (.int .i64 1) := cell_of B_L.out 4
  have c_V1_L_5 : V1.cell? ⟨L, 5, none⟩ = some (.int .i64 1) := cell_of B_L.out 5
  have c_V1_L_6 : V1.cell? ⟨L, 6, none⟩ = some (.int .i64 1) := cell_of B_L.out 6
  have c_V1_L_7 : V1.cell? ⟨L, 7, none⟩ = some (.bool false) := cell_of B_L.out 7
  have l_V1_L := heap_lt B_L.out
  have c_V1_T9_0 : V1.cell? ⟨T9, 0, none⟩ = some (.int .i64 3) := cell_of B_T9.out 0
  have c_V1_T9_1 : V1.cell? ⟨T9, 1, none⟩ = some (.int .i64 0) := cell_of B_T9.out 1
  have c_V1_T9_2 : V1.cell? ⟨T9, 2, none⟩ = some (.int .i64 3) := cell_of B_T9.out 2
  have c_V1_T9_3 : V1.cell? ⟨T9, 3, none⟩ = some (.int .i64 0) := cell_of B_T9.out 3
  have c_V1_T9_4 : V1.cell? ⟨T9, 4, none⟩ = some (.int .i64 1) := cell_of B_T9.out 4
  have c_V1_T9_5 : V1.cell? ⟨T9, 5, none⟩ = some (.int .i64 1) := cell_of B_T9.out 5
  have c_V1_T9_6 : V1.cell? ⟨T9, 6, none⟩ = some (.int .i64 1) := cell_of B_T9.out 6
  have c_V1_T9_7 : V1.cell? ⟨T9, 7, none⟩ = some (.bool false) := cell_of B_T9.out 7
  have l_V1_T9 := heap_lt B_T9.out
  go_wp2_with fail
  refine (MY1 _).mono ?_
  rintro e' V2 ⟨rfl, os2, q2, hg2⟩
  have kg2 := kept_grow hg2
  clear hg2
  clear c_V1_L_0 c_V1_L_1 c_V1_L_2 c_V1_L_3 c_V1_L_4 c_V1_L_5 c_V1_L_6 c_V1_L_7 l_V1_L c_V1_T9_0 c_V1_T9_1 c_V1_T9_2 c_V1_T9_3 c_V1_T9_4 c_V1_T9_5 c_V1_T9_6 c_V1_T9_7 l_V1_T9
  try rw [E_T9] at kg2
  have kA2 : Kept [] V1 V2 := Kept.tr (Kept.refl [] V1) kg2
  have Z_L := kA2.at B_L.out (by simp)
  have Z_T9 := kA2.at B_T9.out (by simp)
  have g2 := KW.out.1
  replace B_L := Lib.hid Z_L
  replace B_T9 := Lib.hid Z_T9
  replace KW := Lib.hid (Kept.tr KW.out kA2)
  clear Z_L Z_T9 kA2 g2 kg2
  clear E_T9
  have c_V2_L_0 : V2.cell? ⟨L, 0, none⟩ = some (.int .i64 3) := cell_of B_L.out 0
  have c_V2_L_1 : V2.cell? ⟨L, 1, none⟩ = some (.int .i64 0) := cell_of B_L.out 1
  have c_V2_L_2 : V2.cell? ⟨L, 2, none⟩ = some (.int .i64 3) := cell_of B_L.out 2
  have c_V2_L_3 : V2.cell? ⟨L, 3, none⟩ = some (.int .i64 0) := cell_of B_L.out 3
  have c_V2_L_4 : V2.cell? ⟨L, 4, none⟩ = some (.int .i64 1) := cell_of B_L.out 4
  have c_V2_L_5 : V2.cell? ⟨L, 5, none⟩ = some (.int .i64 1) := cell_of B_L.out 5
  have c_V2_L_6 : V2.cell? ⟨L, 6, none⟩ = some (.int .i64 1) := cell_of B_L.out 6
  have c_V2_L_7 : V2.cell? ⟨L, 7, none⟩ = some (.bool false) := cell_of B_L.out 7
  have l_V2_L := heap_lt B_L.out
  have c_V2_T9_0 : V2.cell? ⟨T9, 0, none⟩ = some (.int .i64 3) := cell_of B_T9.out 0
  have c_V2_T9_1 : V2.cell? ⟨T9, 1, none⟩ = some (.int .i64 0) := cell_of B_T9.out 1
  have c_V2_T9_2 : V2.cell? ⟨T9, 2, none⟩ = some (.int .i64 3) := cell_of B_T9.out 2
  have c_V2_T9_3 : V2.cell? ⟨T9, 3, none⟩ = some (.int .i64 0) := cell_of B_T9.out 3
  have c_V2_T9_4 : V2.cell? ⟨T9, 4, none⟩ = some (.int .i64 1) := cell_of B_T9.out 4
  have c_V2_T9_5 : V2.cell? ⟨T9, 5, none⟩ = some (.int .i64 1) := cell_of B_T9.out 5
  have c_V2_T9_6 : V2.cell? ⟨T9, 6, none⟩ = some (.int .i64 1) := cell_of B_T9.out 6
  have c_V2_T9_7 : V2.cell? ⟨T9, 7, none⟩ = some (.bool false) := cell_of B_T9.out 7
  have l_V2_T9 := heap_lt B_T9.out
  go_wp2_with fail
  refine sBegin (fun X => ∃ os q, Go.Proofs.YtgfbfklnhmndfaaGreat.grow V2 os q = X) 6 (by kernel_rfl) (gr_drew (gr_refl _)) ?_
  refine sTake (i := 0) (v := ?_) rfl (by kernel_rfl) (fun _ _ _ h => h) (gLoad (by rfl) ?_) ?_
  rotate_left 1
  · intro W hW; (try dsimp only at hW); obtain ⟨os', q', hW'⟩ := hW; subst hW'; go_simp; all_goals with_reducible rfl
  try simp only [Act.put, zA, zB, zC]
  refine sTake (i := 1) (v := ?_) rfl (by kernel_rfl) (fun _ _ _ h => h) (gLoad (by rfl) ?_) ?_
  rotate_left 1
  · intro W hW; (try dsimp only at hW); obtain ⟨os', q', hW'⟩ := hW; subst hW'; go_simp; all_goals with_reducible rfl
  try simp only [Act.put, zA, zB, zC]
  refine sTake (i := 2) (v := ?_) rfl (by kernel_rfl) (fun _ _ _ h => h) (gLoad (by rfl) ?_) ?_
  rotate_left 1
  · intro W hW; (try dsimp only at hW); obtain ⟨os', q', hW'⟩ := hW; subst hW'; go_simp; all_goals with_reducible rfl
  try simp only [Act.put, zA, zB, zC]
  refine sTake (i := 3) rfl (by kernel_rfl) (fun _ _ _ h => h) (gCall (by rfl) ?_ (fun W hW => RetG.into WH hW)) ?_
  · intro W hW; go_simp; all_goals with_reducible rfl
  try simp only [Act.put, zA, zB, zC]
  refine sTake (i := 4) rfl (by kernel_rfl) (fun _ _ _ h => h) (gCall (by rfl) ?_ (fun W hW => RetG.into CM hW)) ?_
  · intro W hW; go_simp; all_goals with_reducible rfl
  try simp only [Act.put, zA, zB, zC]
  refine sTake (i := 5) (v := ?_) rfl (by kernel_rfl) (fun _ _ _ h => h) (gLoad (by rfl) ?_) ?_
  rotate_left 1
  · intro W hW; (try dsimp only at hW); obtain ⟨os', q', hW'⟩ := hW; subst hW'; go_simp; all_goals with_reducible rfl
  try simp only [Act.put, zA, zB, zC]
  refine sDone (by kernel_rfl) ?_
  intro V3 hV
  obtain ⟨os3, q3, hV⟩ := hV
  have kg3 := kept_grow hV
  clear hV
  clear c_V2_L_0 c_V2_L_1 c_V2_L_2 c_V2_L_3 c_V2_L_4 c_V2_L_5 c_V2_L_6 c_V2_L_7 l_V2_L c_V2_T9_0 c_V2_T9_1 c_V2_T9_2 c_V2_T9_3 c_V2_T9_4 c_V2_T9_5 c_V2_T9_6 c_V2_T9_7 l_V2_T9
  have kA3 : Kept [] V2 V3 := Kept.tr (Kept.refl [] V2) kg3
  have Z_L := kA3.at B_L.out (by simp)
  have Z_T9 := kA3.at B_T9.out (by simp)
  have g3 := KW.out.1
  replace B_L := Lib.hid Z_L
  replace B_T9 := Lib.hid Z_T9
  replace KW := Lib.hid (Kept.tr KW.out kA3)
  clear Z_L Z_T9 kA3 g3 kg3
  have c_V3_L_0 : V3.cell? ⟨L, 0, none⟩ = some (.int .i64 3) := cell_of B_L.out 0
  have c_V3_L_1 : V3.cell? ⟨L, 1, none⟩ = some (.int .i64 0) := cell_of B_L.out 1
  have c_V3_L_2 : V3.cell? ⟨L, 2, none⟩ = some (.int .i64 3) := cell_of B_L.out 2
  have c_V3_L_3 : V3.cell? ⟨L, 3, none⟩ = some (.int .i64 0) := cell_of B_L.out 3
  have c_V3_L_4 : V3.cell? ⟨L, 4, none⟩ = some (.int .i64 1) := cell_of B_L.out 4
  have c_V3_L_5 : V3.cell? ⟨L, 5, none⟩ = some (.int .i64 1) := cell_of B_L.out 5
  have c_V3_L_6 : V3.cell? ⟨L, 6, none⟩ = some (.int .i64 1) := cell_of B_L.out 6
  have c_V3_L_7 : V3.cell? ⟨L, 7, none⟩ = some (.bool false) := cell_of B_L.out 7
  have l_V3_L := heap_lt B_L.out
  have c_V3_T9_0 : V3.cell? ⟨T9, 0, none⟩ = some (.int .i64 3) := cell_of B_T9.out 0
  have c_V3_T9_1 : V3.cell? ⟨T9, 1, none⟩ = some (.int .i64 0) := cell_of B_T9.out 1
  have c_V3_T9_2 : V3.cell? ⟨T9, 2, none⟩ = some (.int .i64 3) := cell_of B_T9.out 2
  have c_V3_T9_3 : V3.cell? ⟨T9, 3, none⟩ = some (.int .i64 0) := cell_of B_T9.out 3
  have c_V3_T9_4 : V3.cell? ⟨T9, 4, none⟩ = some (.int .i64 1) := cell_of B_T9.out 4
  have c_V3_T9_5 : V3.cell? ⟨T9, 5, none⟩ = some (.int .i64 1) := cell_of B_T9.out 5
  have c_V3_T9_6 : V3.cell? ⟨T9, 6, none⟩ = some (.int .i64 1) := cell_of B_T9.out 6
  have c_V3_T9_7 : V3.cell? ⟨T9, 7, none⟩ = some (.bool false) := cell_of B_T9.out 7
  have l_V3_T9 := heap_lt B_T9.out
  go_wp2_with fail
  refine wp_region_any (by kernel_rfl) ?_
  rw [List.size_toArray]
  refine wpAnyS_any (S := fun X => ∃ os q, Go.Proofs.YtgfbfklnhmndfaaGreat.grow V3 os q = X) (k := 5) _ _ _ ?_ _ (gr_drew (gr_refl _))
  refine sTake (i := 0) (v := ?_) rfl (by kernel_rfl) (fun _ _ _ h => h) (gLoad (by rfl) ?_) ?_
  rotate_left 1
  · intro W hW; (try dsimp only at hW); obtain ⟨os', q', hW'⟩ := hW; subst hW'; go_simp; all_goals with_reducible rfl
  try simp only [Act.put, zA, zB, zC]
  refine sTake (i := 1) (v := ?_) rfl (by kernel_rfl) (fun _ _ _ h => h) (gLoad (by rfl) ?_) ?_
  rotate_left 1
  · intro W hW; (try dsimp only at hW); obtain ⟨os', q', hW'⟩ := hW; subst hW'; go_simp; all_goals with_reducible rfl
  try simp only [Act.put, zA, zB, zC]
  refine sTake (i := 2) (v := ?_) rfl (by kernel_rfl) (fun _ _ _ h => h) (gLoad (by rfl) ?_) ?_
  rotate_left 1
  · intro W hW; (try dsimp only at hW); obtain ⟨os', q', hW'⟩ := hW; subst hW'; go_simp; all_goals with_reducible rfl
  try simp only [Act.put, zA, zB, zC]
  refine sTake (i := 3) rfl (by kernel_rfl) (fun _ _ _ h => h) (gCall (by rfl) ?_ (fun W hW => RetG.into WT hW)) ?_
  · intro W hW; go_simp; all_goals with_reducible rfl
  try simp only [Act.put, zA, zB, zC]
  refine sTake (i := 4) rfl (by kernel_rfl) (fun _ _ _ h => h) (gCall (by rfl) ?_ (fun W hW => RetG.into LS hW)) ?_
  · intro W hW; go_simp; all_goals with_reducible rfl
  try simp only [Act.put, zA, zB, zC]
  refine sRest (by kernel_rfl) ?_
  intro V6 hV
  obtain ⟨os6, q6, hV⟩ := hV
  have kg6 := kept_grow hV
  clear hV
  clear c_V3_L_0 c_V3_L_1 c_V3_L_2 c_V3_L_3 c_V3_L_4 c_V3_L_5 c_V3_L_6 c_V3_L_7 l_V3_L c_V3_T9_0 c_V3_T9_1 c_V3_T9_2 c_V3_T9_3 c_V3_T9_4 c_V3_T9_5 c_V3_T9_6 c_V3_T9_7 l_V3_T9
  have kA6 : Kept [] V3 V6 := Kept.tr (Kept.refl [] V3) kg6
  have Z_L := kA6.at B_L.out (by simp)
  have Z_T9 := kA6.at B_T9.out (by simp)
  have g6 := KW.out.1
  replace B_L := Lib.hid Z_L
  replace B_T9 := Lib.hid Z_T9
  replace KW := Lib.hid (Kept.tr KW.out kA6)
  clear Z_L Z_T9 kA6 g6 kg6
  have c_V6_L_0 : V6.cell? ⟨L, 0, none⟩ = some (.int .i64 3) := cell_of B_L.out 0
  have c_V6_L_1 : V6.cell? ⟨L, 1, none⟩ = some (.int .i64 0) := cell_of B_L.out 1
  have c_V6_L_2 : V6.cell? ⟨L, 2, none⟩ = some (.int .i64 3) := cell_of B_L.out 2
  have c_V6_L_3 : V6.cell? ⟨L, 3, none⟩ = some (.int .i64 0) := cell_of B_L.out 3
  have c_V6_L_4 : V6.cell? ⟨L, 4, none⟩ = some (.int .i64 1) := cell_of B_L.out 4
  have c_V6_L_5 : V6.cell? ⟨L, 5, none⟩ = some (.int .i64 1) := cell_of B_L.out 5
  have c_V6_L_6 : V6.cell? ⟨L, 6, none⟩ = some (.int .i64 1) := cell_of B_L.out 6
  have c_V6_L_7 : V6.cell? ⟨L, 7, none⟩ = some (.bool false) := cell_of B_L.out 7
  have l_V6_L := heap_lt B_L.out
  have c_V6_T9_0 : V6.cell? ⟨T9, 0, none⟩ = some (.int .i64 3) := cell_of B_T9.out 0
  have c_V6_T9_1 : V6.cell? ⟨T9, 1, none⟩ = some (.int .i64 0) := cell_of B_T9.out 1
  have c_V6_T9_2 : V6.cell? ⟨T9, 2, none⟩ = some (.int .i64 3) := cell_of B_T9.out 2
  have c_V6_T9_3 : V6.cell? ⟨T9, 3, none⟩ = some (.int .i64 0) := cell_of B_T9.out 3
  have c_V6_T9_4 : V6.cell? ⟨T9, 4, none⟩ = some (.int .i64 1) := cell_of B_T9.out 4
  have c_V6_T9_5 : V6.cell? ⟨T9, 5, none⟩ = some (.int .i64 1) := cell_of B_T9.out 5
  have c_V6_T9_6 : V6.cell? ⟨T9, 6, none⟩ = some (.int .i64 1) := cell_of B_T9.out 6
  have c_V6_T9_7 : V6.cell? ⟨T9, 7, none⟩ = some (.bool false) := cell_of B_T9.out 7
  have f_V6_T9_0 : V6.frozen? ⟨T9, 0, none⟩ = false := frozen_of B_T9.out 0
  have f_V6_T9_1 : V6.frozen? ⟨T9, 1, none⟩ = false := frozen_of B_T9.out 1
  have f_V6_T9_2 : V6.frozen? ⟨T9, 2, none⟩ = false := frozen_of B_T9.out 2
  have f_V6_T9_3 : V6.frozen? ⟨T9, 3, none⟩ = false := frozen_of B_T9.out 3
  have f_V6_T9_4 : V6.frozen? ⟨T9, 4, none⟩ = false := frozen_of B_T9.out 4
  have f_V6_T9_5 : V6.frozen? ⟨T9, 5, none⟩ = false := frozen_of B_T9.out 5
  have f_V6_T9_6 : V6.frozen? ⟨T9, 6, none⟩ = false := frozen_of B_T9.out 6
  have f_V6_T9_7 : V6.frozen? ⟨T9, 7, none⟩ = false := frozen_of B_T9.out 7
  have l_V6_T9 := heap_lt B_T9.out
  obtain ⟨V7, V_V7⟩ : ∃ x, ((V6.setCell ⟨T9, 5, none⟩ (.int .i64 1)).setCell ⟨T9, 6, none⟩ (.int .i64 1)) = x := ⟨_, rfl⟩
  have Z_T9 : V7.heap[T9]? = some (.cells #[.int .i64 3, .int .i64 0, .int .i64 3, .int .i64 0, .int .i64 1, .int .i64 1, .int .i64 1, .bool false] 53 (0, 0)) := by rw [← V_V7]; exact heap_setCell (heap_setCell (B_T9.out))
  have Z_L : V7.heap[L]? = some (.cells (.int .i64 3 :: .int .i64 0 :: .int .i64 3 :: .int .i64 0 :: .int .i64 1 :: .int .i64 1 :: .int .i64 1 :: .bool false :: cur).toArray 53 (0, 0)) := by rw [← V_V7]; exact (heap_setCell_ne (Ne.symm N_L_T9.out)).trans ((heap_setCell_ne (Ne.symm N_L_T9.out)).trans (B_L.out))
  have Zk := ((KW.out.setCell ⟨T9, 5, none⟩ (.int .i64 1) (Or.inr G_T9.out)).setCell ⟨T9, 6, none⟩ (.int .i64 1) (Or.inr G_T9.out))
  rw [V_V7] at Zk
  replace B_L := Lib.hid Z_L
  replace B_T9 := Lib.hid Z_T9
  replace KW := Lib.hid Zk
  clear Zk Z_L Z_T9
  refine aVal (i := 5) (v := ?_) rfl (by kernel_rfl) (by rfl) ?_ ?_
  rotate_left 1
  · go_simp; all_goals with_reducible rfl
  try simp only [Act.put, zA, zB, zC]
  refine aSkip (i := 6) (w' := ?_) rfl (by kernel_rfl) (by rfl) ?_ ?_
  rotate_left 1
  · go_simp; all_goals with_reducible rfl
  try simp only [Act.put, zA, zB, zC]
  refine wpAny_done (by kernel_rfl) ?_ _
  try rw [V_V7]
  have c_V7_L_0 : V7.cell? ⟨L, 0, none⟩ = some (.int .i64 3) := cell_of B_L.out 0
  have c_V7_L_1 : V7.cell? ⟨L, 1, none⟩ = some (.int .i64 0) := cell_of B_L.out 1
  have c_V7_L_2 : V7.cell? ⟨L, 2, none⟩ = some (.int .i64 3) := cell_of B_L.out 2
  have c_V7_L_3 : V7.cell? ⟨L, 3, none⟩ = some (.int .i64 0) := cell_of B_L.out 3
  have c_V7_L_4 : V7.cell? ⟨L, 4, none⟩ = some (.int .i64 1) := cell_of B_L.out 4
  have c_V7_L_5 : V7.cell? ⟨L, 5, none⟩ = some (.int .i64 1) := cell_of B_L.out 5
  have c_V7_L_6 : V7.cell? ⟨L, 6, none⟩ = some (.int .i64 1) := cell_of B_L.out 6
  have c_V7_L_7 : V7.cell? ⟨L, 7, none⟩ = some (.bool false) := cell_of B_L.out 7
  have l_V7_L := heap_lt B_L.out
  have c_V7_T9_0 : V7.cell? ⟨T9, 0, none⟩ = some (.int .i64 3) := cell_of B_T9.out 0
  have c_V7_T9_1 : V7.cell? ⟨T9, 1, none⟩ = some (.int .i64 0) := cell_of B_T9.out 1
  have c_V7_T9_2 : V7.cell? ⟨T9, 2, none⟩ = some (.int .i64 3) := cell_of B_T9.out 2
  have c_V7_T9_3 : V7.cell? ⟨T9, 3, none⟩ = some (.int .i64 0) := cell_of B_T9.out 3
  have c_V7_T9_4 : V7.cell? ⟨T9, 4, none⟩ = some (.int .i64 1) := cell_of B_T9.out 4
  have c_V7_T9_5 : V7.cell? ⟨T9, 5, none⟩ = some (.int .i64 1) := cell_of B_T9.out 5
  have c_V7_T9_6 : V7.cell? ⟨T9, 6, none⟩ = some (.int .i64 1) := cell_of B_T9.out 6
  have c_V7_T9_7 : V7.cell? ⟨T9, 7, none⟩ = some (.bool false) := cell_of B_T9.out 7
  have l_V7_T9 := heap_lt B_T9.out
  go_wp2_with fail
  refine (CN _).mono ?_
  rintro e' V8 ⟨rfl, os7, q7, hg7⟩
  have kg7 := kept_grow hg7
  clear hg7
  clear c_V6_L_0 c_V6_L_1 c_V6_L_2 c_V6_L_3 c_V6_L_4 c_V6_L_5 c_V6_L_6 c_V6_L_7 l_V6_L c_V6_T9_0 c_V6_T9_1 c_V6_T9_2 c_V6_T9_3 c_V6_T9_4 c_V6_T9_5 c_V6_T9_6 c_V6_T9_7 f_V6_T9_0 f_V6_T9_1 f_V6_T9_2 f_V6_T9_3 f_V6_T9_4 f_V6_T9_5 f_V6_T9_6 f_V6_T9_7 l_V6_T9 c_V7_L_0 c_V7_L_1 c_V7_L_2 c_V7_L_3 c_V7_L_4 c_V7_L_5 c_V7_L_6 c_V7_L_7 l_V7_L c_V7_T9_0 c_V7_T9_1 c_V7_T9_2 c_V7_T9_3 c_V7_T9_4 c_V7_T9_5 c_V7_T9_6 c_V7_T9_7 l_V7_T9
  try rw [V_V7] at kg7
  have kA7 : Kept [] V7 V8 := Kept.tr (Kept.refl [] V7) kg7
  have Z_L := kA7.at B_L.out (by simp)
  have Z_T9 := kA7.at B_T9.out (by simp)
  have g7 := KW.out.1
  replace B_L := Lib.hid Z_L
  replace B_T9 := Lib.hid Z_T9
  replace KW := Lib.hid (Kept.tr KW.out kA7)
  clear Z_L Z_T9 kA7 g7 kg7
  clear V_V7
  have c_V8_L_0 : V8.cell? ⟨L, 0, none⟩ = some (.int .i64 3) := cell_of B_L.out 0
  have c_V8_L_1 : V8.cell? ⟨L, 1, none⟩ = some (.int .i64 0) := cell_of B_L.out 1
  have c_V8_L_2 : V8.cell? ⟨L, 2, none⟩ = some (.int .i64 3) := cell_of B_L.out 2
  have c_V8_L_3 : V8.cell? ⟨L, 3, none⟩ = some (.int .i64 0) := cell_of B_L.out 3
  have c_V8_L_4 : V8.cell? ⟨L, 4, none⟩ = some (.int .i64 1) := cell_of B_L.out 4
  have c_V8_L_5 : V8.cell? ⟨L, 5, none⟩ = some (.int .i64 1) := cell_of B_L.out 5
  have c_V8_L_6 : V8.cell? ⟨L, 6, none⟩ = some (.int .i64 1) := cell_of B_L.out 6
  have c_V8_L_7 : V8.cell? ⟨L, 7, none⟩ = some (.bool false) := cell_of B_L.out 7
  have l_V8_L := heap_lt B_L.out
  have c_V8_T9_0 : V8.cell? ⟨T9, 0, none⟩ = some (.int .i64 3) := cell_of B_T9.out 0
  have c_V8_T9_1 : V8.cell? ⟨T9, 1, none⟩ = some (.int .i64 0) := cell_of B_T9.out 1
  have c_V8_T9_2 : V8.cell? ⟨T9, 2, none⟩ = some (.int .i64 3) := cell_of B_T9.out 2
  have c_V8_T9_3 : V8.cell? ⟨T9, 3, none⟩ = some (.int .i64 0) := cell_of B_T9.out 3
  have c_V8_T9_4 : V8.cell? ⟨T9, 4, none⟩ = some (.int .i64 1) := cell_of B_T9.out 4
  have c_V8_T9_5 : V8.cell? ⟨T9, 5, none⟩ = some (.int .i64 1) := cell_of B_T9.out 5
  have c_V8_T9_6 : V8.cell? ⟨T9, 6, none⟩ = some (.int .i64 1) := cell_of B_T9.out 6
  have c_V8_T9_7 : V8.cell? ⟨T9, 7, none⟩ = some (.bool false) := cell_of B_T9.out 7
  have l_V8_T9 := heap_lt B_T9.out
  go_wp2_with (at_builtin; refine wpList_app rfl _ _ rfl Tryz.underlying32 hii hz0 hz1 rfl rfl (by decide) _ _ _ rfl (Or.inl ⟨none, rfl, rfl, rfl⟩) V8.heap.size 1 1 [.int .i64 3, .int .i64 0, .int .i64 3, .int .i64 0, .int .i64 1, .int .i64 1, .int .i64 1, .bool false] rfl rfl ?c1 ?c2 (by decide) (by decide) hby ?_)
  case c1 => intro j u hj; rw [cell_new' (by simp), ← hj]; simp
  case c2 => intro u hu; simp only [List.mem_cons, List.not_mem_nil, or_false] at hu; rcases hu with h | h | h | h | h | h | h | h <;> (subst h; rfl)
  intro v' V9 hown hk1 hat
  have kg9 := Kept.mono (U := []) hk1 (by simp [own])
  clear c_V8_L_0 c_V8_L_1 c_V8_L_2 c_V8_L_3 c_V8_L_4 c_V8_L_5 c_V8_L_6 c_V8_L_7 l_V8_L c_V8_T9_0 c_V8_T9_1 c_V8_T9_2 c_V8_T9_3 c_V8_T9_4 c_V8_T9_5 c_V8_T9_6 c_V8_T9_7 l_V8_T9
  clear hk1
  have kA9 : Kept [] V8 V9 := Kept.tr ((Kept.refl [] V8).alloc _) kg9
  have hx_X49 := kg9.at (heap_alloc_new (w := V8) (o := .cells #[.int .i64 3, .int .i64 0, .int .i64 3, .int .i64 0, .int .i64 1, .int .i64 1, .int .i64 1, .bool false] 53)) (by simp)
  have Z_L := kA9.at B_L.out (by simp)
  have Z_T9 := kA9.at B_T9.out (by simp)
  obtain ⟨X49, E_X49⟩ : ∃ x, V8.heap.size = x := ⟨_, rfl⟩
  rw [E_X49] at hx_X49
  have g9 := KW.out.1
  have G_X49 : Hid (w.heap.size ≤ X49) := Lib.hid (by omega)
  have N_L_X49 : Hid (L ≠ X49) := Lib.hid (by have := heap_lt B_L.out; omega)
  have N_T9_X49 : Hid (T9 ≠ X49) := Lib.hid (by have := heap_lt B_T9.out; omega)
  replace B_L := Lib.hid Z_L
  replace B_T9 := Lib.hid Z_T9
  have B_X49 := Lib.hid hx_X49
  replace KW := Lib.hid (Kept.tr KW.out kA9)
  clear Z_L Z_T9 hx_X49 kA9 g9 kg9
  try rw [E_X49]
  obtain ⟨r1, r2⟩ := hown
  rcases r2 with ⟨_, r2⟩ | ⟨G3, c3, cr3, rfl, _, r4, r5, r6, r7, r8⟩
  · cases r2
  have hcur : cr3 = (pieceL 3 0 3 0 1 1 1 false (cr3.toList.drop 8)).toArray := by
      have h1 := List.take_append_drop 8 cr3.toList
      have r8' : cr3.toList.take 8 = pieceL 3 0 3 0 1 1 1 false [] := r8
      rw [r8'] at h1
      apply Array.ext'
      rw [← h1]
      simp
  rw [hcur] at r4
  have geL : w.heap.size ≤ G3 := by
      rcases hat with ⟨hat, _⟩ | ⟨g9, hat, hG9⟩
      · cases hat
      · have hat : some G3 = some g9 := hat
        cases hat
        have h9 : X49 ≤ G3 := by
          rw [← E_X49]
          have hG8 := hG9
          first | omega | (simp only [World.size_alloc] at hG8; omega)
        exact Nat.le_trans G_X49.out h9
  have B_L9 := Lib.hid r4
  replace geL := Lib.hid geL
  clear r1 r4 r5 r6 r7 r8 hcur hat
  go_wp2_with fail
  rw [rounds_succ]
  go_wp2_with fail
  go_returns
  exact ⟨G3, _, _, rfl, geL.out, B_L9.out, KW.out⟩
set_option maxHeartbeats 2000000 in
set_option maxRecDepth 100000 in
theorem Clip100_1 (L c : Nat) (cur : List Value) (w : World) (hl : w.heap[L]? = some (.cells (pieceL 3 0 3 0 1 1 1 false cur).toArray 53 (0, 0))) :
    Calls Tryz.prog 100 #[.slice (some ⟨L, 0, none⟩) 1 c, .int .i64 1, .int .i64 2] w fun e W => e = .returned (.slice none 0 0) ∧ Kept [] w W := by
  obtain ⟨i0, hii, hz0, hz1, hby⟩ := info_of infoPiece
  have mk := fun w => mkPiece1 w
  have MY0 := fun w => May114 ((0 : Int) : Rat) (by unfold Sml; decide) w
  have MY1 := fun w => May114 ((1 : Int) : Rat) (by unfold Sml; decide) w
  have WH := fun w => whole140 1 w
  have WT := fun w => whole140 2 w
  have CM := fun w => cmpRI 0 1 (by omega) (by omega) (by omega) (by omega) w
  rw [show cmpR ((0 : Int) : Rat) ((1 : Int) : Rat) = -1 by unfold cmpR; rw [if_pos (by rw [Rat.intCast_lt_intCast]; omega)]] at CM
  have LS := fun w => less141 1 2 (by omega) (by omega) (by omega) (by omega) (by omega) w
  have CN := fun w => cmpRI 1 1 (by omega) (by omega) (by omega) (by omega) w
  rw [show cmpR ((1 : Int) : Rat) ((1 : Int) : Rat) = 0 by unfold cmpR; rw [if_neg (by rw [Rat.intCast_lt_intCast]; omega), if_neg (by rw [Rat.intCast_lt_intCast]; omega)]] at CN
  simp only [rvI] at MY0 MY1
  have KW : Hid (Kept [] w w) := Lib.hid (Kept.refl _ _)
  have B_L := Lib.hid (hl)
  clear hl
  have c_w_L_0 : w.cell? ⟨L, 0, none⟩ = some (.int .i64 3) := cell_of B_L.out 0
  have c_w_L_1 : w.cell? ⟨L, 1, none⟩ = some (.int .i64 0) := cell_of B_L.out 1
  have c_w_L_2 : w.cell? ⟨L, 2, none⟩ = some (.int .i64 3) := cell_of B_L.out 2
  have c_w_L_3 : w.cell? ⟨L, 3, none⟩ = some (.int .i64 0) := cell_of B_L.out 3
  have c_w_L_4 : w.cell? ⟨L, 4, none⟩ = some (.int .i64 1) := cell_of B_L.out 4
  have c_w_L_5 : w.cell? ⟨L, 5, none⟩ = some (.int .i64 1) := cell_of B_L.out 5
  have c_w_L_6 : w.cell? ⟨L, 6, none⟩ = some (.int .i64 1) := cell_of B_L.out 6
  have c_w_L_7 : w.cell? ⟨L, 7, none⟩ = some (.bool false) := cell_of B_L.out 7
  have l_w_L := heap_lt B_L.out
  go_enter Tryz.func100, Tryz.ntmps100
  go_wp2_with fail
  refine wp_loop_rounds 2 ?_
  rw [rounds_succ]
  go_wp2_with fail
  refine (MY0 _).mono ?_
  rintro e' V1 ⟨rfl, os1, q1, hg1⟩
  have kg1 := kept_grow hg1
  clear hg1
  clear c_w_L_0 c_w_L_1 c_w_L_2 c_w_L_3 c_w_L_4 c_w_L_5 c_w_L_6 c_w_L_7 l_w_L
  have kA1 : Kept [] w V1 := Kept.tr ((Kept.refl [] w).alloc _) kg1
  have hx_T9 := kg1.at (heap_alloc_new (w := w) (o := .cells #[.int .i64 3, .int .i64 0, .int .i64 3, .int .i64 0, .int .i64 1, .int .i64 1, .int .i64 1, .bool false] 53)) (by simp)
  have Z_L := kA1.at B_L.out (by simp)
  obtain ⟨T9, E_T9⟩ : ∃ x, w.heap.size = x := ⟨_, rfl⟩
  rw [E_T9] at hx_T9
  have g1 := KW.out.1
  have G_T9 : Hid (w.heap.size ≤ T9) := Lib.hid (by omega)
  have N_L_T9 : Hid (L ≠ T9) := Lib.hid (by have := heap_lt B_L.out; omega)
  replace B_L := Lib.hid Z_L
  have B_T9 := Lib.hid hx_T9
  replace KW := Lib.hid (Kept.tr KW.out kA1)
  clear Z_L hx_T9 kA1 g1 kg1
  try rw [E_T9]
  have c_V1_L_0 : V1.cell? ⟨L, 0, none⟩ = some (.int .i64 3) := cell_of B_L.out 0
  have c_V1_L_1 : V1.cell? ⟨L, 1, none⟩ = some (.int .i64 0) := cell_of B_L.out 1
  have c_V1_L_2 : V1.cell? ⟨L, 2, none⟩ = some (.int .i64 3) := cell_of B_L.out 2
  have c_V1_L_3 : V1.cell? ⟨L, 3, none⟩ = some (.int .i64 0) := cell_of B_L.out 3
  have c_V1_L_4 : V1.cell? ⟨L, 4, none⟩ = some (.int .i64 1) := cell_of B_L.out 4
  have c_V1_L_5 : V1.cell? ⟨L, 5, none⟩ = some (.int .i64 1) := cell_of B_L.out 5
  have c_V1_L_6 : V1.cell? ⟨L, 6, none⟩ = some (.int .i64 1) := cell_of B_L.out 6
  have c_V1_L_7 : V1.cell? ⟨L, 7, none⟩ = some (.bool false) := cell_of B_L.out 7
  have l_V1_L := heap_lt B_L.out
  have c_V1_T9_0 : V1.cell? ⟨T9, 0, none⟩ = some (.int .i64 3) := cell_of B_T9.out 0
  have c_V1_T9_1 : V1.cell? ⟨T9, 1, none⟩ = some (.int .i64 0) := cell_of B_T9.out 1
  have c_V1_T9_2 : V1.cell? ⟨T9, 2, none⟩ = some (.int .i64 3) := cell_of B_T9.out 2
  have c_V1_T9_3 : V1.cell? ⟨T9, 3, none⟩ = some (.int .i64 0) := cell_of B_T9.out 3
  have c_V1_T9_4 : V1.cell? ⟨T9, 4, none⟩ = some (.int .i64 1) := cell_of B_T9.out 4
  have c_V1_T9_5 : V1.cell? ⟨T9, 5, none⟩ = some (.int .i64 1) := cell_of B_T9.out 5
  have c_V1_T9_6 : V1.cell? ⟨T9, 6, none⟩ = some (.int .i64 1) := cell_of B_T9.out 6
  have c_V1_T9_7 : V1.cell? ⟨T9, 7, none⟩ = some (.bool false) := cell_of B_T9.out 7
  have l_V1_T9 := heap_lt B_T9.out
  go_wp2_with fail
  refine (MY1 _).mono ?_
  rintro e' V2 ⟨rfl, os2, q2, hg2⟩
  have kg2 := kept_grow hg2
  clear hg2
  clear c_V1_L_0 c_V1_L_1 c_V1_L_2 c_V1_L_3 c_V1_L_4 c_V1_L_5 c_V1_L_6 c_V1_L_7 l_V1_L c_V1_T9_0 c_V1_T9_1 c_V1_T9_2 c_V1_T9_3 c_V1_T9_4 c_V1_T9_5 c_V1_T9_6 c_V1_T9_7 l_V1_T9
  try rw [E_T9] at kg2
  have kA2 : Kept [] V1 V2 := Kept.tr (Kept.refl [] V1) kg2
  have Z_L := kA2.at B_L.out (by simp)
  have Z_T9 := kA2.at B_T9.out (by simp)
  have g2 := KW.out.1
  replace B_L := Lib.hid Z_L
  replace B_T9 := Lib.hid Z_T9
  replace KW := Lib.hid (Kept.tr KW.out kA2)
  clear Z_L Z_T9 kA2 g2 kg2
  clear E_T9
  have c_V2_L_0 : V2.cell? ⟨L, 0, none⟩ = some (.int .i64 3) := cell_of B_L.out 0
  have c_V2_L_1 : V2.cell? ⟨L, 1, none⟩ = some (.int .i64 0) := cell_of B_L.out 1
  have c_V2_L_2 : V2.cell? ⟨L, 2, none⟩ = some (.int .i64 3) := cell_of B_L.out 2
  have c_V2_L_3 : V2.cell? ⟨L, 3, none⟩ = some (.int .i64 0) := cell_of B_L.out 3
  have c_V2_L_4 : V2.cell? ⟨L, 4, none⟩ = some (.int .i64 1) := cell_of B_L.out 4
  have c_V2_L_5 : V2.cell? ⟨L, 5, none⟩ = some (.int .i64 1) := cell_of B_L.out 5
  have c_V2_L_6 : V2.cell? ⟨L, 6, none⟩ = some (.int .i64 1) := cell_of B_L.out 6
  have c_V2_L_7 : V2.cell? ⟨L, 7, none⟩ = some (.bool false) := cell_of B_L.out 7
  have l_V2_L := heap_lt B_L.out
  have c_V2_T9_0 : V2.cell? ⟨T9, 0, none⟩ = some (.int .i64 3) := cell_of B_T9.out 0
  have c_V2_T9_1 : V2.cell? ⟨T9, 1, none⟩ = some (.int .i64 0) := cell_of B_T9.out 1
  have c_V2_T9_2 : V2.cell? ⟨T9, 2, none⟩ = some (.int .i64 3) := cell_of B_T9.out 2
  have c_V2_T9_3 : V2.cell? ⟨T9, 3, none⟩ = some (.int .i64 0) := cell_of B_T9.out 3
  have c_V2_T9_4 : V2.cell? ⟨T9, 4, none⟩ = some (.int .i64 1) := cell_of B_T9.out 4
  have c_V2_T9_5 : V2.cell? ⟨T9, 5, none⟩ = some (.int .i64 1) := cell_of B_T9.out 5
  have c_V2_T9_6 : V2.cell? ⟨T9, 6, none⟩ = some (.int .i64 1) := cell_of B_T9.out 6
  have c_V2_T9_7 : V2.cell? ⟨T9, 7, none⟩ = some (.bool false) := cell_of B_T9.out 7
  have l_V2_T9 := heap_lt B_T9.out
  go_wp2_with fail
  refine sBegin (fun X => ∃ os q, Go.Proofs.YtgfbfklnhmndfaaGreat.grow V2 os q = X) 6 (by kernel_rfl) (gr_drew (gr_refl _)) ?_
  refine sTake (i := 0) (v := ?_) rfl (by kernel_rfl) (fun _ _ _ h => h) (gLoad (by rfl) ?_) ?_
  rotate_left 1
  · intro W hW; (try dsimp only at hW); obtain ⟨os', q', hW'⟩ := hW; subst hW'; go_simp; all_goals with_reducible rfl
  try simp only [Act.put, zA, zB, zC]
  refine sTake (i := 1) (v := ?_) rfl (by kernel_rfl) (fun _ _ _ h => h) (gLoad (by rfl) ?_) ?_
  rotate_left 1
  · intro W hW; (try dsimp only at hW); obtain ⟨os', q', hW'⟩ := hW; subst hW'; go_simp; all_goals with_reducible rfl
  try simp only [Act.put, zA, zB, zC]
  refine sTake (i := 2) (v := ?_) rfl (by kernel_rfl) (fun _ _ _ h => h) (gLoad (by rfl) ?_) ?_
  rotate_left 1
  · intro W hW; (try dsimp only at hW); obtain ⟨os', q', hW'⟩ := hW; subst hW'; go_simp; all_goals with_reducible rfl
  try simp only [Act.put, zA, zB, zC]
  refine sTake (i := 3) rfl (by kernel_rfl) (fun _ _ _ h => h) (gCall (by rfl) ?_ (fun W hW => RetG.into WH hW)) ?_
  · intro W hW; go_simp; all_goals with_reducible rfl
  try simp only [Act.put, zA, zB, zC]
  refine sTake (i := 4) rfl (by kernel_rfl) (fun _ _ _ h => h) (gCall (by rfl) ?_ (fun W hW => RetG.into CM hW)) ?_
  · intro W hW; go_simp; all_goals with_reducible rfl
  try simp only [Act.put, zA, zB, zC]
  refine sTake (i := 5) (v := ?_) rfl (by kernel_rfl) (fun _ _ _ h => h) (gLoad (by rfl) ?_) ?_
  rotate_left 1
  · intro W hW; (try dsimp only at hW); obtain ⟨os', q', hW'⟩ := hW; subst hW'; go_simp; all_goals with_reducible rfl
  try simp only [Act.put, zA, zB, zC]
  refine sDone (by kernel_rfl) ?_
  intro V3 hV
  obtain ⟨os3, q3, hV⟩ := hV
  have kg3 := kept_grow hV
  clear hV
  clear c_V2_L_0 c_V2_L_1 c_V2_L_2 c_V2_L_3 c_V2_L_4 c_V2_L_5 c_V2_L_6 c_V2_L_7 l_V2_L c_V2_T9_0 c_V2_T9_1 c_V2_T9_2 c_V2_T9_3 c_V2_T9_4 c_V2_T9_5 c_V2_T9_6 c_V2_T9_7 l_V2_T9
  have kA3 : Kept [] V2 V3 := Kept.tr (Kept.refl [] V2) kg3
  have Z_L := kA3.at B_L.out (by simp)
  have Z_T9 := kA3.at B_T9.out (by simp)
  have g3 := KW.out.1
  replace B_L := Lib.hid Z_L
  replace B_T9 := Lib.hid Z_T9
  replace KW := Lib.hid (Kept.tr KW.out kA3)
  clear Z_L Z_T9 kA3 g3 kg3
  have c_V3_L_0 : V3.cell? ⟨L, 0, none⟩ = some (.int .i64 3) := cell_of B_L.out 0
  have c_V3_L_1 : V3.cell? ⟨L, 1, none⟩ = some (.int .i64 0) := cell_of B_L.out 1
  have c_V3_L_2 : V3.cell? ⟨L, 2, none⟩ = some (.int .i64 3) := cell_of B_L.out 2
  have c_V3_L_3 : V3.cell? ⟨L, 3, none⟩ = some (.int .i64 0) := cell_of B_L.out 3
  have c_V3_L_4 : V3.cell? ⟨L, 4, none⟩ = some (.int .i64 1) := cell_of B_L.out 4
  have c_V3_L_5 : V3.cell? ⟨L, 5, none⟩ = some (.int .i64 1) := cell_of B_L.out 5
  have c_V3_L_6 : V3.cell? ⟨L, 6, none⟩ = some (.int .i64 1) := cell_of B_L.out 6
  have c_V3_L_7 : V3.cell? ⟨L, 7, none⟩ = some (.bool false) := cell_of B_L.out 7
  have l_V3_L := heap_lt B_L.out
  have c_V3_T9_0 : V3.cell? ⟨T9, 0, none⟩ = some (.int .i64 3) := cell_of B_T9.out 0
  have c_V3_T9_1 : V3.cell? ⟨T9, 1, none⟩ = some (.int .i64 0) := cell_of B_T9.out 1
  have c_V3_T9_2 : V3.cell? ⟨T9, 2, none⟩ = some (.int .i64 3) := cell_of B_T9.out 2
  have c_V3_T9_3 : V3.cell? ⟨T9, 3, none⟩ = some (.int .i64 0) := cell_of B_T9.out 3
  have c_V3_T9_4 : V3.cell? ⟨T9, 4, none⟩ = some (.int .i64 1) := cell_of B_T9.out 4
  have c_V3_T9_5 : V3.cell? ⟨T9, 5, none⟩ = some (.int .i64 1) := cell_of B_T9.out 5
  have c_V3_T9_6 : V3.cell? ⟨T9, 6, none⟩ = some (.int .i64 1) := cell_of B_T9.out 6
  have c_V3_T9_7 : V3.cell? ⟨T9, 7, none⟩ = some (.bool false) := cell_of B_T9.out 7
  have l_V3_T9 := heap_lt B_T9.out
  go_wp2_with fail
  refine (WH _).mono ?_
  rintro e' V4 ⟨rfl, os4, q4, hg4⟩
  have kg4 := kept_grow hg4
  clear hg4
  clear c_V3_L_0 c_V3_L_1 c_V3_L_2 c_V3_L_3 c_V3_L_4 c_V3_L_5 c_V3_L_6 c_V3_L_7 l_V3_L c_V3_T9_0 c_V3_T9_1 c_V3_T9_2 c_V3_T9_3 c_V3_T9_4 c_V3_T9_5 c_V3_T9_6 c_V3_T9_7 l_V3_T9
  have kA4 : Kept [] V3 V4 := Kept.tr (Kept.refl [] V3) kg4
  have Z_L := kA4.at B_L.out (by simp)
  have Z_T9 := kA4.at B_T9.out (by simp)
  have g4 := KW.out.1
  replace B_L := Lib.hid Z_L
  replace B_T9 := Lib.hid Z_T9
  replace KW := Lib.hid (Kept.tr KW.out kA4)
  clear Z_L Z_T9 kA4 g4 kg4
  have c_V4_L_0 : V4.cell? ⟨L, 0, none⟩ = some (.int .i64 3) := cell_of B_L.out 0
  have c_V4_L_1 : V4.cell? ⟨L, 1, none⟩ = some (.int .i64 0) := cell_of B_L.out 1
  have c_V4_L_2 : V4.cell? ⟨L, 2, none⟩ = some (.int .i64 3) := cell_of B_L.out 2
  have c_V4_L_3 : V4.cell? ⟨L, 3, none⟩ = some (.int .i64 0) := cell_of B_L.out 3
  have c_V4_L_4 : V4.cell? ⟨L, 4, none⟩ = some (.int .i64 1) := cell_of B_L.out 4
  have c_V4_L_5 : V4.cell? ⟨L, 5, none⟩ = some (.int .i64 1) := cell_of B_L.out 5
  have c_V4_L_6 : V4.cell? ⟨L, 6, none⟩ = some (.int .i64 1) := cell_of B_L.out 6
  have c_V4_L_7 : V4.cell? ⟨L, 7, none⟩ = some (.bool false) := cell_of B_L.out 7
  have l_V4_L := heap_lt B_L.out
  have c_V4_T9_0 : V4.cell? ⟨T9, 0, none⟩ = some (.int .i64 3) := cell_of B_T9.out 0
  have c_V4_T9_1 : V4.cell? ⟨T9, 1, none⟩ = some (.int .i64 0) := cell_of B_T9.out 1
  have c_V4_T9_2 : V4.cell? ⟨T9, 2, none⟩ = some (.int .i64 3) := cell_of B_T9.out 2
  have c_V4_T9_3 : V4.cell? ⟨T9, 3, none⟩ = some (.int .i64 0) := cell_of B_T9.out 3
  have c_V4_T9_4 : V4.cell? ⟨T9, 4, none⟩ = some (.int .i64 1) := cell_of B_T9.out 4
  have c_V4_T9_5 : V4.cell? ⟨T9, 5, none⟩ = some (.int .i64 1) := cell_of B_T9.out 5
  have c_V4_T9_6 : V4.cell? ⟨T9, 6, none⟩ = some (.int .i64 1) := cell_of B_T9.out 6
  have c_V4_T9_7 : V4.cell? ⟨T9, 7, none⟩ = some (.bool false) := cell_of B_T9.out 7
  have f_V4_T9_0 : V4.frozen? ⟨T9, 0, none⟩ = false := frozen_of B_T9.out 0
  have f_V4_T9_1 : V4.frozen? ⟨T9, 1, none⟩ = false := frozen_of B_T9.out 1
  have f_V4_T9_2 : V4.frozen? ⟨T9, 2, none⟩ = false := frozen_of B_T9.out 2
  have f_V4_T9_3 : V4.frozen? ⟨T9, 3, none⟩ = false := frozen_of B_T9.out 3
  have f_V4_T9_4 : V4.frozen? ⟨T9, 4, none⟩ = false := frozen_of B_T9.out 4
  have f_V4_T9_5 : V4.frozen? ⟨T9, 5, none⟩ = false := frozen_of B_T9.out 5
  have f_V4_T9_6 : V4.frozen? ⟨T9, 6, none⟩ = false := frozen_of B_T9.out 6
  have f_V4_T9_7 : V4.frozen? ⟨T9, 7, none⟩ = false := frozen_of B_T9.out 7
  have l_V4_T9 := heap_lt B_T9.out
  obtain ⟨V5, V_V5⟩ : ∃ x, ((V4.setCell ⟨T9, 3, none⟩ (.int .i64 1)).setCell ⟨T9, 4, none⟩ (.int .i64 1)) = x := ⟨_, rfl⟩
  have Z_T9 : V5.heap[T9]? = some (.cells #[.int .i64 3, .int .i64 0, .int .i64 3, .int .i64 1, .int .i64 1, .int .i64 1, .int .i64 1, .bool false] 53 (0, 0)) := by rw [← V_V5]; exact heap_setCell (heap_setCell (B_T9.out))
  have Z_L : V5.heap[L]? = some (.cells (.int .i64 3 :: .int .i64 0 :: .int .i64 3 :: .int .i64 0 :: .int .i64 1 :: .int .i64 1 :: .int .i64 1 :: .bool false :: cur).toArray 53 (0, 0)) := by rw [← V_V5]; exact (heap_setCell_ne (Ne.symm N_L_T9.out)).trans ((heap_setCell_ne (Ne.symm N_L_T9.out)).trans (B_L.out))
  have Zk := ((KW.out.setCell ⟨T9, 3, none⟩ (.int .i64 1) (Or.inr G_T9.out)).setCell ⟨T9, 4, none⟩ (.int .i64 1) (Or.inr G_T9.out))
  rw [V_V5] at Zk
  replace B_L := Lib.hid Z_L
  replace B_T9 := Lib.hid Z_T9
  replace KW := Lib.hid Zk
  clear Zk Z_L Z_T9
  have c_V5_L_0 : V5.cell? ⟨L, 0, none⟩ = some (.int .i64 3) := cell_of B_L.out 0
  have c_V5_L_1 : V5.cell? ⟨L, 1, none⟩ = some (.int .i64 0) := cell_of B_L.out 1
  have c_V5_L_2 : V5.cell? ⟨L, 2, none⟩ = some (.int .i64 3) := cell_of B_L.out 2
  have c_V5_L_3 : V5.cell? ⟨L, 3, none⟩ = some (.int .i64 0) := cell_of B_L.out 3
  have c_V5_L_4 : V5.cell? ⟨L, 4, none⟩ = some (.int .i64 1) := cell_of B_L.out 4
  have c_V5_L_5 : V5.cell? ⟨L, 5, none⟩ = some (.int .i64 1) := cell_of B_L.out 5
  have c_V5_L_6 : V5.cell? ⟨L, 6, none⟩ = some (.int .i64 1) := cell_of B_L.out 6
  have c_V5_L_7 : V5.cell? ⟨L, 7, none⟩ = some (.bool false) := cell_of B_L.out 7
  have l_V5_L := heap_lt B_L.out
  have c_V5_T9_0 : V5.cell? ⟨T9, 0, none⟩ = some (.int .i64 3) := cell_of B_T9.out 0
  have c_V5_T9_1 : V5.cell? ⟨T9, 1, none⟩ = some (.int .i64 0) := cell_of B_T9.out 1
  have c_V5_T9_2 : V5.cell? ⟨T9, 2, none⟩ = some (.int .i64 3) := cell_of B_T9.out 2
  have c_V5_T9_3 : V5.cell? ⟨T9, 3, none⟩ = some (.int .i64 1) := cell_of B_T9.out 3
  have c_V5_T9_4 : V5.cell? ⟨T9, 4, none⟩ = some (.int .i64 1) := cell_of B_T9.out 4
  have c_V5_T9_5 : V5.cell? ⟨T9, 5, none⟩ = some (.int .i64 1) := cell_of B_T9.out 5
  have c_V5_T9_6 : V5.cell? ⟨T9, 6, none⟩ = some (.int .i64 1) := cell_of B_T9.out 6
  have c_V5_T9_7 : V5.cell? ⟨T9, 7, none⟩ = some (.bool false) := cell_of B_T9.out 7
  have l_V5_T9 := heap_lt B_T9.out
  go_wp2_with fail
  refine wp_region_any (by kernel_rfl) ?_
  rw [List.size_toArray]
  refine wpAnyS_any (S := fun X => ∃ os q, Go.Proofs.YtgfbfklnhmndfaaGreat.grow V5 os q = X) (k := 5) _ _ _ ?_ _ (gr_drew (gr_refl _))
  refine sTake (i := 0) (v := ?_) rfl (by kernel_rfl) (fun _ _ _ h => h) (gLoad (by rfl) ?_) ?_
  rotate_left 1
  · intro W hW; (try dsimp only at hW); obtain ⟨os', q', hW'⟩ := hW; subst hW'; go_simp; all_goals with_reducible rfl
  try simp only [Act.put, zA, zB, zC]
  refine sTake (i := 1) (v := ?_) rfl (by kernel_rfl) (fun _ _ _ h => h) (gLoad (by rfl) ?_) ?_
  rotate_left 1
  · intro W hW; (try dsimp only at hW); obtain ⟨os', q', hW'⟩ := hW; subst hW'; go_simp; all_goals with_reducible rfl
  try simp only [Act.put, zA, zB, zC]
  refine sTake (i := 2) (v := ?_) rfl (by kernel_rfl) (fun _ _ _ h => h) (gLoad (by rfl) ?_) ?_
  rotate_left 1
  · intro W hW; (try dsimp only at hW); obtain ⟨os', q', hW'⟩ := hW; subst hW'; go_simp; all_goals with_reducible rfl
  try simp only [Act.put, zA, zB, zC]
  refine sTake (i := 3) rfl (by kernel_rfl) (fun _ _ _ h => h) (gCall (by rfl) ?_ (fun W hW => RetG.into WT hW)) ?_
  · intro W hW; go_simp; all_goals with_reducible rfl
  try simp only [Act.put, zA, zB, zC]
  refine sTake (i := 4) rfl (by kernel_rfl) (fun _ _ _ h => h) (gCall (by rfl) ?_ (fun W hW => RetG.into LS hW)) ?_
  · intro W hW; go_simp; all_goals with_reducible rfl
  try simp only [Act.put, zA, zB, zC]
  refine sRest (by kernel_rfl) ?_
  intro V6 hV
  obtain ⟨os6, q6, hV⟩ := hV
  have kg6 := kept_grow hV
  clear hV
  clear c_V4_L_0 c_V4_L_1 c_V4_L_2 c_V4_L_3 c_V4_L_4 c_V4_L_5 c_V4_L_6 c_V4_L_7 l_V4_L c_V4_T9_0 c_V4_T9_1 c_V4_T9_2 c_V4_T9_3 c_V4_T9_4 c_V4_T9_5 c_V4_T9_6 c_V4_T9_7 f_V4_T9_0 f_V4_T9_1 f_V4_T9_2 f_V4_T9_3 f_V4_T9_4 f_V4_T9_5 f_V4_T9_6 f_V4_T9_7 l_V4_T9 c_V5_L_0 c_V5_L_1 c_V5_L_2 c_V5_L_3 c_V5_L_4 c_V5_L_5 c_V5_L_6 c_V5_L_7 l_V5_L c_V5_T9_0 c_V5_T9_1 c_V5_T9_2 c_V5_T9_3 c_V5_T9_4 c_V5_T9_5 c_V5_T9_6 c_V5_T9_7 l_V5_T9
  have kA6 : Kept [] V5 V6 := Kept.tr (Kept.refl [] V5) kg6
  have Z_L := kA6.at B_L.out (by simp)
  have Z_T9 := kA6.at B_T9.out (by simp)
  have g6 := KW.out.1
  replace B_L := Lib.hid Z_L
  replace B_T9 := Lib.hid Z_T9
  replace KW := Lib.hid (Kept.tr KW.out kA6)
  clear Z_L Z_T9 kA6 g6 kg6
  clear V_V5
  have c_V6_L_0 : V6.cell? ⟨L, 0, none⟩ = some (.int .i64 3) := cell_of B_L.out 0
  have c_V6_L_1 : V6.cell? ⟨L, 1, none⟩ = some (.int .i64 0) := cell_of B_L.out 1
  have c_V6_L_2 : V6.cell? ⟨L, 2, none⟩ = some (.int .i64 3) := cell_of B_L.out 2
  have c_V6_L_3 : V6.cell? ⟨L, 3, none⟩ = some (.int .i64 0) := cell_of B_L.out 3
  have c_V6_L_4 : V6.cell? ⟨L, 4, none⟩ = some (.int .i64 1) := cell_of B_L.out 4
  have c_V6_L_5 : V6.cell? ⟨L, 5, none⟩ = some (.int .i64 1) := cell_of B_L.out 5
  have c_V6_L_6 : V6.cell? ⟨L, 6, none⟩ = some (.int .i64 1) := cell_of B_L.out 6
  have c_V6_L_7 : V6.cell? ⟨L, 7, none⟩ = some (.bool false) := cell_of B_L.out 7
  have l_V6_L := heap_lt B_L.out
  have c_V6_T9_0 : V6.cell? ⟨T9, 0, none⟩ = some (.int .i64 3) := cell_of B_T9.out 0
  have c_V6_T9_1 : V6.cell? ⟨T9, 1, none⟩ = some (.int .i64 0) := cell_of B_T9.out 1
  have c_V6_T9_2 : V6.cell? ⟨T9, 2, none⟩ = some (.int .i64 3) := cell_of B_T9.out 2
  have c_V6_T9_3 : V6.cell? ⟨T9, 3, none⟩ = some (.int .i64 1) := cell_of B_T9.out 3
  have c_V6_T9_4 : V6.cell? ⟨T9, 4, none⟩ = some (.int .i64 1) := cell_of B_T9.out 4
  have c_V6_T9_5 : V6.cell? ⟨T9, 5, none⟩ = some (.int .i64 1) := cell_of B_T9.out 5
  have c_V6_T9_6 : V6.cell? ⟨T9, 6, none⟩ = some (.int .i64 1) := cell_of B_T9.out 6
  have c_V6_T9_7 : V6.cell? ⟨T9, 7, none⟩ = some (.bool false) := cell_of B_T9.out 7
  have f_V6_T9_0 : V6.frozen? ⟨T9, 0, none⟩ = false := frozen_of B_T9.out 0
  have f_V6_T9_1 : V6.frozen? ⟨T9, 1, none⟩ = false := frozen_of B_T9.out 1
  have f_V6_T9_2 : V6.frozen? ⟨T9, 2, none⟩ = false := frozen_of B_T9.out 2
  have f_V6_T9_3 : V6.frozen? ⟨T9, 3, none⟩ = false := frozen_of B_T9.out 3
  have f_V6_T9_4 : V6.frozen? ⟨T9, 4, none⟩ = false := frozen_of B_T9.out 4
  have f_V6_T9_5 : V6.frozen? ⟨T9, 5, none⟩ = false := frozen_of B_T9.out 5
  have f_V6_T9_6 : V6.frozen? ⟨T9, 6, none⟩ = false := frozen_of B_T9.out 6
  have f_V6_T9_7 : V6.frozen? ⟨T9, 7, none⟩ = false := frozen_of B_T9.out 7
  have l_V6_T9 := heap_lt B_T9.out
  obtain ⟨V7, V_V7⟩ : ∃ x, ((V6.setCell ⟨T9, 5, none⟩ (.int .i64 1)).setCell ⟨T9, 6, none⟩ (.int .i64 1)) = x := ⟨_, rfl⟩
  have Z_T9 : V7.heap[T9]? = some (.cells #[.int .i64 3, .int .i64 0, .int .i64 3, .int .i64 1, .int .i64 1, .int .i64 1, .int .i64 1, .bool false] 53 (0, 0)) := by rw [← V_V7]; exact heap_setCell (heap_setCell (B_T9.out))
  have Z_L : V7.heap[L]? = some (.cells (.int .i64 3 :: .int .i64 0 :: .int .i64 3 :: .int .i64 0 :: .int .i64 1 :: .int .i64 1 :: .int .i64 1 :: .bool false :: cur).toArray 53 (0, 0)) := by rw [← V_V7]; exact (heap_setCell_ne (Ne.symm N_L_T9.out)).trans ((heap_setCell_ne (Ne.symm N_L_T9.out)).trans (B_L.out))
  have Zk := ((KW.out.setCell ⟨T9, 5, none⟩ (.int .i64 1) (Or.inr G_T9.out)).setCell ⟨T9, 6, none⟩ (.int .i64 1) (Or.inr G_T9.out))
  rw [V_V7] at Zk
  replace B_L := Lib.hid Z_L
  replace B_T9 := Lib.hid Z_T9
  replace KW := Lib.hid Zk
  clear Zk Z_L Z_T9
  refine aVal (i := 5) (v := ?_) rfl (by kernel_rfl) (by rfl) ?_ ?_
  rotate_left 1
  · go_simp; all_goals with_reducible rfl
  try simp only [Act.put, zA, zB, zC]
  refine aSkip (i := 6) (w' := ?_) rfl (by kernel_rfl) (by rfl) ?_ ?_
  rotate_left 1
  · go_simp; all_goals with_reducible rfl
  try simp only [Act.put, zA, zB, zC]
  refine wpAny_done (by kernel_rfl) ?_ _
  try rw [V_V7]
  have c_V7_L_0 : V7.cell? ⟨L, 0, none⟩ = some (.int .i64 3) := cell_of B_L.out 0
  have c_V7_L_1 : V7.cell? ⟨L, 1, none⟩ = some (.int .i64 0) := cell_of B_L.out 1
  have c_V7_L_2 : V7.cell? ⟨L, 2, none⟩ = some (.int .i64 3) := cell_of B_L.out 2
  have c_V7_L_3 : V7.cell? ⟨L, 3, none⟩ = some (.int .i64 0) := cell_of B_L.out 3
  have c_V7_L_4 : V7.cell? ⟨L, 4, none⟩ = some (.int .i64 1) := cell_of B_L.out 4
  have c_V7_L_5 : V7.cell? ⟨L, 5, none⟩ = some (.int .i64 1) := cell_of B_L.out 5
  have c_V7_L_6 : V7.cell? ⟨L, 6, none⟩ = some (.int .i64 1) := cell_of B_L.out 6
  have c_V7_L_7 : V7.cell? ⟨L, 7, none⟩ = some (.bool false) := cell_of B_L.out 7
  have l_V7_L := heap_lt B_L.out
  have c_V7_T9_0 : V7.cell? ⟨T9, 0, none⟩ = some (.int .i64 3) := cell_of B_T9.out 0
  have c_V7_T9_1 : V7.cell? ⟨T9, 1, none⟩ = some (.int .i64 0) := cell_of B_T9.out 1
  have c_V7_T9_2 : V7.cell? ⟨T9, 2, none⟩ = some (.int .i64 3) := cell_of B_T9.out 2
  have c_V7_T9_3 : V7.cell? ⟨T9, 3, none⟩ = some (.int .i64 1) := cell_of B_T9.out 3
  have c_V7_T9_4 : V7.cell? ⟨T9, 4, none⟩ = some (.int .i64 1) := cell_of B_T9.out 4
  have c_V7_T9_5 : V7.cell? ⟨T9, 5, none⟩ = some (.int .i64 1) := cell_of B_T9.out 5
  have c_V7_T9_6 : V7.cell? ⟨T9, 6, none⟩ = some (.int .i64 1) := cell_of B_T9.out 6
  have c_V7_T9_7 : V7.cell? ⟨T9, 7, none⟩ = some (.bool false) := cell_of B_T9.out 7
  have l_V7_T9 := heap_lt B_T9.out
  go_wp2_with fail
  refine (CN _).mono ?_
  rintro e' V8 ⟨rfl, os7, q7, hg7⟩
  have kg7 := kept_grow hg7
  clear hg7
  clear c_V6_L_0 c_V6_L_1 c_V6_L_2 c_V6_L_3 c_V6_L_4 c_V6_L_5 c_V6_L_6 c_V6_L_7 l_V6_L c_V6_T9_0 c_V6_T9_1 c_V6_T9_2 c_V6_T9_3 c_V6_T9_4 c_V6_T9_5 c_V6_T9_6 c_V6_T9_7 f_V6_T9_0 f_V6_T9_1 f_V6_T9_2 f_V6_T9_3 f_V6_T9_4 f_V6_T9_5 f_V6_T9_6 f_V6_T9_7 l_V6_T9 c_V7_L_0 c_V7_L_1 c_V7_L_2 c_V7_L_3 c_V7_L_4 c_V7_L_5 c_V7_L_6 c_V7_L_7 l_V7_L c_V7_T9_0 c_V7_T9_1 c_V7_T9_2 c_V7_T9_3 c_V7_T9_4 c_V7_T9_5 c_V7_T9_6 c_V7_T9_7 l_V7_T9
  try rw [V_V7] at kg7
  have kA7 : Kept [] V7 V8 := Kept.tr (Kept.refl [] V7) kg7
  have Z_L := kA7.at B_L.out (by simp)
  have Z_T9 := kA7.at B_T9.out (by simp)
  have g7 := KW.out.1
  replace B_L := Lib.hid Z_L
  replace B_T9 := Lib.hid Z_T9
  replace KW := Lib.hid (Kept.tr KW.out kA7)
  clear Z_L Z_T9 kA7 g7 kg7
  clear V_V7
  have c_V8_L_0 : V8.cell? ⟨L, 0, none⟩ = some (.int .i64 3) := cell_of B_L.out 0
  have c_V8_L_1 : V8.cell? ⟨L, 1, none⟩ = some (.int .i64 0) := cell_of B_L.out 1
  have c_V8_L_2 : V8.cell? ⟨L, 2, none⟩ = some (.int .i64 3) := cell_of B_L.out 2
  have c_V8_L_3 : V8.cell? ⟨L, 3, none⟩ = some (.int .i64 0) := cell_of B_L.out 3
  have c_V8_L_4 : V8.cell? ⟨L, 4, none⟩ = some (.int .i64 1) := cell_of B_L.out 4
  have c_V8_L_5 : V8.cell? ⟨L, 5, none⟩ = some (.int .i64 1) := cell_of B_L.out 5
  have c_V8_L_6 : V8.cell? ⟨L, 6, none⟩ = some (.int .i64 1) := cell_of B_L.out 6
  have c_V8_L_7 : V8.cell? ⟨L, 7, none⟩ = some (.bool false) := cell_of B_L.out 7
  have l_V8_L := heap_lt B_L.out
  have c_V8_T9_0 : V8.cell? ⟨T9, 0, none⟩ = some (.int .i64 3) := cell_of B_T9.out 0
  have c_V8_T9_1 : V8.cell? ⟨T9, 1, none⟩ = some (.int .i64 0) := cell_of B_T9.out 1
  have c_V8_T9_2 : V8.cell? ⟨T9, 2, none⟩ = some (.int .i64 3) := cell_of B_T9.out 2
  have c_V8_T9_3 : V8.cell? ⟨T9, 3, none⟩ = some (.int .i64 1) := cell_of B_T9.out 3
  have c_V8_T9_4 : V8.cell? ⟨T9, 4, none⟩ = some (.int .i64 1) := cell_of B_T9.out 4
  have c_V8_T9_5 : V8.cell? ⟨T9, 5, none⟩ = some (.int .i64 1) := cell_of B_T9.out 5
  have c_V8_T9_6 : V8.cell? ⟨T9, 6, none⟩ = some (.int .i64 1) := cell_of B_T9.out 6
  have c_V8_T9_7 : V8.cell? ⟨T9, 7, none⟩ = some (.bool false) := cell_of B_T9.out 7
  have l_V8_T9 := heap_lt B_T9.out
  go_wp2_with fail
  rw [rounds_succ]
  go_wp2_with fail
  go_returns
  exact ⟨rfl, KW.out⟩
end
end Go.Proofs.YtgfbfklnhmndfaaGreat
