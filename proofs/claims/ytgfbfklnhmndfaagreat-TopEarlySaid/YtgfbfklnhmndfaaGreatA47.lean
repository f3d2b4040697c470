/- The parts of the top that the law of early release walks through: part 47 of 52. -/
import Derived.Test.YtgfbfklnhmndfaaGreatA1
import Derived.Test.YtgfbfklnhmndfaaGreatA3
import Derived.Test.YtgfbfklnhmndfaaGreatA4
import Derived.Test.YtgfbfklnhmndfaaGreatA15
import Derived.Test.YtgfbfklnhmndfaaGreatA16
import Derived.Test.YtgfbfklnhmndfaaGreatA23
import Derived.Test.YtgfbfklnhmndfaaGreatA24
import Derived.Test.YtgfbfklnhmndfaaGreatA25
import Derived.Test.YtgfbfklnhmndfaaGreatA29
import Derived.Test.YtgfbfklnhmndfaaGreatA30
import Derived.Test.YtgfbfklnhmndfaaGreatA33
import Derived.Test.YtgfbfklnhmndfaaGreatA35
import Derived.Test.YtgfbfklnhmndfaaGreatA36
import Derived.Test.YtgfbfklnhmndfaaGreatA41
import Derived.Test.YtgfbfklnhmndfaaGreatA42
import Derived.Test.YtgfbfklnhmndfaaGreatA46
namespace Go.Proofs.YtgfbfklnhmndfaaGreat
open Go.RowKit
set_option linter.unusedSimpArgs false
set_option linter.unusedVariables false
section
attribute [local go_sem ↓] setCell_drewN alloc_drewN grow_cell grow_frozen setCell_grow grow_size cell_alloc_grow frozen_alloc_grow setCell_alloc_grow cell_grow_alloc_grow frozen_grow_alloc_grow setCell_grow_alloc_grow grow_grow
attribute [local go_sem] lt_len size_setCell
theorem Tick58_0 (b L C : Nat) (cur : List Value) (w : World) (hb : w.heap[b]? = some (.cells #[.int .i64 1, .bool true, .int .i64 2, .slice (some ⟨L, 0, none⟩) 1 C] 103 (0, 0))) (hl : w.heap[L]? = some (.cells (pieceL 3 0 3 0 1 1 1 false cur).toArray 53 (0, 0))) :
    Calls Tryz.prog 58 #[pt b, .int .i64 0] w fun e W => ∃ G C cur', e = .returned (.slice (some ⟨G, 0, none⟩) 1 C) ∧ w.heap.size ≤ G ∧ W.heap[G]? = some (.cells (pieceL 3 0 3 0 1 1 1 false cur').toArray 53 (0, 0)) ∧ Kept [] w W := by
  have K := Clip100_0 L C cur w hl
  have S := fun g n c f hn w => SortP90 g n c f hn w
  have c3 : w.cell? ⟨b, 3, none⟩ = some (.slice (some ⟨L, 0, none⟩) 1 C) := cell_of hb 3
  have lb := heap_lt hb
  replace S := Lib.hid S
  clear hb hl
  go_enter Tryz.func58, Tryz.ntmps58
  go_wp2_with fail
  refine K.mono ?_
  rintro e' w1 ⟨G, C', cr, rfl, hG, hp, k1⟩
  have st := Lib.hid (And.intro hG (And.intro hp k1))
  clear hG hp k1 K
  go_wp2_with fail
  refine (S.out _ 1 _ _ (by omega) _).mono ?_
  rintro e' w2 ⟨rfl, os, q, h⟩
  have k2 := Lib.hid (kept_grow h)
  clear h
  go_wp2_with fail
  go_returns
  obtain ⟨a1, a2, a3⟩ := st.out
  exact ⟨G, _, _, rfl, a1, k2.out.at a2 (by simp), Kept.tr a3 k2.out⟩
theorem Tick58_1 (b L C : Nat) (cur : List Value) (w : World) (hb : w.heap[b]? = some (.cells #[.int .i64 1, .bool true, .int .i64 2, .slice (some ⟨L, 0, none⟩) 1 C] 103 (0, 0))) (hl : w.heap[L]? = some (.cells (pieceL 3 0 3 0 1 1 1 false cur).toArray 53 (0, 0))) :
    Calls Tryz.prog 58 #[pt b, .int .i64 1] w fun e W => e = .returned (.slice none 0 0) ∧ Kept [] w W := by
  have K := Clip100_1 L C cur w hl
  have S := fun g n c f hn w => SortP90 g n c f hn w
  have c3 : w.cell? ⟨b, 3, none⟩ = some (.slice (some ⟨L, 0, none⟩) 1 C) := cell_of hb 3
  have lb := heap_lt hb
  replace S := Lib.hid S
  clear hb hl
  go_enter Tryz.func58, Tryz.ntmps58
  go_wp2_with fail
  refine K.mono ?_
  rintro e' w1 ⟨rfl, k1⟩
  replace k1 := Lib.hid k1
  clear K
  go_wp2_with fail
  refine (S.out _ 0 _ _ (by omega) _).mono ?_
  rintro e' w2 ⟨rfl, os, q, h⟩
  have k2 := Lib.hid (kept_grow h)
  clear h
  go_wp2_with fail
  go_returns
  exact ⟨rfl, Kept.tr k1.out k2.out⟩
theorem Release167_1 (w : World) : Calls Tryz.prog 167 #[.int .i64 1, .int .i64 2, .int .i64 1] w (RetG (.int .i64 0) w) := by
  have T := fun w => May210 1 2 1 (by omega) (by omega) (by omega) (by omega) (by omega) w
  unfold RetG at *
  go_enter Tryz.func167, Tryz.ntmps167
  go_wp2_with fail
  refine (T _).mono ?_
  rintro e' w1 ⟨rfl, os, q, rfl⟩
  go_wp2_with fail
  go_returns
  exact ⟨rfl, by repeat (first | exact gr_refl _ | apply gr_alloc | apply gr_grow | apply gr_drewN | apply gr_drew)⟩
set_option maxHeartbeats 1000000 in
theorem Can125_now (cnt : Int) (w : World) : Calls Tryz.prog 125 #[taskV 3 1 2 true 0 0 cnt, .int .i64 0, .bool false] w (RetG (.bool true) w) := by
  have T := fun w => there166_yes 3 1 2 0 0 cnt (by omega) (by omega) (by omega) (by omega) (by omega) w
  have R := fun w => Release167_1 w
  have hw1 : IntKind.i64.wrap 1 = 1 := IntWalk.i64_in _ (by omega)
  have hw0 : IntKind.i64.wrap 0 = 0 := IntWalk.i64_in _ (by omega)
  unfold RetG at *
  go_enter Tryz.func125, Tryz.ntmps125
  go_wp2_with fail
  refine (T _).mono ?_
  rintro e' w1 ⟨rfl, os, q, rfl⟩
  go_wp2_with fail
  refine sBegin (fun W => ∃ os q, grow (w.alloc (.cells #[.int .i64 3, .int .i64 1, .int .i64 2, .bool false, .bool false, .bool false, .bool true, .int .i64 0, .int .i64 0, .bool false, .int .i64 cnt] 143)) os q = W) 17 (by kernel_rfl) ⟨os, q + 1, (grow_drewN ..).symm⟩ ?_
  refine sTake (i := 0) (v := ?_) rfl (by kernel_rfl) (fun _ _ _ h => h) (gLoad (by rfl) ?_) ?_
  rotate_left 1
  · intro W hW; (try dsimp only at hW); obtain ⟨os', q', hW'⟩ := hW; subst hW'; go_simp; all_goals with_reducible rfl
  try simp only [Act.put, zA, zB, zC]
  refine sTake (i := 1) (v := ?_) rfl (by kernel_rfl) (fun _ _ _ h => h) (gLoad (by rfl) ?_) ?_
  rotate_left 1
  · intro W hW; (try dsimp only at hW); obtain ⟨os', q', hW'⟩ := hW; subst hW'; go_simp; all_goals with_reducible rfl
  try simp only [Act.put, zA, zB, zC]
  refine sTake (i := 2) (v := ?_) rfl (by kernel_rfl) (fun _ _ _ h => h) (gLoad (by rfl) ?_) ?_
  rotate_left 1
  · intro W hW; (try dsimp only at hW); obtain ⟨os', q', hW'⟩ := hW; subst hW'; go_simp; all_goals with_reducible rfl
  try simp only [Act.put, zA, zB, zC]
  refine sTake (i := 3) (v := ?_) rfl (by kernel_rfl) (fun _ _ _ h => h) (gLoad (by rfl) ?_) ?_
  rotate_left 1
  · intro W hW; (try dsimp only at hW); obtain ⟨os', q', hW'⟩ := hW; subst hW'; go_simp; all_goals with_reducible rfl
  try simp only [Act.put, zA, zB, zC]
  refine sTake (i := 4) (v := ?_) rfl (by kernel_rfl) (fun _ _ _ h => h) (gLoad (by rfl) ?_) ?_
  rotate_left 1
  · intro W hW; (try dsimp only at hW); obtain ⟨os', q', hW'⟩ := hW; subst hW'; go_simp; all_goals with_reducible rfl
  try simp only [Act.put, zA, zB, zC]
  refine sTake (i := 5) (v := ?_) rfl (by kernel_rfl) (fun _ _ _ h => h) (gLoad (by rfl) ?_) ?_
  rotate_left 1
  · intro W hW; (try dsimp only at hW); obtain ⟨os', q', hW'⟩ := hW; subst hW'; go_simp; all_goals with_reducible rfl
  try simp only [Act.put, zA, zB, zC]
  refine sTake (i := 6) (v := ?_) rfl (by kernel_rfl) (fun _ _ _ h => h) (gLoad (by rfl) ?_) ?_
  rotate_left 1
  · intro W hW; (try dsimp only at hW); obtain ⟨os', q', hW'⟩ := hW; subst hW'; go_simp; all_goals with_reducible rfl
  try simp only [Act.put, zA, zB, zC]
  refine sTake (i := 7) (v := ?_) rfl (by kernel_rfl) (fun _ _ _ h => h) (gLoad (by rfl) ?_) ?_
  rotate_left 1
  · intro W hW; (try dsimp only at hW); obtain ⟨os', q', hW'⟩ := hW; subst hW'; go_simp; all_goals with_reducible rfl
  try simp only [Act.put, zA, zB, zC]
  refine sTake (i := 8) (v := ?_) rfl (by kernel_rfl) (fun _ _ _ h => h) (gLoad (by rfl) ?_) ?_
  rotate_left 1
  · intro W hW; (try dsimp only at hW); obtain ⟨os', q', hW'⟩ := hW; subst hW'; go_simp; all_goals with_reducible rfl
  try simp only [Act.put, zA, zB, zC]
  refine sTake (i := 9) (v := ?_) rfl (by kernel_rfl) (fun _ _ _ h => h) (gLoad (by rfl) ?_) ?_
  rotate_left 1
  · intro W hW; (try dsimp only at hW); obtain ⟨os', q', hW'⟩ := hW; subst hW'; go_simp; all_goals with_reducible rfl
  try simp only [Act.put, zA, zB, zC]
  refine sTake (i := 10) (v := ?_) rfl (by kernel_rfl) (fun _ _ _ h => h) (gLoad (by rfl) ?_) ?_
  rotate_left 1
  · intro W hW; (try dsimp only at hW); obtain ⟨os', q', hW'⟩ := hW; subst hW'; go_simp; all_goals with_reducible rfl
  try simp only [Act.put, zA, zB, zC]
  refine sTake (i := 11) rfl (by kernel_rfl) (fun _ _ _ h => h) (gCall (by rfl) ?_ (fun W hW => RetG.into R hW)) ?_
  · intro W hW; go_simp; all_goals with_reducible rfl
  try simp only [Act.put, zA, zB, zC]
  refine sTake (i := 12) (v := ?_) rfl (by kernel_rfl) (fun _ _ _ h => h) (gLoad (by rfl) ?_) ?_
  rotate_left 1
  · intro W hW; (try dsimp only at hW); obtain ⟨os', q', hW'⟩ := hW; subst hW'; go_simp; all_goals with_reducible rfl
  try simp only [Act.put, zA, zB, zC]
  refine sTake (i := 13) (v := ?_) rfl (by kernel_rfl) (fun _ _ _ h => h) (gLoad (by rfl) ?_) ?_
  rotate_left 1
  · intro W hW; (try dsimp only at hW); obtain ⟨os', q', hW'⟩ := hW; subst hW'; go_simp; all_goals with_reducible rfl
  try simp only [Act.put, zA, zB, zC]
  refine sTake (i := 14) (v := ?_) rfl (by kernel_rfl) (fun _ _ _ h => h) (gLoad (by rfl) ?_) ?_
  rotate_left 1
  · intro W hW; (try dsimp only at hW); obtain ⟨os', q', hW'⟩ := hW; subst hW'; go_simp; all_goals with_reducible rfl
  try simp only [Act.put, zA, zB, zC]
  refine sTake (i := 15) (v := ?_) rfl (by kernel_rfl) (fun _ _ _ h => h) (gLoad (by rfl) ?_) ?_
  rotate_left 1
  · intro W hW; (try dsimp only at hW); obtain ⟨os', q', hW'⟩ := hW; subst hW'; go_simp; all_goals with_reducible rfl
  try simp only [Act.put, zA, zB, zC]
  refine sTake (i := 16) (v := ?_) rfl (by kernel_rfl) (fun _ _ _ h => h) (gLoad (by rfl) ?_) ?_
  rotate_left 1
  · intro W hW; (try dsimp only at hW); obtain ⟨os', q', hW'⟩ := hW; subst hW'; go_simp; all_goals with_reducible rfl
  try simp only [Act.put, zA, zB, zC]
  refine sDone (by kernel_rfl) ?_
  intro W hW
  obtain ⟨os3, q3, rfl⟩ := hW
  go_wp2_with fail
  go_returns
  exact ⟨rfl, by repeat (first | exact gr_refl _ | apply gr_alloc | apply gr_grow | apply gr_drewN | apply gr_drew)⟩
end
section
attribute [local go_sem ↓] setCell_drewN alloc_drewN grow_cell grow_frozen setCell_grow grow_size cell_alloc_grow frozen_alloc_grow setCell_alloc_grow cell_grow_alloc_grow frozen_grow_alloc_grow setCell_grow_alloc_grow grow_grow
attribute [local go_sem] lt_len size_setCell
set_option maxHeartbeats 1000000 in
theorem Put61_9_0 (r rb : Nat) (clock a b c n1 d1 n2 d2 : Int) (sl : Bool) (w : World) (hr : RingAt w r rb 9 0) :
    Calls Tryz.prog 61 #[pt r, .int .i64 clock, .agg #[.int .i64 a, .int .i64 b, .int .i64 c, .int .i64 n1, .int .i64 d1, .int .i64 n2, .int .i64 d2, .bool sl]] w fun e W => (∃ y, e = .returned (.int .i64 y)) ∧ Kept [r, rb] w W ∧ RingAt W r rb 9 1 := by
  obtain ⟨hr, cs, hb, hcs⟩ := hr
  have hne : rb ≠ r := heap_ne hb hr (by intro h; cases h)
  have k1 : Kept [] w (w.alloc (.cells #[.int .i64 a, .int .i64 b, .int .i64 c, .int .i64 n1, .int .i64 d1, .int .i64 n2, .int .i64 d2, .bool sl] 53)) := (Kept.refl _ _).alloc _
  have hp := heap_alloc_new (w := w) (o := .cells #[.int .i64 a, .int .i64 b, .int .i64 c, .int .i64 n1, .int .i64 d1, .int .i64 n2, .int .i64 d2, .bool sl] 53)
  obtain ⟨W1, hW1⟩ : ∃ W1, w.alloc (.cells #[.int .i64 a, .int .i64 b, .int .i64 c, .int .i64 n1, .int .i64 d1, .int .i64 n2, .int .i64 d2, .bool sl] 53) = W1 := ⟨_, rfl⟩
  obtain ⟨X, hX⟩ : ∃ X, w.heap.size = X := ⟨_, rfl⟩
  rw [hW1] at k1 hp
  rw [hX] at hp
  have hr1 := k1.at hr (by simp)
  have hb1 := k1.at hb (by simp)
  have L := int_load r 1 0 W1 (cell_of hr1 1)
  have c0 : W1.cell? ⟨r, 0, none⟩ = some (.slice (some ⟨rb, 0, none⟩) 9 9) := cell_of hr1 0
  have lr := heap_lt hr1
  have e0 : W1.cell? ⟨rb, 0, none⟩ = some (cs[0]) := (cell_of hb1 0).trans (Array.getElem?_eq_getElem (by omega))
  have f0 : W1.frozen? ⟨rb, 0, none⟩ = false := frozen_of hb1 0
  have e1 : W1.cell? ⟨rb, 1, none⟩ = some (cs[1]) := (cell_of hb1 1).trans (Array.getElem?_eq_getElem (by omega))
  have f1 : W1.frozen? ⟨rb, 1, none⟩ = false := frozen_of hb1 1
  have e2 : W1.cell? ⟨rb, 2, none⟩ = some (cs[2]) := (cell_of hb1 2).trans (Array.getElem?_eq_getElem (by omega))
  have f2 : W1.frozen? ⟨rb, 2, none⟩ = false := frozen_of hb1 2
  have e3 : W1.cell? ⟨rb, 3, none⟩ = some (cs[3]) := (cell_of hb1 3).trans (Array.getElem?_eq_getElem (by omega))
  have f3 : W1.frozen? ⟨rb, 3, none⟩ = false := frozen_of hb1 3
  have e4 : W1.cell? ⟨rb, 4, none⟩ = some (cs[4]) := (cell_of hb1 4).trans (Array.getElem?_eq_getElem (by omega))
  have f4 : W1.frozen? ⟨rb, 4, none⟩ = false := frozen_of hb1 4
  have e5 : W1.cell? ⟨rb, 5, none⟩ = some (cs[5]) := (cell_of hb1 5).trans (Array.getElem?_eq_getElem (by omega))
  have f5 : W1.frozen? ⟨rb, 5, none⟩ = false := frozen_of hb1 5
  have e6 : W1.cell? ⟨rb, 6, none⟩ = some (cs[6]) := (cell_of hb1 6).trans (Array.getElem?_eq_getElem (by omega))
  have f6 : W1.frozen? ⟨rb, 6, none⟩ = false := frozen_of hb1 6
  have e7 : W1.cell? ⟨rb, 7, none⟩ = some (cs[7]) := (cell_of hb1 7).trans (Array.getElem?_eq_getElem (by omega))
  have f7 : W1.frozen? ⟨rb, 7, none⟩ = false := frozen_of hb1 7
  have e8 : W1.cell? ⟨rb, 8, none⟩ = some (cs[8]) := (cell_of hb1 8).trans (Array.getElem?_eq_getElem (by omega))
  have f8 : W1.frozen? ⟨rb, 8, none⟩ = false := frozen_of hb1 8
  have e9 : W1.cell? ⟨rb, 9, none⟩ = some (cs[9]) := (cell_of hb1 9).trans (Array.getElem?_eq_getElem (by omega))
  have f9 : W1.frozen? ⟨rb, 9, none⟩ = false := frozen_of hb1 9
  generalize cs[0] = v0 at e0
  generalize cs[1] = v1 at e1
  generalize cs[2] = v2 at e2
  generalize cs[3] = v3 at e3
  generalize cs[4] = v4 at e4
  generalize cs[5] = v5 at e5
  generalize cs[6] = v6 at e6
  generalize cs[7] = v7 at e7
  generalize cs[8] = v8 at e8
  generalize cs[9] = v9 at e9
  have p0 : W1.cell? ⟨X, 0, none⟩ = some (.int .i64 a) := cell_of hp 0
  have p1 : W1.cell? ⟨X, 1, none⟩ = some (.int .i64 b) := cell_of hp 1
  have p2 : W1.cell? ⟨X, 2, none⟩ = some (.int .i64 c) := cell_of hp 2
  have p3 : W1.cell? ⟨X, 3, none⟩ = some (.int .i64 n1) := cell_of hp 3
  have p4 : W1.cell? ⟨X, 4, none⟩ = some (.int .i64 d1) := cell_of hp 4
  have p5 : W1.cell? ⟨X, 5, none⟩ = some (.int .i64 n2) := cell_of hp 5
  have p6 : W1.cell? ⟨X, 6, none⟩ = some (.int .i64 d2) := cell_of hp 6
  have p7 : W1.cell? ⟨X, 7, none⟩ = some (.bool sl) := cell_of hp 7
  have lX := heap_lt hp
  have lb := heap_lt hb1
  obtain ⟨Wm, hWm⟩ : ∃ Wm, ((((((((((W1.setCell ⟨rb, 0, none⟩ (.int .i64 0)).setCell ⟨rb, 1, none⟩ (.int .i64 clock)).setCell ⟨rb, 2, none⟩ (.int .i64 a)).setCell ⟨rb, 3, none⟩ (.int .i64 b)).setCell ⟨rb, 4, none⟩ (.int .i64 c)).setCell ⟨rb, 5, none⟩ (.int .i64 n1)).setCell ⟨rb, 6, none⟩ (.int .i64 d1)).setCell ⟨rb, 7, none⟩ (.int .i64 n2)).setCell ⟨rb, 8, none⟩ (.int .i64 d2)).setCell ⟨rb, 9, none⟩ (.bool sl)) = Wm := ⟨_, rfl⟩
  obtain ⟨W2, hW2⟩ : ∃ W2, Wm.drew = W2 := ⟨_, rfl⟩
  have hb2 : ∃ cs', Wm.heap[rb]? = some (.cells cs' 204 (0, 0)) ∧ cs'.size = 9 * 10 := by
    rw [← hWm]
    exact ⟨_, heap_setCell (heap_setCell (heap_setCell (heap_setCell (heap_setCell (heap_setCell (heap_setCell (heap_setCell (heap_setCell (heap_setCell (hb1)))))))))), by simp only [Array.size_setIfInBounds]; exact hcs⟩
  have hr2 : Wm.heap[r]? = some (.cells #[.slice (some ⟨rb, 0, none⟩) 9 9, .int .i64 0] 116 (0, 0)) := by rw [← hWm]; exact (heap_setCell_ne hne).trans ((heap_setCell_ne hne).trans ((heap_setCell_ne hne).trans ((heap_setCell_ne hne).trans ((heap_setCell_ne hne).trans ((heap_setCell_ne hne).trans ((heap_setCell_ne hne).trans ((heap_setCell_ne hne).trans ((heap_setCell_ne hne).trans ((heap_setCell_ne hne).trans (hr1))))))))))
  have k2 : Kept [r, rb] W1 Wm := by rw [← hWm]; exact (((((((((((Kept.refl [r, rb] W1).setCell _ _ (Or.inl (by simp))).setCell _ _ (Or.inl (by simp))).setCell _ _ (Or.inl (by simp))).setCell _ _ (Or.inl (by simp))).setCell _ _ (Or.inl (by simp))).setCell _ _ (Or.inl (by simp))).setCell _ _ (Or.inl (by simp))).setCell _ _ (Or.inl (by simp))).setCell _ _ (Or.inl (by simp))).setCell _ _ (Or.inl (by simp)))
  replace hb2 : ∃ cs', W2.heap[rb]? = some (.cells cs' 204 (0, 0)) ∧ cs'.size = 9 * 10 := by rw [← hW2]; exact hb2
  replace hr2 : W2.heap[r]? = some (.cells #[.slice (some ⟨rb, 0, none⟩) 9 9, .int .i64 0] 116 (0, 0)) := by rw [← hW2]; exact hr2
  replace k2 : Kept [r, rb] W1 W2 := by rw [← hW2]; exact k2.drew
  have S := int_store r 1 0 1 W2 (cell_of hr2 1) (frozen_of hr2 1)
  have fin := Lib.hid (And.intro (Kept.tr0 k1 k2) (And.intro hb2 (And.intro hr2 hne)))
  clear k1 hp hr hb hr1 hb1 hb2 hr2 k2 hne hcs
  go_enter Tryz.func61, Tryz.ntmps61
  go_wp2_with fail
  refine L.mono ?_
  rintro e' w1 ⟨rfl, hw1⟩
  subst hw1
  try rw [hX]
  clear L
  go_wp2_with fail
  refine wp_region_any (by kernel_rfl) ?_
  rw [List.size_toArray]
  refine wpAnyS_any (S := fun Y => Y = W1.drew) (k := 11) _ _ _ ?_ _ rfl
  refine sTake (i := 0) rfl (by kernel_rfl) (fun _ _ _ h => h) (gLoad (by rfl) (fun W hW => by (try dsimp only at hW); subst hW; go_simp; first | done | rfl)) ?_
  try simp only [Act.put, zA, zB, zC]
  refine sTake (i := 1) rfl (by kernel_rfl) (fun _ _ _ h => h) (gLoad (by rfl) (fun W hW => by (try dsimp only at hW); subst hW; go_simp; first | done | rfl)) ?_
  try simp only [Act.put, zA, zB, zC]
  refine sTake (i := 2) rfl (by kernel_rfl) (fun _ _ _ h => h) (gLoad (by rfl) (fun W hW => by (try dsimp only at hW); subst hW; go_simp; first | done | rfl)) ?_
  try simp only [Act.put, zA, zB, zC]
  refine sTake (i := 3) rfl (by kernel_rfl) (fun _ _ _ h => h) (gLoad (by rfl) (fun W hW => by (try dsimp only at hW); subst hW; go_simp; first | done | rfl)) ?_
  try simp only [Act.put, zA, zB, zC]
  refine sTake (i := 4) rfl (by kernel_rfl) (fun _ _ _ h => h) (gLoad (by rfl) (fun W hW => by (try dsimp only at hW); subst hW; go_simp; first | done | rfl)) ?_
  try simp only [Act.put, zA, zB, zC]
  refine sTake (i := 5) rfl (by kernel_rfl) (fun _ _ _ h => h) (gLoad (by rfl) (fun W hW => by (try dsimp only at hW); subst hW; go_simp; first | done | rfl)) ?_
  try simp only [Act.put, zA, zB, zC]
  refine sTake (i := 6) rfl (by kernel_rfl) (fun _ _ _ h => h) (gLoad (by rfl) (fun W hW => by (try dsimp only at hW); subst hW; go_simp; first | done | rfl)) ?_
  try simp only [Act.put, zA, zB, zC]
  refine sTake (i := 7) rfl (by kernel_rfl) (fun _ _ _ h => h) (gLoad (by rfl) (fun W hW => by (try dsimp only at hW); subst hW; go_simp; first | done | rfl)) ?_
  try simp only [Act.put, zA, zB, zC]
  refine sTake (i := 8) rfl (by kernel_rfl) (fun _ _ _ h => h) (gLoad (by rfl) (fun W hW => by (try dsimp only at hW); subst hW; go_simp; first | done | rfl)) ?_
  try simp only [Act.put, zA, zB, zC]
  refine sTake (i := 9) rfl (by kernel_rfl) (fun _ _ _ h => h) (gLoad (by rfl) (fun W hW => by (try dsimp only at hW); subst hW; go_simp; first | done | rfl)) ?_
  try simp only [Act.put, zA, zB, zC]
  refine sTake (i := 10) rfl (by kernel_rfl) (fun _ _ _ h => h) (gLoad (by rfl) (fun W hW => by (try dsimp only at hW); subst hW; go_simp; first | done | rfl)) ?_
  try simp only [Act.put, zA, zB, zC]
  refine sRest (by kernel_rfl) ?_
  rintro Y rfl
  refine aVal (i := 11) (v := ?_) rfl (by kernel_rfl) (by rfl) ?_ ?_
  rotate_left 1
  · go_simp; all_goals with_reducible rfl
  try simp only [Act.put, zA, zB, zC]
  refine aSkip (i := 12) (w' := ?_) rfl (by kernel_rfl) (by rfl) ?_ ?_
  rotate_left 1
  · go_simp; all_goals with_reducible rfl
  try simp only [Act.put, zA, zB, zC]
  refine wpAny_done (by kernel_rfl) ?_ _
  try rw [hWm]
  try rw [hW2]
  clear hW1 hX hW2 hWm e0 f0 e1 f1 e2 f2 e3 f3 e4 f4 e5 f5 e6 f6 e7 f7 e8 f8 e9 f9 p0 p1 p2 p3 p4 p5 p6 p7 lX lb c0 lr
  go_wp2_with fail
  refine S.mono ?_
  rintro e' w3 ⟨rfl, rfl⟩
  clear S
  go_wp2_with fail
  go_returns
  obtain ⟨kk, ⟨cs', hb2, hcs'⟩, hr2, hne⟩ := fin.out
  exact ⟨⟨_, rfl⟩, kk.setCell _ _ (Or.inl (by simp)), heap_setCell hr2, cs', (heap_setCell_ne (Ne.symm hne)).trans hb2, hcs'⟩
set_option maxHeartbeats 1000000 in
theorem Put61_9_1 (r rb : Nat) (clock a b c n1 d1 n2 d2 : Int) (sl : Bool) (w : World) (hr : RingAt w r rb 9 1) :
    Calls Tryz.prog 61 #[pt r, .int .i64 clock, .agg #[.int .i64 a, .int .i64 b, .int .i64 c, .int .i64 n1, .int .i64 d1, .int .i64 n2, .int .i64 d2, .bool sl]] w fun e W => (∃ y, e = .returned (.int .i64 y)) ∧ Kept [r, rb] w W ∧ RingAt W r rb 9 2 := by
  obtain ⟨hr, cs, hb, hcs⟩ := hr
  have hne : rb ≠ r := heap_ne hb hr (by intro h; cases h)
  have k1 : Kept [] w (w.alloc (.cells #[.int .i64 a, .int .i64 b, .int .i64 c, .int .i64 n1, .int .i64 d1, .int .i64 n2, .int .i64 d2, .bool sl] 53)) := (Kept.refl _ _).alloc _
  have hp := heap_alloc_new (w := w) (o := .cells #[.int .i64 a, .int .i64 b, .int .i64 c, .int .i64 n1, .int .i64 d1, .int .i64 n2, .int .i64 d2, .bool sl] 53)
  obtain ⟨W1, hW1⟩ : ∃ W1, w.alloc (.cells #[.int .i64 a, .int .i64 b, .int .i64 c, .int .i64 n1, .int .i64 d1, .int .i64 n2, .int .i64 d2, .bool sl] 53) = W1 := ⟨_, rfl⟩
  obtain ⟨X, hX⟩ : ∃ X, w.heap.size = X := ⟨_, rfl⟩
  rw [hW1] at k1 hp
  rw [hX] at hp
  have hr1 := k1.at hr (by simp)
  have hb1 := k1.at hb (by simp)
  have L := int_load r 1 1 W1 (cell_of hr1 1)
  have c0 : W1.cell? ⟨r, 0, none⟩ = some (.slice (some ⟨rb, 0, none⟩) 9 9) := cell_of hr1 0
  have lr := heap_lt hr1
  have e0 : W1.cell? ⟨rb, 10, none⟩ = some (cs[10]) := (cell_of hb1 10).trans (Array.getElem?_eq_getElem (by omega))
  have f0 : W1.frozen? ⟨rb, 10, none⟩ = false := frozen_of hb1 10
  have e1 : W1.cell? ⟨rb, 11, none⟩ = some (cs[11]) := (cell_of hb1 11).trans (Array.getElem?_eq_getElem (by omega))
  have f1 : W1.frozen? ⟨rb, 11, none⟩ = false := frozen_of hb1 11
  have e2 : W1.cell? ⟨rb, 12, none⟩ = some (cs[12]) := (cell_of hb1 12).trans (Array.getElem?_eq_getElem (by omega))
  have f2 : W1.frozen? ⟨rb, 12, none⟩ = false := frozen_of hb1 12
  have e3 : W1.cell? ⟨rb, 13, none⟩ = some (cs[13]) := (cell_of hb1 13).trans (Array.getElem?_eq_getElem (by omega))
  have f3 : W1.frozen? ⟨rb, 13, none⟩ = false := frozen_of hb1 13
  have e4 : W1.cell? ⟨rb, 14, none⟩ = some (cs[14]) := (cell_of hb1 14).trans (Array.getElem?_eq_getElem (by omega))
  have f4 : W1.frozen? ⟨rb, 14, none⟩ = false := frozen_of hb1 14
  have e5 : W1.cell? ⟨rb, 15, none⟩ = some (cs[15]) := (cell_of hb1 15).trans (Array.getElem?_eq_getElem (by omega))
  have f5 : W1.frozen? ⟨rb, 15, none⟩ = false := frozen_of hb1 15
  have e6 : W1.cell? ⟨rb, 16, none⟩ = some (cs[16]) := (cell_of hb1 16).trans (Array.getElem?_eq_getElem (by omega))
  have f6 : W1.frozen? ⟨rb, 16, none⟩ = false := frozen_of hb1 16
  have e7 : W1.cell? ⟨rb, 17, none⟩ = some (cs[17]) := (cell_of hb1 17).trans (Array.getElem?_eq_getElem (by omega))
  have f7 : W1.frozen? ⟨rb, 17, none⟩ = false := frozen_of hb1 17
  have e8 : W1.cell? ⟨rb, 18, none⟩ = some (cs[18]) := (cell_of hb1 18).trans (Array.getElem?_eq_getElem (by omega))
  have f8 : W1.frozen? ⟨rb, 18, none⟩ = false := frozen_of hb1 18
  have e9 : W1.cell? ⟨rb, 19, none⟩ = some (cs[19]) := (cell_of hb1 19).trans (Array.getElem?_eq_getElem (by omega))
  have f9 : W1.frozen? ⟨rb, 19, none⟩ = false := frozen_of hb1 19
  generalize cs[10] = v0 at e0
  generalize cs[11] = v1 at e1
  generalize cs[12] = v2 at e2
  generalize cs[13] = v3 at e3
  generalize cs[14] = v4 at e4
  generalize cs[15] = v5 at e5
  generalize cs[16] = v6 at e6
  generalize cs[17] = v7 at e7
  generalize cs[18] = v8 at e8
  generalize cs[19] = v9 at e9
  have p0 : W1.cell? ⟨X, 0, none⟩ = some (.int .i64 a) := cell_of hp 0
  have p1 : W1.cell? ⟨X, 1, none⟩ = some (.int .i64 b) := cell_of hp 1
  have p2 : W1.cell? ⟨X, 2, none⟩ = some (.int .i64 c) := cell_of hp 2
  have p3 : W1.cell? ⟨X, 3, none⟩ = some (.int .i64 n1) := cell_of hp 3
  have p4 : W1.cell? ⟨X, 4, none⟩ = some (.int .i64 d1) := cell_of hp 4
  have p5 : W1.cell? ⟨X, 5, none⟩ = some (.int .i64 n2) := cell_of hp 5
  have p6 : W1.cell? ⟨X, 6, none⟩ = some (.int .i64 d2) := cell_of hp 6
  have p7 : W1.cell? ⟨X, 7, none⟩ = some (.bool sl) := cell_of hp 7
  have lX := heap_lt hp
  have lb := heap_lt hb1
  obtain ⟨Wm, hWm⟩ : ∃ Wm, ((((((((((W1.setCell ⟨rb, 10, none⟩ (.int .i64 1)).setCell ⟨rb, 11, none⟩ (.int .i64 clock)).setCell ⟨rb, 12, none⟩ (.int .i64 a)).setCell ⟨rb, 13, none⟩ (.int .i64 b)).setCell ⟨rb, 14, none⟩ (.int .i64 c)).setCell ⟨rb, 15, none⟩ (.int .i64 n1)).setCell ⟨rb, 16, none⟩ (.int .i64 d1)).setCell ⟨rb, 17, none⟩ (.int .i64 n2)).setCell ⟨rb, 18, none⟩ (.int .i64 d2)).setCell ⟨rb, 19, none⟩ (.bool sl)) = Wm := ⟨_, rfl⟩
  obtain ⟨W2, hW2⟩ : ∃ W2, Wm.drew = W2 := ⟨_, rfl⟩
  have hb2 : ∃ cs', Wm.heap[rb]? = some (.cells cs' 204 (0, 0)) ∧ cs'.size = 9 * 10 := by
    rw [← hWm]
    exact ⟨_, heap_setCell (heap_setCell (heap_setCell (heap_setCell (heap_setCell (heap_setCell (heap_setCell (heap_setCell (heap_setCell (heap_setCell (hb1)))))))))), by simp only [Array.size_setIfInBounds]; exact hcs⟩
  have hr2 : Wm.heap[r]? = some (.cells #[.slice (some ⟨rb, 0, none⟩) 9 9, .int .i64 1] 116 (0, 0)) := by rw [← hWm]; exact (heap_setCell_ne hne).trans ((heap_setCell_ne hne).trans ((heap_setCell_ne hne).trans ((heap_setCell_ne hne).trans ((heap_setCell_ne hne).trans ((heap_setCell_ne hne).trans ((heap_setCell_ne hne).trans ((heap_setCell_ne hne).trans ((heap_setCell_ne hne).trans ((heap_setCell_ne hne).trans (hr1))))))))))
  have k2 : Kept [r, rb] W1 Wm := by rw [← hWm]; exact (((((((((((Kept.refl [r, rb] W1).setCell _ _ (Or.inl (by simp))).setCell _ _ (Or.inl (by simp))).setCell _ _ (Or.inl (by simp))).setCell _ _ (Or.inl (by simp))).setCell _ _ (Or.inl (by simp))).setCell _ _ (Or.inl (by simp))).setCell _ _ (Or.inl (by simp))).setCell _ _ (Or.inl (by simp))).setCell _ _ (Or.inl (by simp))).setCell _ _ (Or.inl (by simp)))
  replace hb2 : ∃ cs', W2.heap[rb]? = some (.cells cs' 204 (0, 0)) ∧ cs'.size = 9 * 10 := by rw [← hW2]; exact hb2
  replace hr2 : W2.heap[r]? = some (.cells #[.slice (some ⟨rb, 0, none⟩) 9 9, .int .i64 1] 116 (0, 0)) := by rw [← hW2]; exact hr2
  replace k2 : Kept [r, rb] W1 W2 := by rw [← hW2]; exact k2.drew
  have S := int_store r 1 1 2 W2 (cell_of hr2 1) (frozen_of hr2 1)
  have fin := Lib.hid (And.intro (Kept.tr0 k1 k2) (And.intro hb2 (And.intro hr2 hne)))
  clear k1 hp hr hb hr1 hb1 hb2 hr2 k2 hne hcs
  go_enter Tryz.func61, Tryz.ntmps61
  go_wp2_with fail
  refine L.mono ?_
  rintro e' w1 ⟨rfl, hw1⟩
  subst hw1
  try rw [hX]
  clear L
  go_wp2_with fail
  refine wp_region_any (by kernel_rfl) ?_
  rw [List.size_toArray]
  refine wpAnyS_any (S := fun Y => Y = W1.drew) (k := 11) _ _ _ ?_ _ rfl
  refine sTake (i := 0) rfl (by kernel_rfl) (fun _ _ _ h => h) (gLoad (by rfl) (fun W hW => by (try dsimp only at hW); subst hW; go_simp; first | done | rfl)) ?_
  try simp only [Act.put, zA, zB, zC]
  refine sTake (i := 1) rfl (by kernel_rfl) (fun _ _ _ h => h) (gLoad (by rfl) (fun W hW => by (try dsimp only at hW); subst hW; go_simp; first | done | rfl)) ?_
  try simp only [Act.put, zA, zB, zC]
  refine sTake (i := 2) rfl (by kernel_rfl) (fun _ _ _ h => h) (gLoad (by rfl) (fun W hW => by (try dsimp only at hW); subst hW; go_simp; first | done | rfl)) ?_
  try simp only [Act.put, zA, zB, zC]
  refine sTake (i := 3) rfl (by kernel_rfl) (fun _ _ _ h => h) (gLoad (by rfl) (fun W hW => by (try dsimp only at hW); subst hW; go_simp; first | done | rfl)) ?_
  try simp only [Act.put, zA, zB, zC]
  refine sTake (i := 4) rfl (by kernel_rfl) (fun _ _ _ h => h) (gLoad (by rfl) (fun W hW => by (try dsimp only at hW); subst hW; go_simp; first | done | rfl)) ?_
  try simp only [Act.put, zA, zB, zC]
  refine sTake (i := 5) rfl (by kernel_rfl) (fun _ _ _ h => h) (gLoad (by rfl) (fun W hW => by (try dsimp only at hW); subst hW; go_simp; first | done | rfl)) ?_
  try simp only [Act.put, zA, zB, zC]
  refine sTake (i := 6) rfl (by kernel_rfl) (fun _ _ _ h => h) (gLoad (by rfl) (fun W hW => by (try dsimp only at hW); subst hW; go_simp; first | done | rfl)) ?_
  try simp only [Act.put, zA, zB, zC]
  refine sTake (i := 7) rfl (by kernel_rfl) (fun _ _ _ h => h) (gLoad (by rfl) (fun W hW => by (try dsimp only at hW); subst hW; go_simp; first | done | rfl)) ?_
  try simp only [Act.put, zA, zB, zC]
  refine sTake (i := 8) rfl (by kernel_rfl) (fun _ _ _ h => h) (gLoad (by rfl) (fun W hW => by (try dsimp only at hW); subst hW; go_simp; first | done | rfl)) ?_
  try simp only [Act.put, zA, zB, zC]
  refine sTake (i := 9) rfl (by kernel_rfl) (fun _ _ _ h => h) (gLoad (by rfl) (fun W hW => by (try dsimp only at hW); subst hW; go_simp; first | done | rfl)) ?_
  try simp only [Act.put, zA, zB, zC]
  refine sTake (i := 10) rfl (by kernel_rfl) (fun _ _ _ h => h) (gLoad (by rfl) (fun W hW => by (try dsimp only at hW); subst hW; go_simp; first | done | rfl)) ?_
  try simp only [Act.put, zA, zB, zC]
  refine sRest (by kernel_rfl) ?_
  rintro Y rfl
  refine aVal (i := 11) (v := ?_) rfl (by kernel_rfl) (by rfl) ?_ ?_
  rotate_left 1
  · go_simp; all_goals with_reducible rfl
  try simp only [Act.put, zA, zB, zC]
  refine aSkip (i := 12) (w' := ?_) rfl (by kernel_rfl) (by rfl) ?_ ?_
  rotate_left 1
  · go_simp; all_goals with_reducible rfl
  try simp only [Act.put, zA, zB, zC]
  refine wpAny_done (by kernel_rfl) ?_ _
  try rw [hWm]
  try rw [hW2]
  clear hW1 hX hW2 hWm e0 f0 e1 f1 e2 f2 e3 f3 e4 f4 e5 f5 e6 f6 e7 f7 e8 f8 e9 f9 p0 p1 p2 p3 p4 p5 p6 p7 lX lb c0 lr
  go_wp2_with fail
  refine S.mono ?_
  rintro e' w3 ⟨rfl, rfl⟩
  clear S
  go_wp2_with fail
  go_returns
  obtain ⟨kk, ⟨cs', hb2, hcs'⟩, hr2, hne⟩ := fin.out
  exact ⟨⟨_, rfl⟩, kk.setCell _ _ (Or.inl (by simp)), heap_setCell hr2, cs', (heap_setCell_ne (Ne.symm hne)).trans hb2, hcs'⟩
end
end Go.Proofs.YtgfbfklnhmndfaaGreat
