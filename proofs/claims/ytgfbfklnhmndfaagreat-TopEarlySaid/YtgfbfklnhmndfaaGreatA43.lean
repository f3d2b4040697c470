/- The parts of the top that the law of early release walks through: part 43 of 52. -/
import Derived.Test.YtgfbfklnhmndfaaGreatA1
import Derived.Test.YtgfbfklnhmndfaaGreatA3
import Derived.Test.YtgfbfklnhmndfaaGreatA4
import Derived.Test.YtgfbfklnhmndfaaGreatA6
import Derived.Test.YtgfbfklnhmndfaaGreatA10
import Derived.Test.YtgfbfklnhmndfaaGreatA15
import Derived.Test.YtgfbfklnhmndfaaGreatA16
import Derived.Test.YtgfbfklnhmndfaaGreatA29
import Derived.Test.YtgfbfklnhmndfaaGreatA30
import Derived.Test.YtgfbfklnhmndfaaGreatA35
import Derived.Test.YtgfbfklnhmndfaaGreatA36
import Derived.Test.YtgfbfklnhmndfaaGreatA42
namespace Go.Proofs.YtgfbfklnhmndfaaGreat
open Go.RowKit
set_option linter.unusedSimpArgs false
set_option linter.unusedVariables false
section
attribute [local go_sem ↓] setCell_drewN alloc_drewN grow_cell grow_frozen setCell_grow grow_size cell_alloc_grow frozen_alloc_grow setCell_alloc_grow cell_grow_alloc_grow frozen_grow_alloc_grow setCell_grow_alloc_grow grow_grow
attribute [local go_sem] lt_len size_setCell
theorem infoShare : (Tryz.prog.info? 267).map (fun i => (i.zero, i.size, decide (i.bytes ≤ 10000))) = some (some (.agg #[.int .i64 0, .int .i64 0, .int .i64 0, .bool false]), 4, true) := by kernel_rfl
theorem mkShare1 (W : World) : (Instr.buildSlice 223 1 #[(0, .agg #[.int .i64 3, .int .i64 1, .int .i64 1, .bool false])]).run Tryz.prog W = .ok (.slice (some ⟨W.heap.size, 0, none⟩) 1 1) (W.alloc (.cells #[.int .i64 3, .int .i64 1, .int .i64 1, .bool false] 267)) := by kernel_rfl
set_option maxHeartbeats 2000000 in
theorem All122 (g c : Nat) (cur : List Value) (w : World) (hg : w.heap[g]? = some (.cells (taskL 3 1 2 true 0 0 1 cur).toArray 143 (0, 0))) :
    Calls Tryz.prog 122 #[.slice (some ⟨g, 0, none⟩) 1 c, .int .i64 0, .int .i64 2] w fun e W => ∃ G C cur', e = .returned (.tuple #[.slice (some ⟨G, 0, none⟩) 1 C, .int .i64 0]) ∧ W.heap[G]? = some (.cells (.int .i64 3 :: .int .i64 1 :: .int .i64 1 :: .bool false :: cur').toArray 267 (0, 0)) ∧ Kept [] w W := by
  obtain ⟨i0, hi, hz0, hz1, hby⟩ := info_of infoShare
  have CL := Clone158_one g c cur w hg
  have S := fun g c f w => SortT159 g 1 c f (by omega) w
  have M := fun w => may161 w
  have L := fun w => length162 w
  have mk := fun w => mkShare1 w
  clear hg
  go_enter Tryz.func122, Tryz.ntmps122
  go_wp2_with fail
  refine CL.mono ?_
  rintro e w1 ⟨G, C, cr, rfl, hC, hGn, hG, k1⟩
  have st := Lib.hid (And.intro hG k1)
  clear hG k1 CL hGn
  go_wp2_with fail
  refine (S _ _ _ _).mono ?_
  rintro e w2 ⟨rfl, os2, q2, h2⟩
  have k2 := kept_grow h2
  have hG2 := k2.at st.out.1 (by simp)
  have c0 : w2.cell? ⟨G, 0, none⟩ = some (.int .i64 3) := cell_of hG2 0
  have c1 : w2.cell? ⟨G, 1, none⟩ = some (.int .i64 1) := cell_of hG2 1
  have c2 : w2.cell? ⟨G, 2, none⟩ = some (.int .i64 2) := cell_of hG2 2
  have c3 : w2.cell? ⟨G, 3, none⟩ = some (.bool false) := cell_of hG2 3
  have c4 : w2.cell? ⟨G, 4, none⟩ = some (.bool false) := cell_of hG2 4
  have c5 : w2.cell? ⟨G, 5, none⟩ = some (.bool false) := cell_of hG2 5
  have c6 : w2.cell? ⟨G, 6, none⟩ = some (.bool true) := cell_of hG2 6
  have c7 : w2.cell? ⟨G, 7, none⟩ = some (.int .i64 0) := cell_of hG2 7
  have c8 : w2.cell? ⟨G, 8, none⟩ = some (.int .i64 0) := cell_of hG2 8
  have c9 : w2.cell? ⟨G, 9, none⟩ = some (.bool false) := cell_of hG2 9
  have c10 : w2.cell? ⟨G, 10, none⟩ = some (.int .i64 1) := cell_of hG2 10
  have lG := heap_lt hG2
  replace st := Lib.hid (And.intro hG2 (Kept.tr st.out.2 k2))
  clear h2 k2 hG2 S
  go_wp2_with fail
  refine wp_loop_rounds 2 ?_
  rw [rounds_succ]
  go_wp2_with fail
  have kA : Kept [] w2 (w2.alloc (.cells #[.int .i64 3, .int .i64 1, .int .i64 2, .bool false, .bool false, .bool false, .bool true, .int .i64 0, .int .i64 0, .bool false, .int .i64 1] 143)) := (Kept.refl _ _).alloc _
  have hX := heap_alloc_new (w := w2) (o := .cells #[.int .i64 3, .int .i64 1, .int .i64 2, .bool false, .bool false, .bool false, .bool true, .int .i64 0, .int .i64 0, .bool false, .int .i64 1] 143)
  obtain ⟨X, hXX⟩ : ∃ X, w2.heap.size = X := ⟨_, rfl⟩
  obtain ⟨V, hV⟩ : ∃ V, w2.alloc (.cells #[.int .i64 3, .int .i64 1, .int .i64 2, .bool false, .bool false, .bool false, .bool true, .int .i64 0, .int .i64 0, .bool false, .int .i64 1] 143) = V := ⟨_, rfl⟩
  rw [hV] at kA hX
  rw [hXX] at hX
  try rw [hV]
  try rw [hXX]
  have x0 : V.cell? ⟨X, 0, none⟩ = some (.int .i64 3) := cell_of hX 0
  have x1 : V.cell? ⟨X, 1, none⟩ = some (.int .i64 1) := cell_of hX 1
  have x2 : V.cell? ⟨X, 2, none⟩ = some (.int .i64 2) := cell_of hX 2
  have x3 : V.cell? ⟨X, 3, none⟩ = some (.bool false) := cell_of hX 3
  have x4 : V.cell? ⟨X, 4, none⟩ = some (.bool false) := cell_of hX 4
  have x5 : V.cell? ⟨X, 5, none⟩ = some (.bool false) := cell_of hX 5
  have x6 : V.cell? ⟨X, 6, none⟩ = some (.bool true) := cell_of hX 6
  have x7 : V.cell? ⟨X, 7, none⟩ = some (.int .i64 0) := cell_of hX 7
  have x8 : V.cell? ⟨X, 8, none⟩ = some (.int .i64 0) := cell_of hX 8
  have x9 : V.cell? ⟨X, 9, none⟩ = some (.bool false) := cell_of hX 9
  have x10 : V.cell? ⟨X, 10, none⟩ = some (.int .i64 1) := cell_of hX 10
  have lX := heap_lt hX
  replace st := Lib.hid (And.intro (kA.at st.out.1 (by simp)) (Kept.tr st.out.2 kA))
  clear kA hX hV hXX c0 c1 c2 c3 c4 c5 c6 c7 c8 c9 c10 lG
  refine sBegin (fun W => ∃ os q, Go.Proofs.YtgfbfklnhmndfaaGreat.grow V os q = W) 18 (by kernel_rfl) (gr_drew (gr_refl _)) ?_
  refine sTake (i := 0) (v := ?_) rfl (by kernel_rfl) (fun _ _ _ h => h) (gLoad (by rfl) ?_) ?_
  rotate_left 1
  · intro W hW; (try dsimp only at hW); obtain ⟨os', q', hW'⟩ := hW; subst hW'; go_simp; all_goals with_reducible rfl
  try simp only [Act.put, zA, zB, zC]
  refine sTake (i := 1) rfl (by kernel_rfl) (fun _ _ _ h => h) (gCall (by rfl) ?_ (fun W hW => RetG.into M hW)) ?_
  · intro W hW; go_simp; all_goals with_reducible rfl
  try simp only [Act.put, zA, zB, zC]
  refine sTake (i := 2) (v := ?_) rfl (by kernel_rfl) (fun _ _ _ h => h) (gLoad (by rfl) ?_) ?_
  rotate_left 1
  · intro W hW; (try dsimp only at hW); obtain ⟨os', q', hW'⟩ := hW; subst hW'; go_simp; all_goals with_reducible rfl
  try simp only [Act.put, zA, zB, zC]
  refine sTake (i := 3) (v := ?_) rfl (by kernel_rfl) (fun _ _ _ h => h) (gLoad (by rfl) ?_) ?_
  rotate_left 1
  · intro W hW; (try dsimp only at hW); obtain ⟨os', q', hW'⟩ := hW; subst hW'; go_simp; all_goals with_reducible rfl
  try simp only [Act.put, zA, zB, zC]
  refine sTake (i := 4) (v := ?_) rfl (by kernel_rfl) (fun _ _ _ h => h) (gLoad (by rfl) ?_) ?_
  rotate_left 1
  · intro W hW; (try dsimp only at hW); obtain ⟨os', q', hW'⟩ := hW; subst hW'; go_simp; all_goals with_reducible rfl
  try simp only [Act.put, zA, zB, zC]
  refine sTake (i := 5) (v := ?_) rfl (by kernel_rfl) (fun _ _ _ h => h) (gLoad (by rfl) ?_) ?_
  rotate_left 1
  · intro W hW; (try dsimp only at hW); obtain ⟨os', q', hW'⟩ := hW; subst hW'; go_simp; all_goals with_reducible rfl
  try simp only [Act.put, zA, zB, zC]
  refine sTake (i := 6) (v := ?_) rfl (by kernel_rfl) (fun _ _ _ h => h) (gLoad (by rfl) ?_) ?_
  rotate_left 1
  · intro W hW; (try dsimp only at hW); obtain ⟨os', q', hW'⟩ := hW; subst hW'; go_simp; all_goals with_reducible rfl
  try simp only [Act.put, zA, zB, zC]
  refine sTake (i := 7) (v := undef) rfl (by kernel_rfl) (fun _ _ _ h => h) (Or.inr ⟨by rfl, rfl⟩) ?_
  try simp only [Act.put, zA, zB, zC]
  refine sTake (i := 8) (v := undef) rfl (by kernel_rfl) (fun _ _ _ h => h) (Or.inr ⟨by rfl, rfl⟩) ?_
  try simp only [Act.put, zA, zB, zC]
  refine sTake (i := 9) (v := undef) rfl (by kernel_rfl) (fun _ _ _ h => h) (Or.inr ⟨by rfl, rfl⟩) ?_
  try simp only [Act.put, zA, zB, zC]
  refine sTake (i := 10) (v := undef) rfl (by kernel_rfl) (fun _ _ _ h => h) (Or.inr ⟨by rfl, rfl⟩) ?_
  try simp only [Act.put, zA, zB, zC]
  refine sTake (i := 11) (v := undef) rfl (by kernel_rfl) (fun _ _ _ h => h) (Or.inr ⟨by rfl, rfl⟩) ?_
  try simp only [Act.put, zA, zB, zC]
  refine sTake (i := 12) (v := undef) rfl (by kernel_rfl) (fun _ _ _ h => h) (Or.inr ⟨by rfl, rfl⟩) ?_
  try simp only [Act.put, zA, zB, zC]
  refine sTake (i := 13) (v := undef) rfl (by kernel_rfl) (fun _ _ _ h => h) (Or.inr ⟨by rfl, rfl⟩) ?_
  try simp only [Act.put, zA, zB, zC]
  refine sTake (i := 14) (v := undef) rfl (by kernel_rfl) (fun _ _ _ h => h) (Or.inr ⟨by rfl, rfl⟩) ?_
  try simp only [Act.put, zA, zB, zC]
  refine sTake (i := 15) (v := undef) rfl (by kernel_rfl) (fun _ _ _ h => h) (Or.inr ⟨by rfl, rfl⟩) ?_
  try simp only [Act.put, zA, zB, zC]
  refine sTake (i := 16) (v := ?_) rfl (by kernel_rfl) (fun _ _ _ h => h) (gLoad (by rfl) ?_) ?_
  rotate_left 1
  · intro W hW; (try dsimp only at hW); obtain ⟨os', q', hW'⟩ := hW; subst hW'; go_simp; all_goals with_reducible rfl
  try simp only [Act.put, zA, zB, zC]
  refine sTake (i := 17) (v := ?_) rfl (by kernel_rfl) (fun _ _ _ h => h) (gLoad (by rfl) ?_) ?_
  rotate_left 1
  · intro W hW; (try dsimp only at hW); obtain ⟨os', q', hW'⟩ := hW; subst hW'; go_simp; all_goals with_reducible rfl
  try simp only [Act.put, zA, zB, zC]
  refine sDone (by kernel_rfl) ?_
  intro w3 h3
  obtain ⟨os3, q3, h3⟩ := h3
  have k3 := kept_grow h3
  have hG3 := k3.at st.out.1 (by simp)
  have c0 : w3.cell? ⟨G, 0, none⟩ = some (.int .i64 3) := cell_of hG3 0
  have c1 : w3.cell? ⟨G, 1, none⟩ = some (.int .i64 1) := cell_of hG3 1
  have c2 : w3.cell? ⟨G, 2, none⟩ = some (.int .i64 2) := cell_of hG3 2
  have c3 : w3.cell? ⟨G, 3, none⟩ = some (.bool false) := cell_of hG3 3
  have c4 : w3.cell? ⟨G, 4, none⟩ = some (.bool false) := cell_of hG3 4
  have c5 : w3.cell? ⟨G, 5, none⟩ = some (.bool false) := cell_of hG3 5
  have c6 : w3.cell? ⟨G, 6, none⟩ = some (.bool true) := cell_of hG3 6
  have c7 : w3.cell? ⟨G, 7, none⟩ = some (.int .i64 0) := cell_of hG3 7
  have c8 : w3.cell? ⟨G, 8, none⟩ = some (.int .i64 0) := cell_of hG3 8
  have c9 : w3.cell? ⟨G, 9, none⟩ = some (.bool false) := cell_of hG3 9
  have c10 : w3.cell? ⟨G, 10, none⟩ = some (.int .i64 1) := cell_of hG3 10
  have lG := heap_lt hG3
  replace st := Lib.hid (Kept.tr st.out.2 k3)
  clear h3 k3 hG3 x0 x1 x2 x3 x4 x5 x6 x7 x8 x9 x10 lX M
  go_wp2_with fail
  rw [rounds_succ]
  go_wp2_with fail
  refine wp_loop_rounds 2 ?_
  rw [rounds_succ]
  go_wp2_with fail
  refine (L _).mono ?_
  rintro e w4 ⟨rfl, k4⟩
  have kA : Kept [] w3 (w3.alloc (.cells #[.int .i64 3, .int .i64 1, .int .i64 2, .bool false, .bool false, .bool false, .bool true, .int .i64 0, .int .i64 0, .bool false, .int .i64 1] 143)) := (Kept.refl _ _).alloc _
  have hX := k4.at (heap_alloc_new (w := w3) (o := .cells #[.int .i64 3, .int .i64 1, .int .i64 2, .bool false, .bool false, .bool false, .bool true, .int .i64 0, .int .i64 0, .bool false, .int .i64 1] 143)) (by simp)
  obtain ⟨X2, hXX⟩ : ∃ X, w3.heap.size = X := ⟨_, rfl⟩
  rw [hXX] at hX
  have x0 : w4.cell? ⟨X2, 0, none⟩ = some (.int .i64 3) := cell_of hX 0
  have x1 : w4.cell? ⟨X2, 1, none⟩ = some (.int .i64 1) := cell_of hX 1
  have x2 : w4.cell? ⟨X2, 2, none⟩ = some (.int .i64 2) := cell_of hX 2
  have x3 : w4.cell? ⟨X2, 3, none⟩ = some (.bool false) := cell_of hX 3
  have x4 : w4.cell? ⟨X2, 4, none⟩ = some (.bool false) := cell_of hX 4
  have x5 : w4.cell? ⟨X2, 5, none⟩ = some (.bool false) := cell_of hX 5
  have x6 : w4.cell? ⟨X2, 6, none⟩ = some (.bool true) := cell_of hX 6
  have x7 : w4.cell? ⟨X2, 7, none⟩ = some (.int .i64 0) := cell_of hX 7
  have x8 : w4.cell? ⟨X2, 8, none⟩ = some (.int .i64 0) := cell_of hX 8
  have x9 : w4.cell? ⟨X2, 9, none⟩ = some (.bool false) := cell_of hX 9
  have x10 : w4.cell? ⟨X2, 10, none⟩ = some (.int .i64 1) := cell_of hX 10
  have lX := heap_lt hX
  replace st := Lib.hid (Kept.tr st.out (Kept.tr kA k4))
  clear kA k4 hX c0 c1 c2 c3 c4 c5 c6 c7 c8 c9 c10 lG L
  go_wp2_with (at_builtin; refine wpList_app rfl _ _ rfl Tryz.underlying223 hi hz0 hz1 rfl rfl (by decide) _ _ _ rfl (Or.inl ⟨none, rfl, rfl, rfl⟩) (w4.heap.size + 1) 1 1 [.int .i64 3, .int .i64 1, .int .i64 1, .bool false] rfl rfl ?c1 ?c2 (by decide) (by decide) hby ?_)
  case c1 => intro j u hj; rw [cell_new' (by simp), ← hj]; simp
  case c2 => intro u hu; simp only [List.mem_cons, List.not_mem_nil, or_false] at hu; rcases hu with h | h | h | h <;> (subst h; rfl)
  intro v' w5 hown hk1 hat
  have k5 : Kept [] w4 w5 := Kept.trans (((Kept.refl [] w4).alloc (.cells #[.int .i64 1, .int .i64 1] 39)).alloc (.cells #[.int .i64 3, .int .i64 1, .int .i64 1, .bool false] 267)) hk1 (by simp) (by simp [own])
  obtain ⟨r1, r2⟩ := hown
  rcases r2 with ⟨_, r2⟩ | ⟨G3, c3, cr3, rfl, _, r4, r5, r6, r7, r8⟩
  · cases r2
  have hcur : cr3 = (.int .i64 3 :: .int .i64 1 :: .int .i64 1 :: .bool false :: (cr3.toList.drop 4)).toArray := by
    have h1 := List.take_append_drop 4 cr3.toList
    have r8' : cr3.toList.take 4 = [.int .i64 3, .int .i64 1, .int .i64 1, .bool false] := r8
    rw [r8'] at h1
    apply Array.ext'
    rw [← h1]
    simp
  rw [hcur] at r4
  replace st := Lib.hid (And.intro r4 (Kept.tr st.out k5))
  clear k5 hk1 hat r1 r4 r5 r6 r7 r8 hcur x0 x1 x2 x3 x4 x5 x6 x7 x8 x9 x10 lX
  go_wp2_with fail
  rw [rounds_succ]
  go_wp2_with fail
  go_returns
  exact ⟨G3, c3, _, rfl, st.out.1, st.out.2⟩
end
section
attribute [local go_sem ↓] setCell_drewN alloc_drewN grow_cell grow_frozen setCell_grow grow_size cell_alloc_grow frozen_alloc_grow setCell_alloc_grow cell_grow_alloc_grow frozen_grow_alloc_grow setCell_grow_alloc_grow grow_grow
attribute [local go_sem] lt_len size_setCell
set_option maxHeartbeats 2000000 in
theorem Sum208 (G C : Nat) (cur : List Value) (w : World) (hg : w.heap[G]? = some (.cells (.int .i64 3 :: .int .i64 1 :: .int .i64 1 :: .bool false :: cur).toArray 267 (0, 0))) :
    Calls Tryz.prog 208 #[.slice (some ⟨G, 0, none⟩) 1 C] w fun e W => e = .returned (.tuple #[wi 1, .int .i64 0]) ∧ Kept [] w W := by
  have AD := fun w => Add74 ((0 : Int) : Rat) ((1 : Int) : Rat) (sm_int (by omega) (by omega)) (sm_int (by omega) (by omega)) w
  rw [add_int, show (0 : Int) + 1 = 1 by omega] at AD
  simp only [rvI] at AD
  have KW : Hid (Kept [] w w) := Lib.hid (Kept.refl _ _)
  have B_G := Lib.hid (hg)
  clear hg
  have c_w_G_0 : w.cell? ⟨G, 0, none⟩ = some (.int .i64 3) := cell_of B_G.out 0
  have c_w_G_1 : w.cell? ⟨G, 1, none⟩ = some (.int .i64 1) := cell_of B_G.out 1
  have c_w_G_2 : w.cell? ⟨G, 2, none⟩ = some (.int .i64 1) := cell_of B_G.out 2
  have c_w_G_3 : w.cell? ⟨G, 3, none⟩ = some (.bool false) := cell_of B_G.out 3
  have l_w_G := heap_lt B_G.out
  go_enter Tryz.func208, Tryz.ntmps208
  go_wp2_with fail
  refine wp_loop_rounds 2 ?_
  rw [rounds_succ]
  go_wp2_with fail
  refine (AD _).mono ?_
  rintro e' V1 ⟨rfl, os1, q1, hg1⟩
  have kg1 := kept_grow hg1
  clear hg1
  clear c_w_G_0 c_w_G_1 c_w_G_2 c_w_G_3 l_w_G
  have kA1 : Kept [] w V1 := Kept.tr ((((Kept.refl [] w).alloc _).alloc _).alloc _) kg1
  have hx_R2 := kg1.at ((heap_alloc (o := .cells #[.int .i64 3, .int .i64 1, .int .i64 1, .bool false] 267) (by simp <;> omega)).trans ((heap_alloc (o := .cells #[.int .i64 0, .int .i64 1] 39) (by simp <;> omega)).trans (heap_alloc_new (w := w) (o := .cells #[.int .i64 0, .int .i64 0] 39)))) (by simp)
  have hx_R4 := kg1.at ((heap_alloc (o := .cells #[.int .i64 3, .int .i64 1, .int .i64 1, .bool false] 267) (by simp <;> omega)).trans (heap_alloc_new (w := (w.alloc (.cells #[.int .i64 0, .int .i64 0] 39))) (o := .cells #[.int .i64 0, .int .i64 1] 39))) (by simp)
  simp only [World.size_alloc] at hx_R4
  have hx_X6 := kg1.at (heap_alloc_new (w := ((w.alloc (.cells #[.int .i64 0, .int .i64 0] 39)).alloc (.cells #[.int .i64 0, .int .i64 1] 39))) (o := .cells #[.int .i64 3, .int .i64 1, .int .i64 1, .bool false] 267)) (by simp)
  simp only [World.size_alloc] at hx_X6
  have Z_G := kA1.at B_G.out (by simp)
  obtain ⟨R2, E_R2⟩ : ∃ x, w.heap.size = x := ⟨_, rfl⟩
  obtain ⟨R4, E_R4⟩ : ∃ x, R2 + 1 = x := ⟨_, rfl⟩
  obtain ⟨X6, E_X6⟩ : ∃ x, R4 + 1 = x := ⟨_, rfl⟩
  rw [E_R2] at hx_R2
  rw [E_R2, E_R4] at hx_R4
  rw [E_R2, E_R4, E_X6] at hx_X6
  have g1 := KW.out.1
  have G_R2 : Hid (w.heap.size ≤ R2) := Lib.hid (by omega)
  have N_G_R2 : Hid (G ≠ R2) := Lib.hid (by have := heap_lt B_G.out; omega)
  have G_R4 : Hid (w.heap.size ≤ R4) := Lib.hid (by omega)
  have N_G_R4 : Hid (G ≠ R4) := Lib.hid (by have := heap_lt B_G.out; omega)
  have N_R2_R4 : Hid (R2 ≠ R4) := Lib.hid (by omega)
  have G_X6 : Hid (w.heap.size ≤ X6) := Lib.hid (by omega)
  have N_G_X6 : Hid (G ≠ X6) := Lib.hid (by have := heap_lt B_G.out; omega)
  have N_R2_X6 : Hid (R2 ≠ X6) := Lib.hid (by omega)
  have N_R4_X6 : Hid (R4 ≠ X6) := Lib.hid (by omega)
  replace B_G := Lib.hid Z_G
  have B_R2 := Lib.hid hx_R2
  have B_R4 := Lib.hid hx_R4
  have B_X6 := Lib.hid hx_X6
  replace KW := Lib.hid (Kept.tr KW.out kA1)
  clear Z_G hx_R2 hx_R4 hx_X6 kA1 g1 kg1
  have c_V1_G_0 : V1.cell? ⟨G, 0, none⟩ = some (.int .i64 3) := cell_of B_G.out 0
  have c_V1_G_1 : V1.cell? ⟨G, 1, none⟩ = some (.int .i64 1) := cell_of B_G.out 1
  have c_V1_G_2 : V1.cell? ⟨G, 2, none⟩ = some (.int .i64 1) := cell_of B_G.out 2
  have c_V1_G_3 : V1.cell? ⟨G, 3, none⟩ = some (.bool false) := cell_of B_G.out 3
  have l_V1_G := heap_lt B_G.out
  have c_V1_R2_0 : V1.cell? ⟨R2, 0, none⟩ = some (.int .i64 0) := cell_of B_R2.out 0
  have c_V1_R2_1 : V1.cell? ⟨R2, 1, none⟩ = some (.int .i64 0) := cell_of B_R2.out 1
  have l_V1_R2 := heap_lt B_R2.out
  have c_V1_R4_0 : V1.cell? ⟨R4, 0, none⟩ = some (.int .i64 0) := cell_of B_R4.out 0
  have c_V1_R4_1 : V1.cell? ⟨R4, 1, none⟩ = some (.int .i64 1) := cell_of B_R4.out 1
  have f_V1_R4_0 : V1.frozen? ⟨R4, 0, none⟩ = false := frozen_of B_R4.out 0
  have f_V1_R4_1 : V1.frozen? ⟨R4, 1, none⟩ = false := frozen_of B_R4.out 1
  have l_V1_R4 := heap_lt B_R4.out
  have c_V1_X6_0 : V1.cell? ⟨X6, 0, none⟩ = some (.int .i64 3) := cell_of B_X6.out 0
  have c_V1_X6_1 : V1.cell? ⟨X6, 1, none⟩ = some (.int .i64 1) := cell_of B_X6.out 1
  have c_V1_X6_2 : V1.cell? ⟨X6, 2, none⟩ = some (.int .i64 1) := cell_of B_X6.out 2
  have c_V1_X6_3 : V1.cell? ⟨X6, 3, none⟩ = some (.bool false) := cell_of B_X6.out 3
  have l_V1_X6 := heap_lt B_X6.out
  obtain ⟨V2, V_V2⟩ : ∃ x, ((V1.setCell ⟨R4, 0, none⟩ (.int .i64 1)).setCell ⟨R4, 1, none⟩ (.int .i64 1)) = x := ⟨_, rfl⟩
  have Z_R4 : V2.heap[R4]? = some (.cells #[.int .i64 1, .int .i64 1] 39 (0, 0)) := by rw [← V_V2]; exact heap_setCell (heap_setCell (B_R4.out))
  have Z_G : V2.heap[G]? = some (.cells (.int .i64 3 :: .int .i64 1 :: .int .i64 1 :: .bool false :: cur).toArray 267 (0, 0)) := by rw [← V_V2]; exact (heap_setCell_ne (Ne.symm N_G_R4.out)).trans ((heap_setCell_ne (Ne.symm N_G_R4.out)).trans (B_G.out))
  have Z_R2 : V2.heap[R2]? = some (.cells #[.int .i64 0, .int .i64 0] 39 (0, 0)) := by rw [← V_V2]; exact (heap_setCell_ne (Ne.symm N_R2_R4.out)).trans ((heap_setCell_ne (Ne.symm N_R2_R4.out)).trans (B_R2.out))
  have Z_X6 : V2.heap[X6]? = some (.cells #[.int .i64 3, .int .i64 1, .int .i64 1, .bool false] 267 (0, 0)) := by rw [← V_V2]; exact (heap_setCell_ne N_R4_X6.out).trans ((heap_setCell_ne N_R4_X6.out).trans (B_X6.out))
  have Zk := ((KW.out.setCell ⟨R4, 0, none⟩ (.int .i64 1) (Or.inr G_R4.out)).setCell ⟨R4, 1, none⟩ (.int .i64 1) (Or.inr G_R4.out))
  rw [V_V2] at Zk
  replace B_G := Lib.hid Z_G
  replace B_R2 := Lib.hid Z_R2
  replace B_R4 := Lib.hid Z_R4
  replace B_X6 := Lib.hid Z_X6
  replace KW := Lib.hid Zk
  clear Zk Z_G Z_R2 Z_R4 Z_X6
  have c_V2_G_0 : V2.cell? ⟨G, 0, none⟩ = some (.int .i64 3) := cell_of B_G.out 0
  have c_V2_G_1 : V2.cell? ⟨G, 1, none⟩ = some (.int .i64 1) := cell_of B_G.out 1
  have c_V2_G_2 : V2.cell? ⟨G, 2, none⟩ = some (.int .i64 1) := cell_of B_G.out 2
  have c_V2_G_3 : V2.cell? ⟨G, 3, none⟩ = some (.bool false) := cell_of B_G.out 3
  have l_V2_G := heap_lt B_G.out
  have c_V2_R2_0 : V2.cell? ⟨R2, 0, none⟩ = some (.int .i64 0) := cell_of B_R2.out 0
  have c_V2_R2_1 : V2.cell? ⟨R2, 1, none⟩ = some (.int .i64 0) := cell_of B_R2.out 1
  have f_V2_R2_0 : V2.frozen? ⟨R2, 0, none⟩ = false := frozen_of B_R2.out 0
  have f_V2_R2_1 : V2.frozen? ⟨R2, 1, none⟩ = false := frozen_of B_R2.out 1
  have l_V2_R2 := heap_lt B_R2.out
  have c_V2_R4_0 : V2.cell? ⟨R4, 0, none⟩ = some (.int .i64 1) := cell_of B_R4.out 0
  have c_V2_R4_1 : V2.cell? ⟨R4, 1, none⟩ = some (.int .i64 1) := cell_of B_R4.out 1
  have l_V2_R4 := heap_lt B_R4.out
  have c_V2_X6_0 : V2.cell? ⟨X6, 0, none⟩ = some (.int .i64 3) := cell_of B_X6.out 0
  have c_V2_X6_1 : V2.cell? ⟨X6, 1, none⟩ = some (.int .i64 1) := cell_of B_X6.out 1
  have c_V2_X6_2 : V2.cell? ⟨X6, 2, none⟩ = some (.int .i64 1) := cell_of B_X6.out 2
  have c_V2_X6_3 : V2.cell? ⟨X6, 3, none⟩ = some (.bool false) := cell_of B_X6.out 3
  have l_V2_X6 := heap_lt B_X6.out
  go_wp2_with fail
  rw [rounds_succ]
  obtain ⟨V3, V_V3⟩ : ∃ x, ((V2.setCell ⟨R2, 0, none⟩ (.int .i64 1)).setCell ⟨R2, 1, none⟩ (.int .i64 1)) = x := ⟨_, rfl⟩
  have Z_R2 : V3.heap[R2]? = some (.cells #[.int .i64 1, .int .i64 1] 39 (0, 0)) := by rw [← V_V3]; exact heap_setCell (heap_setCell (B_R2.out))
  have Z_G : V3.heap[G]? = some (.cells (.int .i64 3 :: .int .i64 1 :: .int .i64 1 :: .bool false :: cur).toArray 267 (0, 0)) := by rw [← V_V3]; exact (heap_setCell_ne (Ne.symm N_G_R2.out)).trans ((heap_setCell_ne (Ne.symm N_G_R2.out)).trans (B_G.out))
  have Z_R4 : V3.heap[R4]? = some (.cells #[.int .i64 1, .int .i64 1] 39 (0, 0)) := by rw [← V_V3]; exact (heap_setCell_ne N_R2_R4.out).trans ((heap_setCell_ne N_R2_R4.out).trans (B_R4.out))
  have Z_X6 : V3.heap[X6]? = some (.cells #[.int .i64 3, .int .i64 1, .int .i64 1, .bool false] 267 (0, 0)) := by rw [← V_V3]; exact (heap_setCell_ne N_R2_X6.out).trans ((heap_setCell_ne N_R2_X6.out).trans (B_X6.out))
  have Zk := ((KW.out.setCell ⟨R2, 0, none⟩ (.int .i64 1) (Or.inr G_R2.out)).setCell ⟨R2, 1, none⟩ (.int .i64 1) (Or.inr G_R2.out))
  rw [V_V3] at Zk
  replace B_G := Lib.hid Z_G
  replace B_R2 := Lib.hid Z_R2
  replace B_R4 := Lib.hid Z_R4
  replace B_X6 := Lib.hid Z_X6
  replace KW := Lib.hid Zk
  clear Zk Z_G Z_R2 Z_R4 Z_X6
  have c_V3_G_0 : V3.cell? ⟨G, 0, none⟩ = some (.int .i64 3) := cell_of B_G.out 0
  have c_V3_G_1 : V3.cell? ⟨G, 1, none⟩ = some (.int .i64 1) := cell_of B_G.out 1
  have c_V3_G_2 : V3.cell? ⟨G, 2, none⟩ = some (.int .i64 1) := cell_of B_G.out 2
  have c_V3_G_3 : V3.cell? ⟨G, 3, none⟩ = some (.bool false) := cell_of B_G.out 3
  have l_V3_G := heap_lt B_G.out
  have c_V3_R2_0 : V3.cell? ⟨R2, 0, none⟩ = some (.int .i64 1) := cell_of B_R2.out 0
  have c_V3_R2_1 : V3.cell? ⟨R2, 1, none⟩ = some (.int .i64 1) := cell_of B_R2.out 1
  have l_V3_R2 := heap_lt B_R2.out
  have c_V3_R4_0 : V3.cell? ⟨R4, 0, none⟩ = some (.int .i64 1) := cell_of B_R4.out 0
  have c_V3_R4_1 : V3.cell? ⟨R4, 1, none⟩ = some (.int .i64 1) := cell_of B_R4.out 1
  have l_V3_R4 := heap_lt B_R4.out
  have c_V3_X6_0 : V3.cell? ⟨X6, 0, none⟩ = some (.int .i64 3) := cell_of B_X6.out 0
  have c_V3_X6_1 : V3.cell? ⟨X6, 1, none⟩ = some (.int .i64 1) := cell_of B_X6.out 1
  have c_V3_X6_2 : V3.cell? ⟨X6, 2, none⟩ = some (.int .i64 1) := cell_of B_X6.out 2
  have c_V3_X6_3 : V3.cell? ⟨X6, 3, none⟩ = some (.bool false) := cell_of B_X6.out 3
  have l_V3_X6 := heap_lt B_X6.out
  go_wp2_with fail
  refine bodyPost_ret (by simp [results, Tryz.results208, go_sem, *]; try rfl) rfl ?_
  exact ⟨rfl, KW.out⟩
end
end Go.Proofs.YtgfbfklnhmndfaaGreat
