/- The parts of the top that the law of early release walks through: part 17 of 52. -/
import Derived.Shelf.SlIterI.Sorted
import Derived.Test.YtgfbfklnhmndfaaGreatA1
import Derived.Test.YtgfbfklnhmndfaaGreatA3
import Derived.Test.YtgfbfklnhmndfaaGreatA4
import Derived.Test.YtgfbfklnhmndfaaGreatA12
namespace Go.Proofs.YtgfbfklnhmndfaaGreat
open Go.RowKit
set_option linter.unusedSimpArgs false
set_option linter.unusedVariables false
section
attribute [local go_sem ↓] setCell_drewN alloc_drewN grow_cell grow_frozen setCell_grow grow_size cell_alloc_grow frozen_alloc_grow setCell_alloc_grow cell_grow_alloc_grow frozen_grow_alloc_grow setCell_grow_alloc_grow grow_grow
attribute [local go_sem] lt_len size_setCell
theorem New124 (w : World) : Calls Tryz.prog 124 #[.int .i64 1] w fun e w' => e = .returned (.pointer (some ⟨w.heap.size + 1, 0, none⟩)) ∧ w' = (w.alloc (.map #[] 0)).alloc (.cells #[.int .i64 1, .slice none 0 0, .map (some w.heap.size)] 274) := by
  have hM := fun w => run_makeMap (P := Tryz.prog) 90 w
  go_enter Tryz.func124, Tryz.ntmps124
  go_wp2_with fail
  go_returns
  exact ⟨rfl, rfl⟩
set_option maxHeartbeats 1000000 in
theorem set168 (h g A cap : Nat) (a b c d : Int) (x0 x1 x2 x3 x4 : Value) (rest : List Value) (o o' : Obj) (w : World) (hnc : 1 ≤ cap)
    (hh : w.heap[h]? = some (.cells #[.int .i64 1, .slice (some ⟨g, 0, none⟩) 1 cap, .map (some A)] 274 (0, 0))) (hg : w.heap[g]? = some (.cells (x0 :: x1 :: x2 :: x3 :: x4 :: rest).toArray 277 (0, 0))) (hA : w.heap[A]? = some o)
    (hP : ∀ W : World, W.heap[A]? = some o → (Instr.mapUpdate 90 (.map (some A)) (.int .i64 0) (.int .i64 0)).run Tryz.prog W = .ok () (Go.ChangeMaps.setBlock W A o')) (h1 : h ≠ g) (h2 : h ≠ A) (h3 : g ≠ A) :
    Calls Tryz.prog 168 #[.pointer (some ⟨h, 0, none⟩), .int .i64 0, .agg #[.int .i64 0, .int .i64 a, .int .i64 b, .int .i64 c, .int .i64 d]] w fun e w' => e = .returned (.tuple #[]) ∧ Kept [g, A] w w' ∧
      w'.heap[g]? = some (.cells (.int .i64 0 :: .int .i64 a :: .int .i64 b :: .int .i64 c :: .int .i64 d :: rest).toArray 277 (0, 0)) ∧ w'.heap[A]? = some o' := by
  obtain ⟨W, hW⟩ : ∃ W, w.alloc (.cells #[.int .i64 0, .int .i64 a, .int .i64 b, .int .i64 c, .int .i64 d] 277) = W := ⟨_, rfl⟩
  have lh := heap_lt hh
  have lg := heap_lt hg
  have lA := heap_lt hA
  have kW : Kept [] w W := by rw [← hW]; exact (Kept.refl _ _).alloc _
  have nW : W.heap[w.heap.size]? = some (.cells #[.int .i64 0, .int .i64 a, .int .i64 b, .int .i64 c, .int .i64 d] 277 (0, 0)) := by rw [← hW]; exact heap_alloc_new
  obtain ⟨B, hB⟩ : ∃ B, w.heap.size = B := ⟨_, rfl⟩
  have hBg : B ≠ g := by omega
  have hBh : B ≠ h := by omega
  have hBA : B ≠ A := by omega
  have hBs : w.heap.size ≤ B := by omega
  have Wh := kW.at hh (by simp)
  have Wg := kW.at hg (by simp)
  have WA := kW.at hA (by simp)
  have c0 : W.cell? ⟨h, 1, none⟩ = some (.slice (some ⟨g, 0, none⟩) 1 cap) := cell_of Wh 1
  have g0 : W.cell? ⟨g, 0, none⟩ = some x0 := cell_of Wg 0
  have f0 : W.frozen? ⟨g, 0, none⟩ = false := frozen_of Wg 0
  have g1 : W.cell? ⟨g, 1, none⟩ = some x1 := cell_of Wg 1
  have f1 : W.frozen? ⟨g, 1, none⟩ = false := frozen_of Wg 1
  have g2 : W.cell? ⟨g, 2, none⟩ = some x2 := cell_of Wg 2
  have f2 : W.frozen? ⟨g, 2, none⟩ = false := frozen_of Wg 2
  have g3 : W.cell? ⟨g, 3, none⟩ = some x3 := cell_of Wg 3
  have f3 : W.frozen? ⟨g, 3, none⟩ = false := frozen_of Wg 3
  have g4 : W.cell? ⟨g, 4, none⟩ = some x4 := cell_of Wg 4
  have f4 : W.frozen? ⟨g, 4, none⟩ = false := frozen_of Wg 4
  have l1 := heap_lt Wh
  have l2 := heap_lt Wg
  rw [hB] at nW
  have b0 : W.cell? ⟨B, 0, none⟩ = some (.int .i64 0) := cell_of nW 0
  have b1 : W.cell? ⟨B, 1, none⟩ = some (.int .i64 a) := cell_of nW 1
  have b2 : W.cell? ⟨B, 2, none⟩ = some (.int .i64 b) := cell_of nW 2
  have b3 : W.cell? ⟨B, 3, none⟩ = some (.int .i64 c) := cell_of nW 3
  have b4 : W.cell? ⟨B, 4, none⟩ = some (.int .i64 d) := cell_of nW 4
  have lB := heap_lt nW
  replace Wg := Lib.hid Wg
  replace Wh := Lib.hid Wh
  replace WA := Lib.hid WA
  replace nW := Lib.hid nW
  replace kW := Lib.hid (And.intro kW hBs)
  replace hP := Lib.hid hP
  clear hg hA hh lh lg lA hBs
  go_enter Tryz.func168, Tryz.ntmps168
  go_wp2_with fail
  clear hW hB
  refine wp_region_any (by kernel_rfl) ?_
  rw [List.size_toArray]
  refine wpAnyS_any (S := fun X => X = W.drew) (k := 7) _ _ _ ?_ _ rfl
  refine sTake (i := 0) rfl (by kernel_rfl) (fun _ _ _ h => h) (gLoad (by rfl) (fun W hW => by (try dsimp only at hW); subst hW; go_simp; first | done | rfl)) ?_
  try simp only [Act.put, zA, zB, zC]
  refine sTake (i := 1) rfl (by kernel_rfl) (fun _ _ _ h => h) (gLoad (by rfl) (fun W hW => by (try dsimp only at hW); subst hW; go_simp; first | done | rfl)) ?_
  try simp only [Act.put, zA, zB, zC]
  refine sTake (i := 2) rfl (by kernel_rfl) (fun _ _ _ h => h) (gLoad (by rfl) (fun W hW => by (try dsimp only at hW); subst hW; go_simp; first | done | rfl)) ?_
  try simp only [Act.put, zA, zB, zC]
  refine sTake (i := 3) rfl (by kernel_rfl) (fun _ _ _ h => h) (gLoad (by rfl) (fun W hW => by (try dsimp only at hW); subst hW; go_simp; first | done | rfl)) ?_
  try simp only [Act.put, zA, zB, zC]
  refine sTake (i := 4) rfl (by kernel_rfl) (fun _ _ _ h => h) (gLoad (by rfl) (fun W hW => by (try dsimp only at hW); subst hW; go_simp; first | done | rfl)) ?_
  try simp only [Act.put, zA, zB, zC]
  refine sTake (i := 5) rfl (by kernel_rfl) (fun _ _ _ h => h) (gLoad (by rfl) (fun W hW => by (try dsimp only at hW); subst hW; go_simp; first | done | rfl)) ?_
  try simp only [Act.put, zA, zB, zC]
  refine sTake (i := 6) rfl (by kernel_rfl) (fun _ _ _ h => h) (gLoad (by rfl) (fun W hW => by (try dsimp only at hW); subst hW; go_simp; first | done | rfl)) ?_
  try simp only [Act.put, zA, zB, zC]
  refine sRest (by kernel_rfl) ?_
  rintro X rfl
  refine aSkip (i := 7) (w' := ?_) rfl (by kernel_rfl) (by rfl) ?_ ?_
  rotate_left 1
  · go_simp; all_goals with_reducible rfl
  try simp only [Act.put, zA, zB, zC]
  refine wpAny_done (by kernel_rfl) ?_ _
  have Vh : (((((W.setCell ⟨g, 0, none⟩ (.int .i64 0)).setCell ⟨g, 1, none⟩ (.int .i64 a)).setCell ⟨g, 2, none⟩ (.int .i64 b)).setCell ⟨g, 3, none⟩ (.int .i64 c)).setCell ⟨g, 4, none⟩ (.int .i64 d)).drew.heap[h]? = _ := (((Kept.refl [g] W).setCell ⟨g, 0, none⟩ _ (Or.inl (by simp)) |>.setCell ⟨g, 1, none⟩ _ (Or.inl (by simp)) |>.setCell ⟨g, 2, none⟩ _ (Or.inl (by simp)) |>.setCell ⟨g, 3, none⟩ _ (Or.inl (by simp)) |>.setCell ⟨g, 4, none⟩ _ (Or.inl (by simp))).drew).at Wh.out (by simp [h1])
  have kV : Kept [g] W (((((W.setCell ⟨g, 0, none⟩ (.int .i64 0)).setCell ⟨g, 1, none⟩ (.int .i64 a)).setCell ⟨g, 2, none⟩ (.int .i64 b)).setCell ⟨g, 3, none⟩ (.int .i64 c)).setCell ⟨g, 4, none⟩ (.int .i64 d)).drew := ((Kept.refl [g] W).setCell ⟨g, 0, none⟩ _ (Or.inl (by simp)) |>.setCell ⟨g, 1, none⟩ _ (Or.inl (by simp)) |>.setCell ⟨g, 2, none⟩ _ (Or.inl (by simp)) |>.setCell ⟨g, 3, none⟩ _ (Or.inl (by simp)) |>.setCell ⟨g, 4, none⟩ _ (Or.inl (by simp))).drew
  have Vg : (((((W.setCell ⟨g, 0, none⟩ (.int .i64 0)).setCell ⟨g, 1, none⟩ (.int .i64 a)).setCell ⟨g, 2, none⟩ (.int .i64 b)).setCell ⟨g, 3, none⟩ (.int .i64 c)).setCell ⟨g, 4, none⟩ (.int .i64 d)).drew.heap[g]? = some (.cells (.int .i64 0 :: .int .i64 a :: .int .i64 b :: .int .i64 c :: .int .i64 d :: rest).toArray 277 (0, 0)) := by
    rw [heap_drew, heap_setCell (heap_setCell (heap_setCell (heap_setCell (heap_setCell Wg.out))))]
    simp
  have VA := kV.at WA.out (by simp [Ne.symm h3])
  have VB := kV.at nW.out (by simp [hBg])
  generalize (((((W.setCell ⟨g, 0, none⟩ (.int .i64 0)).setCell ⟨g, 1, none⟩ (.int .i64 a)).setCell ⟨g, 2, none⟩ (.int .i64 b)).setCell ⟨g, 3, none⟩ (.int .i64 c)).setCell ⟨g, 4, none⟩ (.int .i64 d)).drew = V at *
  have v0 : V.cell? ⟨h, 2, none⟩ = some (.map (some A)) := cell_of Vh 2
  have v1 : V.cell? ⟨B, 0, none⟩ = some (.int .i64 0) := cell_of VB 0
  have l3 := heap_lt Vh
  have l4 := heap_lt VB
  have hX := hP.out V VA
  have hX2 : (Instr.mapUpdate 90 (.map (some A)) (.int .i64 0) (.int .i64 0)).run Tryz.prog V.drew = .ok () (Go.ChangeMaps.setBlock V.drew A o') := hP.out V.drew VA
  have kX := kV.drew
  have gX : V.drew.heap[g]? = _ := Vg
  have AX : V.drew.heap[A]? = _ := VA
  have k2 : Kept [g, A] W (Go.ChangeMaps.setBlock V.drew A o') := (kX.mono (by simp)).setBlock A o' (Or.inl (by simp))
  have g2' : (Go.ChangeMaps.setBlock V.drew A o').heap[g]? = _ := (heap_setBlock_ne (Ne.symm h3)).trans gX
  have a2' : (Go.ChangeMaps.setBlock V.drew A o').heap[A]? = some o' := heap_setBlock (heap_lt AX)
  replace kW := Lib.hid (And.intro kW.out (And.intro k2 (And.intro g2' a2')))
  clear k2 g2' a2' gX AX kX Vg VA Vh VB kV hX
  generalize Go.ChangeMaps.setBlock V.drew A o' = V2 at *
  go_wp2_with fail
  refine wp_region_any (by kernel_rfl) ?_
  rw [List.size_toArray]
  refine wpAnyS_any (S := fun X => X = V.drew) (k := 7) _ _ _ ?_ _ rfl
  refine sTake (i := 0) rfl (by kernel_rfl) (fun _ _ _ h => h) (gLoad (by rfl) (fun W hW => by (try dsimp only at hW); subst hW; go_simp; first | done | rfl)) ?_
  try simp only [Act.put, zA, zB, zC]
  refine sTake (i := 1) rfl (by kernel_rfl) (fun _ _ _ h => h) (gLoad (by rfl) (fun W hW => by (try dsimp only at hW); subst hW; go_simp; first | done | rfl)) ?_
  try simp only [Act.put, zA, zB, zC]
  refine sTake (i := 2) rfl (by kernel_rfl) (fun _ _ _ h => h) (gLoad (by rfl) (fun W hW => by (try dsimp only at hW); subst hW; go_simp; first | done | rfl)) ?_
  try simp only [Act.put, zA, zB, zC]
  refine sTake (i := 3) rfl (by kernel_rfl) (fun _ _ _ h => h) (gLoad (by rfl) (fun W hW => by (try dsimp only at hW); subst hW; go_simp; first | done | rfl)) ?_
  try simp only [Act.put, zA, zB, zC]
  refine sTake (i := 4) rfl (by kernel_rfl) (fun _ _ _ h => h) (gLoad (by rfl) (fun W hW => by (try dsimp only at hW); subst hW; go_simp; first | done | rfl)) ?_
  try simp only [Act.put, zA, zB, zC]
  refine sTake (i := 5) rfl (by kernel_rfl) (fun _ _ _ h => h) (gLoad (by rfl) (fun W hW => by (try dsimp only at hW); subst hW; go_simp; first | done | rfl)) ?_
  try simp only [Act.put, zA, zB, zC]
  refine sTake (i := 6) rfl (by kernel_rfl) (fun _ _ _ h => h) (gLoad (by rfl) (fun W hW => by (try dsimp only at hW); subst hW; go_simp; first | done | rfl)) ?_
  try simp only [Act.put, zA, zB, zC]
  refine sRest (by kernel_rfl) ?_
  rintro X rfl
  refine aSkip (i := 7) (w' := ?_) rfl (by kernel_rfl) (by rfl) ?_ ?_
  rotate_left 1
  · go_simp; all_goals with_reducible rfl
  try simp only [Act.put, zA, zB, zC]
  refine wpAny_done (by kernel_rfl) ?_ _
  go_wp2_with fail
  go_returns
  obtain ⟨⟨k1, k0⟩, k2, k3, k4⟩ := kW.out
  exact ⟨rfl, Kept.trans k1 k2 (by simp) (fun x hx => Or.inl hx), k3, k4⟩
end
end Go.Proofs.YtgfbfklnhmndfaaGreat
