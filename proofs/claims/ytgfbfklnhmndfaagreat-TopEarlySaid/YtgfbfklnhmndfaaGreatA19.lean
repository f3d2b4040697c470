/- The parts of the top that the law of early release walks through: part 19 of 52. -/
import Derived.Test.YtgfbfklnhmndfaaGreatA1
import Derived.Test.YtgfbfklnhmndfaaGreatA3
import Derived.Test.YtgfbfklnhmndfaaGreatA9
import Derived.Test.YtgfbfklnhmndfaaGreatA12
import Derived.Test.YtgfbfklnhmndfaaGreatA18
namespace Go.Proofs.YtgfbfklnhmndfaaGreat
open Go.RowKit
set_option linter.unusedSimpArgs false
set_option linter.unusedVariables false
section
attribute [local go_sem ↓] setCell_drewN alloc_drewN grow_cell grow_frozen setCell_grow grow_size cell_alloc_grow frozen_alloc_grow setCell_alloc_grow cell_grow_alloc_grow frozen_grow_alloc_grow setCell_grow_alloc_grow grow_grow
attribute [local go_sem] lt_len size_setCell
theorem del_one {t k e ty : TypeId} (ht : Tryz.prog.underlying t = some (.map k e)) (hk : Tryz.prog.underlying k = some (.int .i64)) {w : World} {M c b : Nat} {x : Int} {u : Value} (hM : w.heap[M]? = some (.map #[{ key := .int .i64 x, val := u, born := b }] c)) :
    (Builtin.delete_ #[t, k] ty #[.map (some M), .int .i64 x]).run Tryz.prog w = .ok (.tuple #[]) (Go.ChangeMaps.setBlock w M (.map #[] c)) := by
  simp [Builtin.delete_, run_underlying ht, run_underlying hk, MapKept.run_getObj_map hM, chk hk, Instr.findKey, Instr.findNow, Instr.sameNow, setM hM]
set_option maxHeartbeats 1000000 in
theorem Top171 (h g A cap : Nat) (a b c d : Int) (rest : List Value) (w : World) (hnc : 1 ≤ cap) (hh : w.heap[h]? = some (.cells #[.int .i64 1, .slice (some ⟨g, 0, none⟩) 1 cap, .map (some A)] 274 (0, 0))) (hg : w.heap[g]? = some (.cells (.int .i64 0 :: .int .i64 a :: .int .i64 b :: .int .i64 c :: .int .i64 d :: rest).toArray 277 (0, 0))) (h1 : h ≠ g) :
    Calls Tryz.prog 171 #[.pointer (some ⟨h, 0, none⟩)] w fun e w' => e = .returned (.tuple #[.int .i64 0, .agg #[.int .i64 a, .int .i64 b, .int .i64 c, .int .i64 d], .bool true]) ∧ Kept [] w w' := by
  obtain ⟨W, hW⟩ : ∃ W, w.alloc (.cells #[.int .i64 0, .int .i64 0, .int .i64 0, .int .i64 0] 233) = W := ⟨_, rfl⟩
  have kW : Kept [] w W := by rw [← hW]; exact (Kept.refl _ _).alloc _
  have nW : W.heap[w.heap.size]? = some (.cells #[.int .i64 0, .int .i64 0, .int .i64 0, .int .i64 0] 233 (0, 0)) := by rw [← hW]; exact heap_alloc_new
  have lg := heap_lt hg
  have lh := heap_lt hh
  obtain ⟨B, hB⟩ : ∃ B, w.heap.size = B := ⟨_, rfl⟩
  have hBg : B ≠ g := by omega
  have hBh : B ≠ h := by omega
  have hBs : w.heap.size ≤ B := by omega
  rw [hB] at nW
  have Wh := kW.at hh (by simp)
  have Wg := kW.at hg (by simp)
  have c1 : W.cell? ⟨h, 1, none⟩ = some (.slice (some ⟨g, 0, none⟩) 1 cap) := cell_of Wh 1
  have g0 : W.cell? ⟨g, 0, none⟩ = some (.int .i64 0) := cell_of Wg 0
  have g1 : W.cell? ⟨g, 1, none⟩ = some (.int .i64 a) := cell_of Wg 1
  have g2 : W.cell? ⟨g, 2, none⟩ = some (.int .i64 b) := cell_of Wg 2
  have g3 : W.cell? ⟨g, 3, none⟩ = some (.int .i64 c) := cell_of Wg 3
  have g4 : W.cell? ⟨g, 4, none⟩ = some (.int .i64 d) := cell_of Wg 4
  have b0 : W.cell? ⟨B, 0, none⟩ = some (.int .i64 0) := cell_of nW 0
  have f0 : W.frozen? ⟨B, 0, none⟩ = false := frozen_of nW 0
  have b1 : W.cell? ⟨B, 1, none⟩ = some (.int .i64 0) := cell_of nW 1
  have f1 : W.frozen? ⟨B, 1, none⟩ = false := frozen_of nW 1
  have b2 : W.cell? ⟨B, 2, none⟩ = some (.int .i64 0) := cell_of nW 2
  have f2 : W.frozen? ⟨B, 2, none⟩ = false := frozen_of nW 2
  have b3 : W.cell? ⟨B, 3, none⟩ = some (.int .i64 0) := cell_of nW 3
  have f3 : W.frozen? ⟨B, 3, none⟩ = false := frozen_of nW 3
  have l1 := heap_lt Wh
  have l2 := heap_lt Wg
  have l3 := heap_lt nW
  replace kW := Lib.hid (And.intro kW (And.intro hBs nW))
  clear Wh Wg nW hh hg lg lh hBs
  go_enter Tryz.func171, Tryz.ntmps171
  go_wp2_with fail
  clear hW hB
  go_region_held3 (fun w' => w'.cell? ⟨h, 1, none⟩ = some (.slice (some ⟨g, 0, none⟩) 1 cap) ∧ w'.cell? ⟨g, 0, none⟩ = some (.int .i64 0) ∧ w'.cell? ⟨g, 1, none⟩ = some (.int .i64 a) ∧ w'.cell? ⟨g, 2, none⟩ = some (.int .i64 b) ∧ w'.cell? ⟨g, 3, none⟩ = some (.int .i64 c) ∧ w'.cell? ⟨g, 4, none⟩ = some (.int .i64 d)) (go_keep) (fail)
  have vK : Kept [] w ((((W.setCell ⟨B, 0, none⟩ (.int .i64 a)).setCell ⟨B, 1, none⟩ (.int .i64 b)).setCell ⟨B, 2, none⟩ (.int .i64 c)).setCell ⟨B, 3, none⟩ (.int .i64 d)).drew := (((((Kept.refl [B] W).setCell ⟨B, 0, none⟩ _ (Or.inl (by simp))).setCell ⟨B, 1, none⟩ _ (Or.inl (by simp))).setCell ⟨B, 2, none⟩ _ (Or.inl (by simp))).setCell ⟨B, 3, none⟩ _ (Or.inl (by simp))).drew |> fun k => Kept.trans kW.out.1 k (by simp) (fun x hx => Or.inr (by simp at hx; rw [hx]; exact kW.out.2.1))
  have vB : ((((W.setCell ⟨B, 0, none⟩ (.int .i64 a)).setCell ⟨B, 1, none⟩ (.int .i64 b)).setCell ⟨B, 2, none⟩ (.int .i64 c)).setCell ⟨B, 3, none⟩ (.int .i64 d)).drew.heap[B]? = some (.cells #[.int .i64 a, .int .i64 b, .int .i64 c, .int .i64 d] 233 (0, 0)) := by
    rw [heap_drew, heap_setCell (heap_setCell (heap_setCell (heap_setCell kW.out.2.2)))]
    simp
  generalize ((((W.setCell ⟨B, 0, none⟩ (.int .i64 a)).setCell ⟨B, 1, none⟩ (.int .i64 b)).setCell ⟨B, 2, none⟩ (.int .i64 c)).setCell ⟨B, 3, none⟩ (.int .i64 d)).drew = V at *
  have v0 : V.cell? ⟨B, 0, none⟩ = some (.int .i64 a) := cell_of vB 0
  have v1 : V.cell? ⟨B, 1, none⟩ = some (.int .i64 b) := cell_of vB 1
  have v2 : V.cell? ⟨B, 2, none⟩ = some (.int .i64 c) := cell_of vB 2
  have v3 : V.cell? ⟨B, 3, none⟩ = some (.int .i64 d) := cell_of vB 3
  replace vK := Lib.hid vK
  clear vB kW hBg hBh
  go_wp2_with fail
  (try simp only [Exit.inBlock, Exit.then])
  refine bodyPost_ret (by simp [results, Tryz.results171, go_sem, v0, v1, v2, v3]; try rfl) rfl ?_
  exact ⟨rfl, vK.out⟩
set_option maxHeartbeats 1000000 in
theorem Top171_none (h A : Nat) (G : Option Addr) (cap : Nat) (w : World) (hh : w.heap[h]? = some (.cells #[.int .i64 1, .slice G 0 cap, .map (some A)] 274 (0, 0))) :
    Calls Tryz.prog 171 #[.pointer (some ⟨h, 0, none⟩)] w fun e w' => e = .returned (.tuple #[.int .i64 0, .agg #[.int .i64 0, .int .i64 0, .int .i64 0, .int .i64 0], .bool false]) ∧ Kept [] w w' := by
  have c1 : w.cell? ⟨h, 1, none⟩ = some (.slice G 0 cap) := cell_of hh 1
  have lh := heap_lt hh
  clear hh
  go_enter Tryz.func171, Tryz.ntmps171
  go_wp2_with fail
  go_returns
  exact ⟨rfl, (Kept.refl _ _).alloc _⟩
set_option maxHeartbeats 1000000 in
theorem Drop172 (h g A cap b0 c0 : Nat) (a b c d : Int) (rest : List Value) (w : World) (hnc : 1 ≤ cap) (hh : w.heap[h]? = some (.cells #[.int .i64 1, .slice (some ⟨g, 0, none⟩) 1 cap, .map (some A)] 274 (0, 0))) (hg : w.heap[g]? = some (.cells (.int .i64 0 :: .int .i64 a :: .int .i64 b :: .int .i64 c :: .int .i64 d :: rest).toArray 277 (0, 0))) (hA : w.heap[A]? = some (.map #[{ key := .int .i64 0, val := .int .i64 0, born := b0 }] c0))
    (h1 : h ≠ g) (h2 : h ≠ A) (h3 : g ≠ A) :
    Calls Tryz.prog 172 #[.pointer (some ⟨h, 0, none⟩), .int .i64 0] w fun e w' => e = .returned (.bool true) ∧ Kept [h, g, A] w w' ∧ w'.heap[h]? = some (.cells #[.int .i64 1, .slice (some ⟨g, 0, none⟩) 0 cap, .map (some A)] 274 (0, 0)) ∧ w'.heap[A]? = some (.map #[] c0) := by
  have S := swap212 h g A cap b0 c0 a b c d rest w hnc hh hg hA h1 h2 h3
  have hL := look_one Tryz.underlying90 Tryz.underlying3 hA true
  simp only [if_true] at hL
  have c1 : w.cell? ⟨h, 1, none⟩ = some (.slice (some ⟨g, 0, none⟩) 1 cap) := cell_of hh 1
  have c2 : w.cell? ⟨h, 2, none⟩ = some (.map (some A)) := cell_of hh 2
  have lh := heap_lt hh
  replace hh := Lib.hid hh
  clear hg hA
  go_enter Tryz.func172, Tryz.ntmps172
  go_wp2_with fail
  refine S.mono ?_
  rintro e w1 ⟨rfl, hk1, hg1, hA1⟩
  have hh1 := hk1.at hh.out (by simp [h1, h2])
  have d1 : w1.cell? ⟨h, 1, none⟩ = some (.slice (some ⟨g, 0, none⟩) 1 cap) := cell_of hh1 1
  have f1 : w1.frozen? ⟨h, 1, none⟩ = false := frozen_of hh1 1
  have d2 : w1.cell? ⟨h, 2, none⟩ = some (.map (some A)) := cell_of hh1 2
  have lh1 := heap_lt hh1
  have hA2 : (w1.setCell ⟨h, 1, none⟩ (.slice (some ⟨g, 0, none⟩) 0 cap)).heap[A]? = _ := (heap_setCell_ne h2).trans hA1
  have hh2 : (w1.setCell ⟨h, 1, none⟩ (.slice (some ⟨g, 0, none⟩) 0 cap)).heap[h]? = some (.cells #[.int .i64 1, .slice (some ⟨g, 0, none⟩) 0 cap, .map (some A)] 274 (0, 0)) := by
    rw [heap_setCell hh1]
    simp
  have hk2 : Kept [h, g, A] w (w1.setCell ⟨h, 1, none⟩ (.slice (some ⟨g, 0, none⟩) 0 cap)) := (hk1.mono (fun x hx => Or.inl (by simp at hx ⊢; omega))).setCell _ _ (Or.inl (by simp))
  have hD := del_one (ty := 0) Tryz.underlying90 Tryz.underlying3 hA2
  have hA3 := heap_setBlock (o := .map #[] c0) (heap_lt hA2)
  have hh3 : (Go.ChangeMaps.setBlock (w1.setCell ⟨h, 1, none⟩ (.slice (some ⟨g, 0, none⟩) 0 cap)) A (.map #[] c0)).heap[h]? = _ := (heap_setBlock_ne (Ne.symm h2)).trans hh2
  have hk3 := hk2.setBlock A (.map #[] c0) (Or.inl (by simp))
  replace hk3 := Lib.hid (And.intro hk3 (And.intro hh3 hA3))
  replace hD := fun ty => del_one (ty := ty) Tryz.underlying90 Tryz.underlying3 hA2
  clear hA3 hh3 hA2 hh2 hk2 hh1 hk1 hg1 hA1 S
  generalize Go.ChangeMaps.setBlock (w1.setCell ⟨h, 1, none⟩ (.slice (some ⟨g, 0, none⟩) 0 cap)) A (.map #[] c0) = V at *
  go_wp2_with fail
  go_returns
  exact ⟨rfl, hk3.out.1, hk3.out.2.1, hk3.out.2.2⟩
set_option maxHeartbeats 1000000 in
theorem Pop128 (h g A cap b0 c0 : Nat) (a b c d : Int) (rest : List Value) (w : World) (hnc : 1 ≤ cap) (hh : w.heap[h]? = some (.cells #[.int .i64 1, .slice (some ⟨g, 0, none⟩) 1 cap, .map (some A)] 274 (0, 0))) (hg : w.heap[g]? = some (.cells (.int .i64 0 :: .int .i64 a :: .int .i64 b :: .int .i64 c :: .int .i64 d :: rest).toArray 277 (0, 0))) (hA : w.heap[A]? = some (.map #[{ key := .int .i64 0, val := .int .i64 0, born := b0 }] c0))
    (h1 : h ≠ g) (h2 : h ≠ A) (h3 : g ≠ A) :
    Calls Tryz.prog 128 #[.pointer (some ⟨h, 0, none⟩)] w fun e w' => e = .returned (.tuple #[.int .i64 0, .agg #[.int .i64 a, .int .i64 b, .int .i64 c, .int .i64 d], .bool true]) ∧ Kept [h, g, A] w w' := by
  have z3 : Kept [] w (w.alloc (.cells #[.int .i64 0, .int .i64 0, .int .i64 0, .int .i64 0] 233)) := (Kept.refl _ _).alloc _
  have T := Top171 h g A cap a b c d rest _ hnc (z3.at hh (by simp)) (z3.at hg (by simp)) h1
  have n3 : (w.alloc (.cells #[.int .i64 0, .int .i64 0, .int .i64 0, .int .i64 0] 233)).heap[w.heap.size]? = _ := heap_alloc_new
  have lh := heap_lt hh
  have lg := heap_lt hg
  have lA := heap_lt hA
  go_enter Tryz.func128, Tryz.ntmps128
  go_wp2_with fail
  refine T.mono ?_
  rintro e w1 ⟨rfl, hk⟩
  have k1 := Kept.trans z3 hk (U := []) (by simp) (by simp)
  have m3 := hk.at n3 (by simp)
  have hh1 := k1.at hh (by simp)
  have hg1 := k1.at hg (by simp)
  have hA1 := k1.at hA (by simp)
  have z4 : Kept [] w1 (w1.alloc (.cells #[.int .i64 a, .int .i64 b, .int .i64 c, .int .i64 d] 233)) := (Kept.refl _ _).alloc _
  have n4 : (w1.alloc (.cells #[.int .i64 a, .int .i64 b, .int .i64 c, .int .i64 d] 233)).heap[w1.heap.size]? = _ := heap_alloc_new
  have D := Drop172 h g A cap b0 c0 a b c d rest _ hnc (z4.at hh1 (by simp)) (z4.at hg1 (by simp)) (z4.at hA1 (by simp)) h1 h2 h3
  have k2 := k1.alloc (.cells #[.int .i64 a, .int .i64 b, .int .i64 c, .int .i64 d] 233)
  have m4 := z4.at m3 (by simp)
  have s0 := k1.size
  have s1 := heap_lt m3
  obtain ⟨B, hB⟩ : ∃ B, w.heap.size = B := ⟨_, rfl⟩
  obtain ⟨B2, hB2⟩ : ∃ B2, w1.heap.size = B2 := ⟨_, rfl⟩
  have hx := Lib.hid (And.intro k2 (And.intro m4 (And.intro n4 (show B < B2 ∧ h < B ∧ g < B ∧ A < B by omega))))
  replace hh := Lib.hid hh
  clear T n3 z3 hg hA hk k1 m3 hh1 hg1 hA1 z4 n4 k2 m4 s0 s1 lh lg lA
  go_wp2_with fail
  refine D.mono ?_
  rintro e w2 ⟨rfl, hk2, hh2, hA2⟩
  obtain ⟨k2, m4, n4, lt1, lt2, lt3, lt4⟩ := hx.out
  rw [hB] at m4
  rw [hB2] at n4
  have mB := hk2.at m4 (by simp; omega)
  have mB2 := hk2.at n4 (by simp; omega)
  have k3 : Kept [h, g, A] w w2 := Kept.trans k2 hk2 (by simp) (fun x hx => Or.inl hx)
  have x0 : w2.cell? ⟨B, 0, none⟩ = some (.int .i64 0) := cell_of mB 0
  have f0 : w2.frozen? ⟨B, 0, none⟩ = false := frozen_of mB 0
  have y0 : w2.cell? ⟨B2, 0, none⟩ = some (.int .i64 a) := cell_of mB2 0
  have x1 : w2.cell? ⟨B, 1, none⟩ = some (.int .i64 0) := cell_of mB 1
  have f1 : w2.frozen? ⟨B, 1, none⟩ = false := frozen_of mB 1
  have y1 : w2.cell? ⟨B2, 1, none⟩ = some (.int .i64 b) := cell_of mB2 1
  have x2 : w2.cell? ⟨B, 2, none⟩ = some (.int .i64 0) := cell_of mB 2
  have f2 : w2.frozen? ⟨B, 2, none⟩ = false := frozen_of mB 2
  have y2 : w2.cell? ⟨B2, 2, none⟩ = some (.int .i64 c) := cell_of mB2 2
  have x3 : w2.cell? ⟨B, 3, none⟩ = some (.int .i64 0) := cell_of mB 3
  have f3 : w2.frozen? ⟨B, 3, none⟩ = false := frozen_of mB 3
  have y3 : w2.cell? ⟨B2, 3, none⟩ = some (.int .i64 d) := cell_of mB2 3
  have e1 : B ≠ B2 := by omega
  have e2 : B2 ≠ B := by omega
  have lB := heap_lt mB
  have lB2 := heap_lt mB2
  have vK : Kept [h, g, A] w ((((w2.setCell ⟨B, 0, none⟩ (.int .i64 a)).setCell ⟨B, 1, none⟩ (.int .i64 b)).setCell ⟨B, 2, none⟩ (.int .i64 c)).setCell ⟨B, 3, none⟩ (.int .i64 d)).drew := (((((Kept.refl [B] w2).setCell ⟨B, 0, none⟩ _ (Or.inl (by simp))).setCell ⟨B, 1, none⟩ _ (Or.inl (by simp))).setCell ⟨B, 2, none⟩ _ (Or.inl (by simp))).setCell ⟨B, 3, none⟩ _ (Or.inl (by simp))).drew |> fun k => Kept.trans k3 k (fun x hx => hx) (fun x hx => Or.inr (by simp at hx; omega))
  have vB : ((((w2.setCell ⟨B, 0, none⟩ (.int .i64 a)).setCell ⟨B, 1, none⟩ (.int .i64 b)).setCell ⟨B, 2, none⟩ (.int .i64 c)).setCell ⟨B, 3, none⟩ (.int .i64 d)).drew.heap[B]? = some (.cells #[.int .i64 a, .int .i64 b, .int .i64 c, .int .i64 d] 233 (0, 0)) := by
    rw [heap_drew, heap_setCell (heap_setCell (heap_setCell (heap_setCell mB)))]
    simp
  replace vB := Lib.hid (And.intro vK vB)
  clear vK mB mB2 k2 m4 n4 lt1 lt2 lt3 lt4 hx hh2 hA2 hk2 k3 D
  go_wp2_with fail
  clear hB hB2
  go_region_held3 (fun w' => w'.cell? ⟨B2, 0, none⟩ = some (.int .i64 a) ∧ w'.cell? ⟨B2, 1, none⟩ = some (.int .i64 b) ∧ w'.cell? ⟨B2, 2, none⟩ = some (.int .i64 c) ∧ w'.cell? ⟨B2, 3, none⟩ = some (.int .i64 d)) (go_keep) (fail)
  generalize ((((w2.setCell ⟨B, 0, none⟩ (.int .i64 a)).setCell ⟨B, 1, none⟩ (.int .i64 b)).setCell ⟨B, 2, none⟩ (.int .i64 c)).setCell ⟨B, 3, none⟩ (.int .i64 d)).drew = V at *
  have v0 : V.cell? ⟨B, 0, none⟩ = some (.int .i64 a) := cell_of vB.out.2 0
  have v1 : V.cell? ⟨B, 1, none⟩ = some (.int .i64 b) := cell_of vB.out.2 1
  have v2 : V.cell? ⟨B, 2, none⟩ = some (.int .i64 c) := cell_of vB.out.2 2
  have v3 : V.cell? ⟨B, 3, none⟩ = some (.int .i64 d) := cell_of vB.out.2 3
  go_wp2_with fail
  (try simp only [Exit.inBlock, Exit.then])
  refine bodyPost_ret (by simp [results, Tryz.results128, go_sem, v0, v1, v2, v3]; try rfl) rfl ?_
  exact ⟨rfl, vB.out.1⟩
set_option maxHeartbeats 1000000 in
theorem Pop128_none (h A : Nat) (G : Option Addr) (cap : Nat) (w : World) (hh : w.heap[h]? = some (.cells #[.int .i64 1, .slice G 0 cap, .map (some A)] 274 (0, 0))) :
    Calls Tryz.prog 128 #[.pointer (some ⟨h, 0, none⟩)] w fun e w' => e = .returned (.tuple #[.int .i64 0, .agg #[.int .i64 0, .int .i64 0, .int .i64 0, .int .i64 0], .bool false]) ∧ Kept [] w w' := by
  have z3 : Kept [] w (w.alloc (.cells #[.int .i64 0, .int .i64 0, .int .i64 0, .int .i64 0] 233)) := (Kept.refl _ _).alloc _
  have T := Top171_none h A G cap _ (z3.at hh (by simp))
  have n3 : (w.alloc (.cells #[.int .i64 0, .int .i64 0, .int .i64 0, .int .i64 0] 233)).heap[w.heap.size]? = _ := heap_alloc_new
  go_enter Tryz.func128, Tryz.ntmps128
  go_wp2_with fail
  refine T.mono ?_
  rintro e w1 ⟨rfl, hk⟩
  have k1 := Kept.trans z3 hk (U := []) (by simp) (by simp)
  have m3 := hk.at n3 (by simp)
  obtain ⟨B, hB⟩ : ∃ B, w.heap.size = B := ⟨_, rfl⟩
  obtain ⟨B2, hB2⟩ : ∃ B2, w1.heap.size = B2 := ⟨_, rfl⟩
  have lt1 := heap_lt m3
  have hWW := Lib.hid (And.intro m3 (And.intro k1 lt1))
  clear k1 m3 lt1 hk T z3 hh n3
  go_wp2_with fail
  obtain ⟨m3, k1, lt1⟩ := hWW.out
  obtain ⟨W, hW⟩ : ∃ W, w1.alloc (.cells #[.int .i64 0, .int .i64 0, .int .i64 0, .int .i64 0] 233) = W := ⟨_, rfl⟩
  rw [hW]
  have mB2 : W.heap[B2]? = some (.cells #[.int .i64 0, .int .i64 0, .int .i64 0, .int .i64 0] 233 (0, 0)) := by rw [← hW, ← hB2]; exact heap_alloc_new
  have mB : W.heap[B]? = some (.cells #[.int .i64 0, .int .i64 0, .int .i64 0, .int .i64 0] 233 (0, 0)) := by rw [← hW, ← hB, heap_alloc lt1]; exact m3
  have k2 : Kept [] w W := by rw [← hW]; exact k1.alloc _
  have e1 : B ≠ B2 := by omega
  have e2 : B2 ≠ B := by omega
  have lB := heap_lt mB
  have lB2 := heap_lt mB2
  have x0 : W.cell? ⟨B, 0, none⟩ = some (.int .i64 0) := cell_of mB 0
  have f0 : W.frozen? ⟨B, 0, none⟩ = false := frozen_of mB 0
  have y0 : W.cell? ⟨B2, 0, none⟩ = some (.int .i64 0) := cell_of mB2 0
  have x1 : W.cell? ⟨B, 1, none⟩ = some (.int .i64 0) := cell_of mB 1
  have f1 : W.frozen? ⟨B, 1, none⟩ = false := frozen_of mB 1
  have y1 : W.cell? ⟨B2, 1, none⟩ = some (.int .i64 0) := cell_of mB2 1
  have x2 : W.cell? ⟨B, 2, none⟩ = some (.int .i64 0) := cell_of mB 2
  have f2 : W.frozen? ⟨B, 2, none⟩ = false := frozen_of mB 2
  have y2 : W.cell? ⟨B2, 2, none⟩ = some (.int .i64 0) := cell_of mB2 2
  have x3 : W.cell? ⟨B, 3, none⟩ = some (.int .i64 0) := cell_of mB 3
  have f3 : W.frozen? ⟨B, 3, none⟩ = false := frozen_of mB 3
  have y3 : W.cell? ⟨B2, 3, none⟩ = some (.int .i64 0) := cell_of mB2 3
  have hbs : w.heap.size ≤ B := by omega
  have vK : Kept [] w ((((W.setCell ⟨B, 0, none⟩ (.int .i64 0)).setCell ⟨B, 1, none⟩ (.int .i64 0)).setCell ⟨B, 2, none⟩ (.int .i64 0)).setCell ⟨B, 3, none⟩ (.int .i64 0)).drew := (((((Kept.refl [B] W).setCell ⟨B, 0, none⟩ _ (Or.inl (by simp))).setCell ⟨B, 1, none⟩ _ (Or.inl (by simp))).setCell ⟨B, 2, none⟩ _ (Or.inl (by simp))).setCell ⟨B, 3, none⟩ _ (Or.inl (by simp))).drew |> fun k => Kept.trans k2 k (fun x hx => hx) (fun x hx => Or.inr (by simp at hx; omega))
  have vB : ((((W.setCell ⟨B, 0, none⟩ (.int .i64 0)).setCell ⟨B, 1, none⟩ (.int .i64 0)).setCell ⟨B, 2, none⟩ (.int .i64 0)).setCell ⟨B, 3, none⟩ (.int .i64 0)).drew.heap[B]? = some (.cells #[.int .i64 0, .int .i64 0, .int .i64 0, .int .i64 0] 233 (0, 0)) := by
    rw [heap_drew, heap_setCell (heap_setCell (heap_setCell (heap_setCell mB)))]
    simp
  replace vB := Lib.hid (And.intro vK vB)
  clear vK mB mB2 k2 k1 m3 lt1 hbs
  clear hB hB2 hW
  go_region_held3 (fun w' => w'.cell? ⟨B2, 0, none⟩ = some (.int .i64 0) ∧ w'.cell? ⟨B2, 1, none⟩ = some (.int .i64 0) ∧ w'.cell? ⟨B2, 2, none⟩ = some (.int .i64 0) ∧ w'.cell? ⟨B2, 3, none⟩ = some (.int .i64 0)) (go_keep) (fail)
  generalize ((((W.setCell ⟨B, 0, none⟩ (.int .i64 0)).setCell ⟨B, 1, none⟩ (.int .i64 0)).setCell ⟨B, 2, none⟩ (.int .i64 0)).setCell ⟨B, 3, none⟩ (.int .i64 0)).drew = V at *
  have v0 : V.cell? ⟨B, 0, none⟩ = some (.int .i64 0) := cell_of vB.out.2 0
  have v1 : V.cell? ⟨B, 1, none⟩ = some (.int .i64 0) := cell_of vB.out.2 1
  have v2 : V.cell? ⟨B, 2, none⟩ = some (.int .i64 0) := cell_of vB.out.2 2
  have v3 : V.cell? ⟨B, 3, none⟩ = some (.int .i64 0) := cell_of vB.out.2 3
  go_wp2_with fail
  (try simp only [Exit.inBlock, Exit.then])
  refine bodyPost_ret (by simp [results, Tryz.results128, go_sem, v0, v1, v2, v3]; try rfl) rfl ?_
  exact ⟨rfl, vB.out.1⟩
end
end Go.Proofs.YtgfbfklnhmndfaaGreat
