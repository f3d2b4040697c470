/- The parts of the top that the law of early release walks through: part 22 of 52. -/
import Derived.Test.YtgfbfklnhmndfaaGreatA1
import Derived.Test.YtgfbfklnhmndfaaGreatA3
import Derived.Test.YtgfbfklnhmndfaaGreatA4
import Derived.Test.YtgfbfklnhmndfaaGreatA9
import Derived.Test.YtgfbfklnhmndfaaGreatA10
import Derived.Test.YtgfbfklnhmndfaaGreatA12
import Derived.Test.YtgfbfklnhmndfaaGreatA13
import Derived.Test.YtgfbfklnhmndfaaGreatA14
import Derived.Test.YtgfbfklnhmndfaaGreatA15
import Derived.Test.YtgfbfklnhmndfaaGreatA16
import Derived.Test.YtgfbfklnhmndfaaGreatA18
import Derived.Test.YtgfbfklnhmndfaaGreatA20
import Derived.Test.YtgfbfklnhmndfaaGreatA21
namespace Go.Proofs.YtgfbfklnhmndfaaGreat
open Go.RowKit
set_option linter.unusedSimpArgs false
set_option linter.unusedVariables false
section
open Go.RowKit Go.Maps
attribute [local go_sem ↓] setCell_drewN alloc_drewN grow_cell grow_frozen setCell_grow grow_size cell_alloc_grow frozen_alloc_grow setCell_alloc_grow cell_grow_alloc_grow frozen_grow_alloc_grow setCell_grow_alloc_grow grow_grow
attribute [local go_sem] lt_len size_setCell
set_option maxHeartbeats 8000000 in
theorem Sit87_one (s N L g cap : Nat) (id : Int) (w : World) (hs : w.heap[s]? = some (.cells #[.int .i64 1, .map (some N), .map (some L)] 136 (0, 0))) (hN : Half w N id) (hL : Half w L id) (hg : w.cell? ⟨g, 0, none⟩ = some (.int .i64 id)) (hgl : g < w.heap.size) (hgs : g ≠ s) :
    Calls Tryz.prog 87 #[.pointer (some ⟨s, 0, none⟩), .slice (some ⟨g, 0, none⟩) 1 cap] w fun e w' => ∃ G c', e = .returned (.tuple #[.slice (some ⟨G, 0, none⟩) 1 c', .int .i64 0]) ∧ w'.cell? ⟨G, 0, none⟩ = some (.int .i64 0) ∧ w.heap.size ≤ G ∧ G < w'.heap.size ∧ Kept [s, L] w w' ∧
      ∃ N', w.heap.size ≤ N' ∧ w'.heap[s]? = some (.cells #[.int .i64 1, .map (some N'), .map (some L)] 136 (0, 0)) ∧ Half w' N' id ∧ Half w' L id := by
  have V := Values129 (some ⟨g, 0, none⟩) 1 cap w
  have k1 : Kept [] w (w.alloc (.cells #[.slice (some ⟨g, 0, none⟩) 1 cap] 83)) := (Kept.refl _ _).alloc _
  have S := Sorted64 173 _ (enters_of Tryz.func173 (by kernel_rfl) rfl) id _ (values_gives w.heap.size g cap id (w.alloc (.cells #[.slice (some ⟨g, 0, none⟩) 1 cap] 83)) heap_alloc_new ((World.cell?_of_block (a := ⟨g, 0, none⟩) (heap_alloc hgl)).trans hg) (by simp; omega))
  have hM := fun w => run_makeMap (P := Tryz.prog) 90 w
  have hB := fun w => mkBools1 w
  have hsL : s ≠ L := by
    rintro rfl
    obtain ⟨es, c, h1, _⟩ := hL
    rw [hs] at h1
    cases h1
  have hgL : g ≠ L := by
    rintro rfl
    obtain ⟨es, c, h1, _⟩ := hL
    unfold World.cell? at hg
    rw [h1] at hg
    cases hg
  have hs0 := Lib.hid (And.intro hs (And.intro hN (And.intro hL (And.intro hg (And.intro hgl (And.intro hgs (And.intro hsL hgL)))))))
  clear hs hN hL hg hgl hgs hsL hgL
  go_enter Tryz.func87, Tryz.ntmps87
  go_wp2_with fail
  refine V.mono ?_
  rintro e w1 ⟨rfl, rfl⟩
  go_wp2_with fail
  refine S.mono ?_
  rintro e w1 ⟨g1, cap1, rfl, hg1, hg1l, hc1, k2⟩
  obtain ⟨hs, hN, hL, hg, hgl, hgs, hsL, hgL⟩ := hs0.out
  have k3 : Kept [] w w1 := Kept.trans k1 k2 (by simp) (by simp)
  have s1 := k3.at hs (by simp)
  have T := fun w => twice130_one (some ⟨g1, 0, none⟩) cap1 w
  have c0 : w1.cell? ⟨s, 0, none⟩ = some (.int .i64 1) := cell_of s1 0
  have l1 := heap_lt s1
  have hg1' : w.heap.size ≤ g1 := by simp at hg1; omega
  replace k3 := Lib.hid (And.intro k3 (And.intro s1 (And.intro hc1 (And.intro hg1' hg1l))))
  clear k1 k2 s1 S V hs hN hL hg hgl hgs hsL hgL hg1 hg1' hg1l hc1
  go_wp2_with fail
  refine (T _).mono ?_
  rintro e w2 ⟨rfl, os, q, rfl⟩
  obtain ⟨W, hW⟩ : ∃ W, ((Go.Proofs.YtgfbfklnhmndfaaGreat.grow w1 os q).alloc (.cells #[.bool false] 4)).alloc (.map #[] 0) = W := ⟨_, rfl⟩
  go_wp2_with fail
  obtain ⟨k3, s1, hc1, hg1, hg1l⟩ := k3.out
  obtain ⟨hs, hN, hL, hg, hgl, hgs, hsL, hgL⟩ := hs0.out
  have kW : Kept [] w1 W := by rw [← hW]; exact (((Kept.refl [] w1).grow os q).alloc _).alloc _
  have sW := kW.at s1 (by simp)
  have nW : W.heap[w1.heap.size + os.length + 1]? = some (.map #[] 0) := by
    rw [← hW]
    have := heap_alloc_two (Go.Proofs.YtgfbfklnhmndfaaGreat.grow w1 os q) (.cells #[.bool false] 4) (.map #[] 0)
    rwa [grow_size] at this
  have tW : W.heap[w1.heap.size + os.length]? = some (.cells #[.bool false] 4 (0, 0)) := by
    rw [← hW]
    have := heap_alloc_new (w := Go.Proofs.YtgfbfklnhmndfaaGreat.grow w1 os q) (o := .cells #[.bool false] 4)
    rw [grow_size] at this
    rw [heap_alloc (by simp [grow_size]), this]
  obtain ⟨TB, hTB⟩ : ∃ TB, w1.heap.size + os.length = TB := ⟨_, rfl⟩
  rw [hTB] at nW tW ⊢
  obtain ⟨NB, hNB⟩ : ∃ NB, TB + 1 = NB := ⟨_, rfl⟩
  rw [hNB] at nW ⊢
  have hn : s < w1.heap.size := heap_lt s1
  have hk1 := k3.1
  have hLl := hL.lt
  have hNl := hN.lt
  have gcW : W.cell? ⟨g, 0, none⟩ = some (.int .i64 id) := (World.cell?_of_block (a := ⟨g, 0, none⟩) (kW.2 g (by omega) (by simp))).trans ((World.cell?_of_block (a := ⟨g, 0, none⟩) (k3.2 g hgl (by simp))).trans hg)
  have gcW1 : W.cell? ⟨g1, 0, none⟩ = some (.int .i64 id) := (World.cell?_of_block (a := ⟨g1, 0, none⟩) (kW.2 g1 hg1l (by simp))).trans hc1
  have kWw : Kept [] w W := Kept.trans k3 kW (by simp) (by simp)
  have NW := hN.kept kWw (by simp)
  have LW := hL.kept kWw (by simp)
  have ne : Hid ((g ≠ s ∧ s ≠ L ∧ g ≠ L ∧ NB ≠ s ∧ NB ≠ L ∧ NB ≠ N ∧ NB ≠ g ∧ NB ≠ g1) ∧ (TB ≠ s ∧ TB ≠ L ∧ TB ≠ N ∧ TB ≠ g ∧ TB ≠ g1 ∧ TB ≠ NB) ∧ (w.heap.size ≤ NB ∧ w.heap.size ≤ TB ∧ w.heap.size ≤ g1) ∧ g < W.heap.size ∧ g1 < W.heap.size ∧ s < w.heap.size ∧ L < w.heap.size) := Lib.hid (by have := kW.1; have := heap_lt hs; refine ⟨⟨hgs, hsL, hgL, ?_⟩, ?_⟩ <;> omega)
  have c1 : W.cell? ⟨s, 1, none⟩ = some (.map (some N)) := cell_of sW 1
  have c2 : W.cell? ⟨s, 2, none⟩ = some (.map (some L)) := cell_of sW 2
  have lW := heap_lt sW
  have st := Lib.hid (And.intro kWw (And.intro sW (And.intro nW (And.intro tW (And.intro gcW (And.intro gcW1 (And.intro NW LW)))))))
  clear k3 s1 kW sW nW tW hn hk1 hNB hTB hW c0 l1 hM hB T hc1 hg1 hg1l hs hN hL hg hgl hgs hsL hgL hLl hNl gcW gcW1 kWw NW LW hs0
  refine wp_region_any (by kernel_rfl) ?_
  rw [List.size_toArray]
  refine yTake (i := 10) rfl (by kernel_rfl) (fun _ _ _ h => h) (by rfl) (fun _ => by go_simp; first | done | rfl) ?_
  try simp only [Act.put, zA, zB, zC]
  refine wpAnyS_any (S := fun X => X = W.drew) (k := 8) _ _ _ ?_ _ rfl
  refine sTake (i := 0) rfl (by kernel_rfl) (fun _ _ _ h => h) (gLoad (by rfl) (fun W hW => by (try dsimp only at hW); subst hW; go_simp; first | done | rfl)) ?_
  try simp only [Act.put, zA, zB, zC]
  refine sTake (i := 1) rfl (by kernel_rfl) (fun _ _ _ h => h) (gLoad (by rfl) (fun W hW => by (try dsimp only at hW); subst hW; go_simp; first | done | rfl)) ?_
  try simp only [Act.put, zA, zB, zC]
  refine sTake (i := 2) rfl (by kernel_rfl) (fun _ _ _ h => h) (gLoad (by rfl) (fun W hW => by (try dsimp only at hW); subst hW; go_simp; first | done | rfl)) ?_
  try simp only [Act.put, zA, zB, zC]
  refine sTake (i := 3) rfl (by kernel_rfl) (fun _ _ _ h => h) (gLoad (by rfl) (fun W hW => by (try dsimp only at hW); subst hW; go_simp; first | done | rfl)) ?_
  try simp only [Act.put, zA, zB, zC]
  refine sTake (i := 4) rfl (by kernel_rfl) (fun _ _ _ h => h) (gLoad (by rfl) (fun W hW => by (try dsimp only at hW); subst hW; go_simp; first | done | rfl)) ?_
  try simp only [Act.put, zA, zB, zC]
  refine sTake (i := 5) rfl (by kernel_rfl) (fun _ _ _ h => h) (gLoad (by rfl) (fun W hW => by (try dsimp only at hW); subst hW; go_simp; first | done | rfl)) ?_
  try simp only [Act.put, zA, zB, zC]
  refine sTake (i := 6) rfl (by kernel_rfl) (fun _ _ _ h => h) (gLoad (by rfl) (fun W hW => by (try dsimp only at hW); subst hW; go_simp; first | done | rfl)) ?_
  try simp only [Act.put, zA, zB, zC]
  refine sTake (i := 7) rfl (by kernel_rfl) (fun _ _ _ h => h) (gLoad (by rfl) (fun W hW => by (try dsimp only at hW); subst hW; go_simp; first | done | rfl)) ?_
  try simp only [Act.put, zA, zB, zC]
  refine sRest (by kernel_rfl) ?_
  rintro X rfl
  refine aValW (i := 8) (v := .slice (some ⟨W.heap.size, 0, none⟩) 2 2) (w' := W.drew.alloc (.cells #[.map (some N), .map (some L)] 90)) rfl (by kernel_rfl) (by rfl) (by kernel_rfl) ?_
  try simp only [Act.put, zA, zB, zC]
  refine aVal (i := 9) (v := ?_) rfl (by kernel_rfl) (by rfl) ?_ ?_
  rotate_left 1
  · go_simp; all_goals with_reducible rfl
  try simp only [Act.put, zA, zB, zC]
  refine wpAny_done (by kernel_rfl) ?_ _
  go_wp2_with fail
  obtain ⟨k, s1, n1, t1, gc, gc1, NW, LW⟩ := st.out
  obtain ⟨⟨e1, e2, e3, e4, e5, e6, e7, e8⟩, ⟨e9, e10, e11, e12, e13, e14⟩, ⟨e15, e16, e17⟩, e18, e19, e20, e21⟩ := ne.out
  have kWX : Kept [] W (W.drew.alloc (.cells #[.map (some N), .map (some L)] 90)) := ((Kept.refl [] W).drew).alloc _
  have kX : Kept [] w (W.drew.alloc (.cells #[.map (some N), .map (some L)] 90)) := (k.drew).alloc _
  have pX : (W.drew.alloc (.cells #[.map (some N), .map (some L)] 90)).heap[W.heap.size]? = some (.cells #[.map (some N), .map (some L)] 90 (0, 0)) := heap_alloc_new (w := W.drew)
  have sX := kWX.at s1 (by simp)
  have nX := kWX.at n1 (by simp)
  have tX := kWX.at t1 (by simp)
  have gX : (W.drew.alloc (.cells #[.map (some N), .map (some L)] 90)).cell? ⟨g, 0, none⟩ = some (.int .i64 id) := (World.cell?_of_block (a := ⟨g, 0, none⟩) (kWX.2 g e18 (by simp))).trans gc
  have g1X : (W.drew.alloc (.cells #[.map (some N), .map (some L)] 90)).cell? ⟨g1, 0, none⟩ = some (.int .i64 id) := (World.cell?_of_block (a := ⟨g1, 0, none⟩) (kWX.2 g1 e19 (by simp))).trans gc1
  have NX := NW.kept kWX (by simp)
  have LX := LW.kept kWX (by simp)
  have PNE : W.heap.size ≠ TB ∧ W.heap.size ≠ NB ∧ W.heap.size ≠ s ∧ w.heap.size ≤ W.heap.size := ⟨by have := heap_lt t1; omega, by have := heap_lt n1; omega, by have := heap_lt s1; omega, k.1⟩
  have lg := kWX.lt e18
  have lg1 := kWX.lt e19
  generalize (W.drew.alloc (.cells #[.map (some N), .map (some L)] 90)) = X at *
  obtain ⟨P, hP⟩ : ∃ P, W.heap.size = P := ⟨_, rfl⟩
  rw [hP] at pX PNE ⊢
  obtain ⟨X1, hX1⟩ : ∃ X1, Go.ChangeMaps.setBlock X NB (.map #[{ key := .int .i64 id, val := .int .i64 0, born := 0 }] (0 + 1)) = X1 := ⟨_, rfl⟩
  have n1 : X1.heap[NB]? = some (.map #[{ key := .int .i64 id, val := .int .i64 0, born := 0 }] (0 + 1)) := by rw [← hX1]; exact heap_setBlock (heap_lt nX)
  have hUX := put_none Tryz.underlying90 Tryz.underlying3 nX id (.int .i64 0)
  rw [hX1] at hUX
  have kX1 : Kept [NB] X X1 := by rw [← hX1]; exact (Kept.refl _ _).setBlock _ _ (Or.inl (by simp))
  have t2 := kX1.at tX (by simp; omega)
  obtain ⟨X2, hX2⟩ : ∃ X2, X1.setCell ⟨TB, 0, none⟩ (.bool true) = X2 := ⟨_, rfl⟩
  have k12 : Kept [TB] X1 X2 := by rw [← hX2]; exact (Kept.refl _ _).setCell _ _ (Or.inl (by simp))
  have kX2 : Kept [NB, TB] X X2 := Kept.trans kX1 k12 (by simp) (by simp)
  have P2 := kX2.at pX (by simp; omega)
  have s2 := kX2.at sX (by simp; omega)
  have n2 := k12.at n1 (by simp; omega)
  have N2 := NX.kept kX2 (by simp; omega)
  have L2 := LX.kept kX2 (by simp; omega)
  have g2 : X2.cell? ⟨g, 0, none⟩ = some (.int .i64 id) := (World.cell?_of_block (a := ⟨g, 0, none⟩) (kX2.2 g lg (by simp; omega))).trans gX
  have g12 : X2.cell? ⟨g1, 0, none⟩ = some (.int .i64 id) := (World.cell?_of_block (a := ⟨g1, 0, none⟩) (kX2.2 g1 lg1 (by simp; omega))).trans g1X
  have kw2 : Kept [] w X2 := Kept.trans kX kX2 (by simp) (fun x hx => by simp at hx; omega)
  obtain ⟨ok1, hl1⟩ := look_half NX
  obtain ⟨ok2, hl2⟩ := look_half LX
  have l1X := hl1 X rfl
  have l2X := hl2 X rfl
  have l22 := hl2 X2 (kX2.2 L LX.lt (by simp; omega))
  have hb := look_none Tryz.underlying90 Tryz.underlying3 (z := .int .i64 0) (by kernel_rfl) nX id true
  have hb2 := look_one Tryz.underlying90 Tryz.underlying3 n2 true
  simp only [if_true] at hb hb2
  have p0 : X.cell? ⟨P, 0, none⟩ = some (.map (some N)) := cell_of pX 0
  have p1 : X.cell? ⟨P, 1, none⟩ = some (.map (some L)) := cell_of pX 1
  have p20 : X2.cell? ⟨P, 0, none⟩ = some (.map (some N)) := cell_of P2 0
  have p21 : X2.cell? ⟨P, 1, none⟩ = some (.map (some L)) := cell_of P2 1
  have tc : X.cell? ⟨TB, 0, none⟩ = some (.bool false) := cell_of tX 0
  have tc1 : X1.cell? ⟨TB, 0, none⟩ = some (.bool false) := cell_of t2 0
  have tf1 : X1.frozen? ⟨TB, 0, none⟩ = false := frozen_of t2 0
  have lT := heap_lt t2
  have lTX := heap_lt tX
  have lPX := heap_lt pX
  have lP2 := heap_lt P2
  have lg2 := kX2.lt lg
  have lg12 := kX2.lt lg1
  have IX := Index131 TB X tX
  -- behind it
  have f3 : X2.frozen? ⟨s, 1, none⟩ = false := frozen_of s2 1
  have q3 : X2.cell? ⟨s, 1, none⟩ = some (.map (some N)) := cell_of s2 1
  have ls2 := heap_lt s2
  obtain ⟨X3, hX3⟩ : ∃ X3, X2.setCell ⟨s, 1, none⟩ (.map (some NB)) = X3 := ⟨_, rfl⟩
  have k23 : Kept [s] X2 X3 := by rw [← hX3]; exact (Kept.refl _ _).setCell _ _ (Or.inl (by simp))
  have s3 : X3.heap[s]? = some (.cells #[.int .i64 1, .map (some NB), .map (some L)] 136 (0, 0)) := by rw [← hX3, heap_setCell s2]; simp
  have n3 := k23.at n2 (by simp; omega)
  have L3 := L2.kept k23 (by simp; omega)
  have g3 : X3.cell? ⟨g, 0, none⟩ = some (.int .i64 id) := (World.cell?_of_block (a := ⟨g, 0, none⟩) (k23.2 g lg2 (by simp; omega))).trans g2
  have r2 : X3.cell? ⟨s, 2, none⟩ = some (.map (some L)) := cell_of s3 2
  have ls3 := heap_lt s3
  have lg3 := k23.lt lg2
  obtain ⟨b, c, hp⟩ := put_half L3
  have hp3 := hp X3.drew rfl
  have b3 := look_one Tryz.underlying90 Tryz.underlying3 (w := X3.drew) n3 false
  simp only [Bool.false_eq_true, if_false] at b3
  have L4 : (Go.ChangeMaps.setBlock X3.drew L (.map #[{ key := .int .i64 id, val := .int .i64 0, born := b }] c)).heap[L]? = _ := heap_setBlock (w := X3.drew) L3.lt
  have k34 : Kept [L] X3 (Go.ChangeMaps.setBlock X3.drew L (.map #[{ key := .int .i64 id, val := .int .i64 0, born := b }] c)) := ((Kept.refl [L] X3).drew).setBlock _ _ (Or.inl (by simp))
  generalize Go.ChangeMaps.setBlock X3.drew L (.map #[{ key := .int .i64 id, val := .int .i64 0, born := b }] c) = X4 at *
  have n4 := k34.at n3 (by simp; omega)
  have s4 := k34.at s3 (by simp; omega)
  have b4 := look_one Tryz.underlying90 Tryz.underlying3 n4 false
  simp only [Bool.false_eq_true, if_false] at b4
  have kw4 : Kept [s, L] w X4 := Kept.trans (Kept.trans kw2 k23 (U := [s, L]) (by simp) (fun x hx => Or.inl (by simp at hx; simp [hx]))) k34 (fun x hx => hx) (fun x hx => Or.inl (by simp at hx; simp [hx]))
  obtain ⟨i0, hi, hz0, hz1, hz2⟩ := info_parts infoInt
  have fin := Lib.hid (And.intro kw4 (And.intro s4 (And.intro n4 (And.intro L4 e15))))
  clear kw4 s4 n4 L4 hp k34 L3 n3 s3 k23 g2 L2 N2 n2 s2 P2 kX2 k12 kX1 t2 n1 kX kWX sX nX tX NX LX k s1 t1 gc gc1 NW LW hl1 hl2 kw2 PNE hP pX
  refine wp_loop_rounds 3 ?_
  rw [rounds_succ]
  go_wp2_with fail
  refine wp_loop_rounds 2 ?_
  rw [rounds_succ]
  cases ok1
  · go_wp2_with fail
    rw [rounds_succ]
    go_wp2_with fail
    rw [rounds_succ]
    go_wp2_with fail
    refine wp_loop_rounds 2 ?_
    rw [rounds_succ]
    cases ok2
    · go_wp2_with fail
      rw [rounds_succ]
      go_wp2_with fail
      rw [rounds_succ]
      go_wp2_with fail
      refine wp_loop_rounds 2 ?_
      rw [rounds_succ]
      go_wp2_with fail
      refine IX.mono ?_
      rintro e wI ⟨rfl, rfl⟩
      go_wp2_with fail
      rw [rounds_succ]
      go_wp2_with fail
      refine wp_loop_rounds 2 ?_
      rw [rounds_succ]
      go_wp2_with fail
      refine wp_region_any (by kernel_rfl) ?_
      rw [List.size_toArray]
      refine wpAnyS_any (S := fun Z => Z = X3.drew) (k := 8) _ _ _ ?_ _ rfl
      refine sTake (i := 0) rfl (by kernel_rfl) (fun _ _ _ h => h) (gLoad (by rfl) (fun W hW => by (try dsimp only at hW); subst hW; go_simp; first | done | rfl)) ?_
      try simp only [Act.put, zA, zB, zC]
      refine sTake (i := 1) rfl (by kernel_rfl) (fun _ _ _ h => h) (gLoad (by rfl) (fun W hW => by (try dsimp only at hW); subst hW; go_simp; first | done | rfl)) ?_
      try simp only [Act.put, zA, zB, zC]
      refine sTake (i := 2) rfl (by kernel_rfl) (fun _ _ _ h => h) (gLoad (by rfl) (fun W hW => by (try dsimp only at hW); subst hW; go_simp; first | done | rfl)) ?_
      try simp only [Act.put, zA, zB, zC]
      refine sTake (i := 3) rfl (by kernel_rfl) (fun _ _ _ h => h) (gLoad (by rfl) (fun W hW => by (try dsimp only at hW); subst hW; go_simp; first | done | rfl)) ?_
      try simp only [Act.put, zA, zB, zC]
      refine sTake (i := 4) rfl (by kernel_rfl) (fun _ _ _ h => h) (gLoad (by rfl) (fun W hW => by (try dsimp only at hW); subst hW; go_simp; first | done | rfl)) ?_
      try simp only [Act.put, zA, zB, zC]
      refine sTake (i := 5) rfl (by kernel_rfl) (fun _ _ _ h => h) (gLoad (by rfl) (fun W hW => by (try dsimp only at hW); subst hW; go_simp; first | done | rfl)) ?_
      try simp only [Act.put, zA, zB, zC]
      refine sTake (i := 6) rfl (by kernel_rfl) (fun _ _ _ h => h) (gLoad (by rfl) (fun W hW => by (try dsimp only at hW); subst hW; go_simp; first | done | rfl)) ?_
      try simp only [Act.put, zA, zB, zC]
      refine sTake (i := 7) rfl (by kernel_rfl) (fun _ _ _ h => h) (gLoad (by rfl) (fun W hW => by (try dsimp only at hW); subst hW; go_simp; first | done | rfl)) ?_
      try simp only [Act.put, zA, zB, zC]
      refine sRest (by kernel_rfl) ?_
      rintro Z rfl
      refine aSkip (i := 8) (w' := ?_) rfl (by kernel_rfl) (by rfl) ?_ ?_
      rotate_left 1
      · go_simp; all_goals with_reducible rfl
      try simp only [Act.put, zA, zB, zC]
      refine wpAny_done (by kernel_rfl) ?_ _
      go_wp2_with (at_builtin; refine wpList_app rfl _ _ rfl Tryz.underlying83 hi hz0 hz1 hz2 rfl (by decide) _ _ _ rfl (Or.inl ⟨none, rfl, rfl, rfl⟩) X4.heap.size 1 1 [.int .i64 0] rfl rfl ?c1 ?c2 (by decide) (by decide) (by decide) ?_)
      case c1 => intro j u hj; rw [cell_of heap_alloc_new j, ← hj]; simp
      case c2 => intro u hu; simp at hu; subst hu; rfl
      intro v' w5 hown hk hat
      obtain ⟨G, c', rfl, hc1, _, hcell, _, hlt⟩ := row_elem hown (by omega)
      have hG : X4.heap.size ≤ G := by
        rcases hat with ⟨hat, _⟩ | ⟨G', hat, hG⟩
        · cases hat
        · cases hat; simp at hG; omega
      have st4 := Lib.hid (And.intro hG (And.intro hlt (And.intro (hcell 0 (by omega)) (Kept.trans ((Kept.refl [] X4).alloc _) hk (U := []) (by simp) (by simp [own])))))
      clear hown hk hat hc1 hcell hlt hG
      go_wp2_with fail
      rw [rounds_succ]
      go_wp2_with fail
      go_returns
      obtain ⟨hG, hlt, hcell, hk⟩ := st4.out
      obtain ⟨kw4, s4, n4, L4, e15⟩ := fin.out
      have := kw4.1
      exact ⟨G, c', rfl, hcell, by omega, hlt, Kept.trans kw4 hk (fun x hx => hx) (by simp), NB, e15, hk.at s4 (by simp), ⟨_, _, hk.at n4 (by simp), Or.inr ⟨_, rfl⟩⟩, ⟨_, _, hk.at L4 (by simp), Or.inr ⟨_, rfl⟩⟩⟩
    · go_wp2_with fail
      rw [rounds_succ]
      go_wp2_with fail
      rw [rounds_succ]
      go_wp2_with fail
      refine wp_loop_rounds 2 ?_
      rw [rounds_succ]
      go_wp2_with fail
      rw [rounds_succ]
      go_wp2_with fail
      refine wp_loop_rounds 2 ?_
      rw [rounds_succ]
      go_wp2_with fail
      refine wp_region_any (by kernel_rfl) ?_
      rw [List.size_toArray]
      refine wpAnyS_any (S := fun Z => Z = X3.drew) (k := 8) _ _ _ ?_ _ rfl
      refine sTake (i := 0) rfl (by kernel_rfl) (fun _ _ _ h => h) (gLoad (by rfl) (fun W hW => by (try dsimp only at hW); subst hW; go_simp; first | done | rfl)) ?_
      try simp only [Act.put, zA, zB, zC]
      refine sTake (i := 1) rfl (by kernel_rfl) (fun _ _ _ h => h) (gLoad (by rfl) (fun W hW => by (try dsimp only at hW); subst hW; go_simp; first | done | rfl)) ?_
      try simp only [Act.put, zA, zB, zC]
      refine sTake (i := 2) rfl (by kernel_rfl) (fun _ _ _ h => h) (gLoad (by rfl) (fun W hW => by (try dsimp only at hW); subst hW; go_simp; first | done | rfl)) ?_
      try simp only [Act.put, zA, zB, zC]
      refine sTake (i := 3) rfl (by kernel_rfl) (fun _ _ _ h => h) (gLoad (by rfl) (fun W hW => by (try dsimp only at hW); subst hW; go_simp; first | done | rfl)) ?_
      try simp only [Act.put, zA, zB, zC]
      refine sTake (i := 4) rfl (by kernel_rfl) (fun _ _ _ h => h) (gLoad (by rfl) (fun W hW => by (try dsimp only at hW); subst hW; go_simp; first | done | rfl)) ?_
      try simp only [Act.put, zA, zB, zC]
      refine sTake (i := 5) rfl (by kernel_rfl) (fun _ _ _ h => h) (gLoad (by rfl) (fun W hW => by (try dsimp only at hW); subst hW; go_simp; first | done | rfl)) ?_
      try simp only [Act.put, zA, zB, zC]
      refine sTake (i := 6) rfl (by kernel_rfl) (fun _ _ _ h => h) (gLoad (by rfl) (fun W hW => by (try dsimp only at hW); subst hW; go_simp; first | done | rfl)) ?_
      try simp only [Act.put, zA, zB, zC]
      refine sTake (i := 7) rfl (by kernel_rfl) (fun _ _ _ h => h) (gLoad (by rfl) (fun W hW => by (try dsimp only at hW); subst hW; go_simp; first | done | rfl)) ?_
      try simp only [Act.put, zA, zB, zC]
      refine sRest (by kernel_rfl) ?_
      rintro Z rfl
      refine aSkip (i := 8) (w' := ?_) rfl (by kernel_rfl) (by rfl) ?_ ?_
      rotate_left 1
      · go_simp; all_goals with_reducible rfl
      try simp only [Act.put, zA, zB, zC]
      refine wpAny_done (by kernel_rfl) ?_ _
      go_wp2_with (at_builtin; refine wpList_app rfl _ _ rfl Tryz.underlying83 hi hz0 hz1 hz2 rfl (by decide) _ _ _ rfl (Or.inl ⟨none, rfl, rfl, rfl⟩) X4.heap.size 1 1 [.int .i64 0] rfl rfl ?c1 ?c2 (by decide) (by decide) (by decide) ?_)
      case c1 => intro j u hj; rw [cell_of heap_alloc_new j, ← hj]; simp
      case c2 => intro u hu; simp at hu; subst hu; rfl
      intro v' w5 hown hk hat
      obtain ⟨G, c', rfl, hc1, _, hcell, _, hlt⟩ := row_elem hown (by omega)
      have hG : X4.heap.size ≤ G := by
        rcases hat with ⟨hat, _⟩ | ⟨G', hat, hG⟩
        · cases hat
        · cases hat; simp at hG; omega
      have st4 := Lib.hid (And.intro hG (And.intro hlt (And.intro (hcell 0 (by omega)) (Kept.trans ((Kept.refl [] X4).alloc _) hk (U := []) (by simp) (by simp [own])))))
      clear hown hk hat hc1 hcell hlt hG
      go_wp2_with fail
      rw [rounds_succ]
      go_wp2_with fail
      go_returns
      obtain ⟨hG, hlt, hcell, hk⟩ := st4.out
      obtain ⟨kw4, s4, n4, L4, e15⟩ := fin.out
      have := kw4.1
      exact ⟨G, c', rfl, hcell, by omega, hlt, Kept.trans kw4 hk (fun x hx => hx) (by simp), NB, e15, hk.at s4 (by simp), ⟨_, _, hk.at n4 (by simp), Or.inr ⟨_, rfl⟩⟩, ⟨_, _, hk.at L4 (by simp), Or.inr ⟨_, rfl⟩⟩⟩
  · go_wp2_with fail
    rw [rounds_succ]
    go_wp2_with fail
    rw [rounds_succ]
    go_wp2_with fail
    refine wp_loop_rounds 2 ?_
    rw [rounds_succ]
    cases ok2
    · go_wp2_with fail
      rw [rounds_succ]
      go_wp2_with fail
      rw [rounds_succ]
      go_wp2_with fail
      refine wp_loop_rounds 2 ?_
      rw [rounds_succ]
      go_wp2_with fail
      rw [rounds_succ]
      go_wp2_with fail
      refine wp_loop_rounds 2 ?_
      rw [rounds_succ]
      go_wp2_with fail
      refine wp_region_any (by kernel_rfl) ?_
      rw [List.size_toArray]
      refine wpAnyS_any (S := fun Z => Z = X3.drew) (k := 8) _ _ _ ?_ _ rfl
      refine sTake (i := 0) rfl (by kernel_rfl) (fun _ _ _ h => h) (gLoad (by rfl) (fun W hW => by (try dsimp only at hW); subst hW; go_simp; first | done | rfl)) ?_
      try simp only [Act.put, zA, zB, zC]
      refine sTake (i := 1) rfl (by kernel_rfl) (fun _ _ _ h => h) (gLoad (by rfl) (fun W hW => by (try dsimp only at hW); subst hW; go_simp; first | done | rfl)) ?_
      try simp only [Act.put, zA, zB, zC]
      refine sTake (i := 2) rfl (by kernel_rfl) (fun _ _ _ h => h) (gLoad (by rfl) (fun W hW => by (try dsimp only at hW); subst hW; go_simp; first | done | rfl)) ?_
      try simp only [Act.put, zA, zB, zC]
      refine sTake (i := 3) rfl (by kernel_rfl) (fun _ _ _ h => h) (gLoad (by rfl) (fun W hW => by (try dsimp only at hW); subst hW; go_simp; first | done | rfl)) ?_
      try simp only [Act.put, zA, zB, zC]
      refine sTake (i := 4) rfl (by kernel_rfl) (fun _ _ _ h => h) (gLoad (by rfl) (fun W hW => by (try dsimp only at hW); subst hW; go_simp; first | done | rfl)) ?_
      try simp only [Act.put, zA, zB, zC]
      refine sTake (i := 5) rfl (by kernel_rfl) (fun _ _ _ h => h) (gLoad (by rfl) (fun W hW => by (try dsimp only at hW); subst hW; go_simp; first | done | rfl)) ?_
      try simp only [Act.put, zA, zB, zC]
      refine sTake (i := 6) rfl (by kernel_rfl) (fun _ _ _ h => h) (gLoad (by rfl) (fun W hW => by (try dsimp only at hW); subst hW; go_simp; first | done | rfl)) ?_
      try simp only [Act.put, zA, zB, zC]
      refine sTake (i := 7) rfl (by kernel_rfl) (fun _ _ _ h => h) (gLoad (by rfl) (fun W hW => by (try dsimp only at hW); subst hW; go_simp; first | done | rfl)) ?_
      try simp only [Act.put, zA, zB, zC]
      refine sRest (by kernel_rfl) ?_
      rintro Z rfl
      refine aSkip (i := 8) (w' := ?_) rfl (by kernel_rfl) (by rfl) ?_ ?_
      rotate_left 1
      · go_simp; all_goals with_reducible rfl
      try simp only [Act.put, zA, zB, zC]
      refine wpAny_done (by kernel_rfl) ?_ _
      go_wp2_with (at_builtin; refine wpList_app rfl _ _ rfl Tryz.underlying83 hi hz0 hz1 hz2 rfl (by decide) _ _ _ rfl (Or.inl ⟨none, rfl, rfl, rfl⟩) X4.heap.size 1 1 [.int .i64 0] rfl rfl ?c1 ?c2 (by decide) (by decide) (by decide) ?_)
      case c1 => intro j u hj; rw [cell_of heap_alloc_new j, ← hj]; simp
      case c2 => intro u hu; simp at hu; subst hu; rfl
      intro v' w5 hown hk hat
      obtain ⟨G, c', rfl, hc1, _, hcell, _, hlt⟩ := row_elem hown (by omega)
      have hG : X4.heap.size ≤ G := by
        rcases hat with ⟨hat, _⟩ | ⟨G', hat, hG⟩
        · cases hat
        · cases hat; simp at hG; omega
      have st4 := Lib.hid (And.intro hG (And.intro hlt (And.intro (hcell 0 (by omega)) (Kept.trans ((Kept.refl [] X4).alloc _) hk (U := []) (by simp) (by simp [own])))))
      clear hown hk hat hc1 hcell hlt hG
      go_wp2_with fail
      rw [rounds_succ]
      go_wp2_with fail
      go_returns
      obtain ⟨hG, hlt, hcell, hk⟩ := st4.out
      obtain ⟨kw4, s4, n4, L4, e15⟩ := fin.out
      have := kw4.1
      exact ⟨G, c', rfl, hcell, by omega, hlt, Kept.trans kw4 hk (fun x hx => hx) (by simp), NB, e15, hk.at s4 (by simp), ⟨_, _, hk.at n4 (by simp), Or.inr ⟨_, rfl⟩⟩, ⟨_, _, hk.at L4 (by simp), Or.inr ⟨_, rfl⟩⟩⟩
    · go_wp2_with fail
      rw [rounds_succ]
      go_wp2_with fail
      rw [rounds_succ]
      go_wp2_with fail
      refine wp_loop_rounds 2 ?_
      rw [rounds_succ]
      go_wp2_with fail
      rw [rounds_succ]
      go_wp2_with fail
      refine wp_loop_rounds 2 ?_
      rw [rounds_succ]
      go_wp2_with fail
      refine wp_region_any (by kernel_rfl) ?_
      rw [List.size_toArray]
      refine wpAnyS_any (S := fun Z => Z = X3.drew) (k := 8) _ _ _ ?_ _ rfl
      refine sTake (i := 0) rfl (by kernel_rfl) (fun _ _ _ h => h) (gLoad (by rfl) (fun W hW => by (try dsimp only at hW); subst hW; go_simp; first | done | rfl)) ?_
      try simp only [Act.put, zA, zB, zC]
      refine sTake (i := 1) rfl (by kernel_rfl) (fun _ _ _ h => h) (gLoad (by rfl) (fun W hW => by (try dsimp only at hW); subst hW; go_simp; first | done | rfl)) ?_
      try simp only [Act.put, zA, zB, zC]
      refine sTake (i := 2) rfl (by kernel_rfl) (fun _ _ _ h => h) (gLoad (by rfl) (fun W hW => by (try dsimp only at hW); subst hW; go_simp; first | done | rfl)) ?_
      try simp only [Act.put, zA, zB, zC]
      refine sTake (i := 3) rfl (by kernel_rfl) (fun _ _ _ h => h) (gLoad (by rfl) (fun W hW => by (try dsimp only at hW); subst hW; go_simp; first | done | rfl)) ?_
      try simp only [Act.put, zA, zB, zC]
      refine sTake (i := 4) rfl (by kernel_rfl) (fun _ _ _ h => h) (gLoad (by rfl) (fun W hW => by (try dsimp only at hW); subst hW; go_simp; first | done | rfl)) ?_
      try simp only [Act.put, zA, zB, zC]
      refine sTake (i := 5) rfl (by kernel_rfl) (fun _ _ _ h => h) (gLoad (by rfl) (fun W hW => by (try dsimp only at hW); subst hW; go_simp; first | done | rfl)) ?_
      try simp only [Act.put, zA, zB, zC]
      refine sTake (i := 6) rfl (by kernel_rfl) (fun _ _ _ h => h) (gLoad (by rfl) (fun W hW => by (try dsimp only at hW); subst hW; go_simp; first | done | rfl)) ?_
      try simp only [Act.put, zA, zB, zC]
      refine sTake (i := 7) rfl (by kernel_rfl) (fun _ _ _ h => h) (gLoad (by rfl) (fun W hW => by (try dsimp only at hW); subst hW; go_simp; first | done | rfl)) ?_
      try simp only [Act.put, zA, zB, zC]
      refine sRest (by kernel_rfl) ?_
      rintro Z rfl
      refine aSkip (i := 8) (w' := ?_) rfl (by kernel_rfl) (by rfl) ?_ ?_
      rotate_left 1
      · go_simp; all_goals with_reducible rfl
      try simp only [Act.put, zA, zB, zC]
      refine wpAny_done (by kernel_rfl) ?_ _
      go_wp2_with (at_builtin; refine wpList_app rfl _ _ rfl Tryz.underlying83 hi hz0 hz1 hz2 rfl (by decide) _ _ _ rfl (Or.inl ⟨none, rfl, rfl, rfl⟩) X4.heap.size 1 1 [.int .i64 0] rfl rfl ?c1 ?c2 (by decide) (by decide) (by decide) ?_)
      case c1 => intro j u hj; rw [cell_of heap_alloc_new j, ← hj]; simp
      case c2 => intro u hu; simp at hu; subst hu; rfl
      intro v' w5 hown hk hat
      obtain ⟨G, c', rfl, hc1, _, hcell, _, hlt⟩ := row_elem hown (by omega)
      have hG : X4.heap.size ≤ G := by
        rcases hat with ⟨hat, _⟩ | ⟨G', hat, hG⟩
        · cases hat
        · cases hat; simp at hG; omega
      have st4 := Lib.hid (And.intro hG (And.intro hlt (And.intro (hcell 0 (by omega)) (Kept.trans ((Kept.refl [] X4).alloc _) hk (U := []) (by simp) (by simp [own])))))
      clear hown hk hat hc1 hcell hlt hG
      go_wp2_with fail
      rw [rounds_succ]
      go_wp2_with fail
      go_returns
      obtain ⟨hG, hlt, hcell, hk⟩ := st4.out
      obtain ⟨kw4, s4, n4, L4, e15⟩ := fin.out
      have := kw4.1
      exact ⟨G, c', rfl, hcell, by omega, hlt, Kept.trans kw4 hk (fun x hx => hx) (by simp), NB, e15, hk.at s4 (by simp), ⟨_, _, hk.at n4 (by simp), Or.inr ⟨_, rfl⟩⟩, ⟨_, _, hk.at L4 (by simp), Or.inr ⟨_, rfl⟩⟩⟩
end
end Go.Proofs.YtgfbfklnhmndfaaGreat
