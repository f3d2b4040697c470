/- The parts of the top that the law of early release walks through: part 20 of 52. -/
import Derived.Test.YtgfbfklnhmndfaaGreatA1
import Derived.Test.YtgfbfklnhmndfaaGreatA3
import Derived.Test.YtgfbfklnhmndfaaGreatA4
import Derived.Test.YtgfbfklnhmndfaaGreatA9
import Derived.Test.YtgfbfklnhmndfaaGreatA10
import Derived.Test.YtgfbfklnhmndfaaGreatA12
import Derived.Test.YtgfbfklnhmndfaaGreatA15
import Derived.Test.YtgfbfklnhmndfaaGreatA16
import Derived.Test.YtgfbfklnhmndfaaGreatA17
import Derived.Test.YtgfbfklnhmndfaaGreatA18
import Derived.Test.YtgfbfklnhmndfaaGreatA19
namespace Go.Proofs.YtgfbfklnhmndfaaGreat
open Go.RowKit
set_option linter.unusedSimpArgs false
set_option linter.unusedVariables false
section
attribute [local go_sem ↓] setCell_drewN alloc_drewN grow_cell grow_frozen setCell_grow grow_size cell_alloc_grow frozen_alloc_grow setCell_alloc_grow cell_grow_alloc_grow frozen_grow_alloc_grow setCell_grow_alloc_grow grow_grow
attribute [local go_sem] lt_len size_setCell
theorem infoItem : (Tryz.prog.info? 277).map (fun i => (i.zero, i.size, decide (i.bytes ≤ 10000))) = some (some (.agg #[.int .i64 0, .int .i64 0, .int .i64 0, .int .i64 0, .int .i64 0]), 5, true) := by kernel_rfl
set_option maxHeartbeats 1000000 in
theorem Put126 (h A : Nat) (a b c d : Int) (w : World) (hh : w.heap[h]? = some (.cells #[.int .i64 1, .slice none 0 0, .map (some A)] 274 (0, 0))) (hA : w.heap[A]? = some (.map #[] 0)) (h2 : h ≠ A) :
    Calls Tryz.prog 126 #[.pointer (some ⟨h, 0, none⟩), .int .i64 0, .agg #[.int .i64 a, .int .i64 b, .int .i64 c, .int .i64 d]] w fun e w' => e = .returned (.int .i64 0) ∧ Kept [h, A] w w' ∧ ∃ g cap rest, 1 ≤ cap ∧ w.heap.size ≤ g ∧ w'.heap[h]? = some (.cells #[.int .i64 1, .slice (some ⟨g, 0, none⟩) 1 cap, .map (some A)] 274 (0, 0)) ∧
      w'.heap[g]? = some (.cells (.int .i64 0 :: .int .i64 a :: .int .i64 b :: .int .i64 c :: .int .i64 d :: rest).toArray 277 (0, 0)) ∧ w'.heap[A]? = some (.map #[{ key := .int .i64 0, val := .int .i64 0, born := 0 }] 1) := by
  obtain ⟨i0, hi, hz0, hz1, hby⟩ := info_of infoItem
  obtain ⟨W, hW⟩ : ∃ W, w.alloc (.cells #[.int .i64 a, .int .i64 b, .int .i64 c, .int .i64 d] 233) = W := ⟨_, rfl⟩
  obtain ⟨B, hB⟩ : ∃ B, w.heap.size = B := ⟨_, rfl⟩
  have lh := heap_lt hh
  have lA := heap_lt hA
  have kW : Kept [] w W := by rw [← hW]; exact (Kept.refl _ _).alloc _
  have nW : W.heap[B]? = some (.cells #[.int .i64 a, .int .i64 b, .int .i64 c, .int .i64 d] 233 (0, 0)) := by rw [← hW, ← hB]; exact heap_alloc_new
  have Wh := kW.at hh (by simp)
  have WA := kW.at hA (by simp)
  have hBh : B ≠ h := by omega
  have hBA : B ≠ A := by omega
  have hBs : w.heap.size ≤ B := by omega
  have hBW : B < W.heap.size := heap_lt nW
  have c1 : W.cell? ⟨h, 1, none⟩ = some (.slice none 0 0) := cell_of Wh 1
  have c2 : W.cell? ⟨h, 2, none⟩ = some (.map (some A)) := cell_of Wh 2
  have f1 : W.frozen? ⟨h, 1, none⟩ = false := frozen_of Wh 1
  have l1 := heap_lt Wh
  have hL := look_none Tryz.underlying90 Tryz.underlying3 (z := .int .i64 0) (w := W) (by kernel_rfl) WA 0 true
  simp only [if_true] at hL
  have hx := Lib.hid (And.intro kW (And.intro nW (And.intro Wh (And.intro WA hBs))))
  clear hh hA lh lA kW nW Wh WA hBs
  go_enter Tryz.func126, Tryz.ntmps126
  go_wp2_with (at_builtin; refine wpList_app rfl _ _ rfl Tryz.underlying272 hi hz0 hz1 rfl rfl (by decide) _ _ _ rfl (Or.inl ⟨none, rfl, rfl, rfl⟩) W.heap.size 1 1 [.int .i64 0, .int .i64 0, .int .i64 0, .int .i64 0, .int .i64 0] rfl rfl ?c1 ?c2 (by decide) (by decide) hby ?_)
  case c1 => intro j u hj; rw [cell_of heap_alloc_new j, ← hj]; simp
  case c2 => intro u hu; simp only [List.mem_cons, List.not_mem_nil, or_false] at hu; rcases hu with h | h | h | h | h <;> (subst h; rfl)
  intro v' w3 hown hk1 hat
  clear hW hB
  obtain ⟨kW, nW, Wh, WA, hBs⟩ := hx.out
  have k3 : Kept [] W w3 := Kept.trans ((Kept.refl [] W).alloc _) hk1 (by simp) (by simp [own])
  obtain ⟨r1, r2⟩ := hown
  rcases r2 with ⟨_, r2⟩ | ⟨g, cap, cur, rfl, _, r4, r5, r6, r7, r8⟩
  · cases r2
  have hg : W.heap.size ≤ g := by
    rcases hat with ⟨hat, _⟩ | ⟨G, hat, hG⟩
    · cases hat
    · cases hat; simp at hG; omega
  have hcur : cur = (.int .i64 0 :: .int .i64 0 :: .int .i64 0 :: .int .i64 0 :: .int .i64 0 :: cur.toList.drop 5).toArray := by
    have h1 := List.take_append_drop 5 cur.toList
    have r8' : cur.toList.take 5 = [.int .i64 0, .int .i64 0, .int .i64 0, .int .i64 0, .int .i64 0] := r8
    rw [r8'] at h1
    apply Array.ext'
    rw [← h1]
    simp
  rw [hcur] at r4
  generalize cur.toList.drop 5 = rest at *
  have h3 := k3.at Wh (by simp)
  have A3 := k3.at WA (by simp)
  have B3 := k3.at nW (by simp)
  have lW := heap_lt Wh
  have lWA := heap_lt WA
  have h1 : h ≠ g := by omega
  have hgA : g ≠ A := by omega
  have gB : g ≠ B := by omega
  have d1 : w3.cell? ⟨h, 1, none⟩ = some (.slice none 0 0) := cell_of h3 1
  have e1 : w3.frozen? ⟨h, 1, none⟩ = false := frozen_of h3 1
  have l3 := heap_lt h3
  have h4 : (w3.setCell ⟨h, 1, none⟩ (.slice (some ⟨g, 0, none⟩) 1 cap)).heap[h]? = some (.cells #[.int .i64 1, .slice (some ⟨g, 0, none⟩) 1 cap, .map (some A)] 274 (0, 0)) := by
    rw [heap_setCell h3]; simp
  have g4 : (w3.setCell ⟨h, 1, none⟩ (.slice (some ⟨g, 0, none⟩) 1 cap)).heap[g]? = _ := (heap_setCell_ne h1).trans r4
  have A4 : (w3.setCell ⟨h, 1, none⟩ (.slice (some ⟨g, 0, none⟩) 1 cap)).heap[A]? = _ := (heap_setCell_ne h2).trans A3
  have B4 : (w3.setCell ⟨h, 1, none⟩ (.slice (some ⟨g, 0, none⟩) 1 cap)).heap[B]? = _ := (heap_setCell_ne (Ne.symm hBh)).trans B3
  have k4 : Kept [h, A] w (w3.setCell ⟨h, 1, none⟩ (.slice (some ⟨g, 0, none⟩) 1 cap)) := (Kept.trans kW k3 (by simp) (by simp)).setCell _ _ (Or.inl (by simp))
  have b0 : (w3.setCell ⟨h, 1, none⟩ (.slice (some ⟨g, 0, none⟩) 1 cap)).cell? ⟨B, 0, none⟩ = some (.int .i64 a) := cell_of B4 0
  have b1 : (w3.setCell ⟨h, 1, none⟩ (.slice (some ⟨g, 0, none⟩) 1 cap)).cell? ⟨B, 1, none⟩ = some (.int .i64 b) := cell_of B4 1
  have b2 : (w3.setCell ⟨h, 1, none⟩ (.slice (some ⟨g, 0, none⟩) 1 cap)).cell? ⟨B, 2, none⟩ = some (.int .i64 c) := cell_of B4 2
  have b3 : (w3.setCell ⟨h, 1, none⟩ (.slice (some ⟨g, 0, none⟩) 1 cap)).cell? ⟨B, 3, none⟩ = some (.int .i64 d) := cell_of B4 3
  have l4 := heap_lt B4
  have S := set168 h g A cap a b c d _ _ _ _ _ rest _ _ _ r5 h4 g4 A4 (fun X hX => put_none Tryz.underlying90 Tryz.underlying3 hX 0 (.int .i64 0)) h1 h2 hgA
  have hy := Lib.hid (And.intro k4 (And.intro h4 (And.intro hg (And.intro r5 (And.intro h1 (And.intro h2 kW.1))))))
  clear hx kW nW Wh WA hBs k3 r1 r4 r5 r6 r7 r8 hcur hat hk1 h3 A3 B3 lW lWA h4 g4 A4 B4 k4 hg
  go_wp2_with fail
  refine S.mono ?_
  rintro e w4 ⟨rfl, k5, g5, A5⟩
  obtain ⟨k4, h4, hg, r5, h1', h2', ksz⟩ := hy.out
  have h5 := k5.at h4 (by simp [h1, h2])
  have T := settle169 h 1 cap (some ⟨g, 0, none⟩) (.int .i64 1) (.map (some A)) (by omega) w4 h5
  have k6 : Kept [h, A] w w4 := Kept.trans k4 k5 (fun x hx => hx) (fun x hx => by simp at hx ⊢; omega)
  have hz := Lib.hid (And.intro k6 (And.intro h5 (And.intro g5 (And.intro A5 (And.intro r5 (show w.heap.size ≤ g by omega))))))
  clear S k5 g5 A5 k4 h4 r5 h5 k6 hy
  go_wp2_with fail
  refine T.mono ?_
  rintro e w5 ⟨rfl, os, q, rfl⟩
  go_wp2_with fail
  go_returns
  obtain ⟨k6, h5, g5, A5, r5, hg⟩ := hz.out
  exact ⟨rfl, k6.grow os q, g, cap, rest, r5, hg, (heap_grow (heap_lt h5)).trans h5, (heap_grow (heap_lt g5)).trans g5, (heap_grow (heap_lt A5)).trans A5⟩
/-- What is asked of a list of one task, by whoever chooses. -/
structure OneTask (w : World) (g : Nat) (id e p rel got cnt : Int) (cur : List Value) : Prop where
  hg : w.heap[g]? = some (.cells (taskL id e p true rel got cnt cur).toArray 143 (0, 0))
  hid : (Lit.int .i64 id).wf = true
theorem OneTask.kept {w w' : World} {g : Nat} {id e p rel got cnt : Int} {cur : List Value} (h : OneTask w g id e p rel got cnt cur) {S : List Nat} (hk : Kept S w w') (hn : g ∉ S) : OneTask w' g id e p rel got cnt cur := ⟨hk.at h.hg hn, h.hid⟩
set_option maxHeartbeats 2000000 in
theorem Best86_yes (g cap : Nat) (id e p rel got cnt : Int) (cur : List Value) (clock : Int) (early : Bool) (w : World) (hT : OneTask w g id e p rel got cnt cur) (hcap : 1 ≤ cap)
    (C : ∀ W, Calls Tryz.prog 125 #[taskV id e p true rel got cnt, .int .i64 clock, .bool early] W (RetG (.bool true) W))
    (K : ∀ W, Calls Tryz.prog 127 #[taskV id e p true rel got cnt] W fun e' w' => ∃ a b c d : Int, e' = .returned (.agg #[.int .i64 a, .int .i64 b, .int .i64 c, .int .i64 d]) ∧ Kept [] W w') :
    Calls Tryz.prog 86 #[.slice (some ⟨g, 0, none⟩) 1 cap, .int .i64 clock, .int .i64 1, .bool early] w fun e' w' => ∃ G c', e' = .returned (.slice (some ⟨G, 0, none⟩) 1 c') ∧ w.heap.size ≤ G ∧ G < w'.heap.size ∧ w'.cell? ⟨G, 0, none⟩ = some (.int .i64 id) ∧ Kept [] w w' := by
  have N := New124 w
  have hM := fun w => run_makeMap (P := Tryz.prog) 229 w
  have lg := heap_lt hT.hg
  go_enter Tryz.func86, Tryz.ntmps86
  go_wp2_with fail
  refine N.mono ?_
  rintro e' w1 ⟨rfl, rfl⟩
  go_wp2_with fail
  have k0 : Kept [] w (((w.alloc (.map #[] 0)).alloc (.cells #[.int .i64 1, .slice none 0 0, .map (some w.heap.size)] 274)).alloc (.map #[] 0)) := (((Kept.refl [] w).alloc _).alloc _).alloc _
  have b0 : (((w.alloc (.map #[] 0)).alloc (.cells #[.int .i64 1, .slice none 0 0, .map (some w.heap.size)] 274)).alloc (.map #[] 0)).heap[w.heap.size]? = some (.map #[] 0) := (heap_alloc (by simp; omega)).trans ((heap_alloc (by simp)).trans heap_alloc_new)
  have b1 : (((w.alloc (.map #[] 0)).alloc (.cells #[.int .i64 1, .slice none 0 0, .map (some w.heap.size)] 274)).alloc (.map #[] 0)).heap[w.heap.size + 1]? = some (.cells #[.int .i64 1, .slice none 0 0, .map (some w.heap.size)] 274 (0, 0)) := (heap_alloc (by simp)).trans (heap_alloc_two _ _ _)
  have b2 : (((w.alloc (.map #[] 0)).alloc (.cells #[.int .i64 1, .slice none 0 0, .map (some w.heap.size)] 274)).alloc (.map #[] 0)).heap[w.heap.size + 2]? = some (.map #[] 0) := by
    have := heap_alloc_two (w.alloc (.map #[] 0)) (.cells #[.int .i64 1, .slice none 0 0, .map (some w.heap.size)] 274) (.map #[] 0)
    rw [World.size_alloc] at this
    exact this
  have T0 := hT.kept k0 (by simp)
  generalize (((w.alloc (.map #[] 0)).alloc (.cells #[.int .i64 1, .slice none 0 0, .map (some w.heap.size)] 274)).alloc (.map #[] 0)) = W at *
  obtain ⟨A, hA⟩ : ∃ A, w.heap.size = A := ⟨_, rfl⟩
  obtain ⟨h, hh⟩ : ∃ h, w.heap.size + 1 = h := ⟨_, rfl⟩
  obtain ⟨sn, hs⟩ : ∃ sn, w.heap.size + 2 = sn := ⟨_, rfl⟩
  rw [hs] at b2 ⊢
  rw [hh] at b1 ⊢
  rw [hA] at b0 b1
  have ne : Hid (h ≠ A ∧ h ≠ sn ∧ A ≠ sn ∧ g ≠ A ∧ g ≠ h ∧ g ≠ sn ∧ w.heap.size ≤ A ∧ w.heap.size ≤ h ∧ w.heap.size ≤ sn) := Lib.hid (by omega)
  have hl := heap_lt T0.hg
  have t0 : W.cell? ⟨g, 0, none⟩ = some (.int .i64 id) := cell_of T0.hg 0
  have t1 : W.cell? ⟨g, 1, none⟩ = some (.int .i64 e) := cell_of T0.hg 1
  have t2 : W.cell? ⟨g, 2, none⟩ = some (.int .i64 p) := cell_of T0.hg 2
  have t3 : W.cell? ⟨g, 3, none⟩ = some (.bool false) := cell_of T0.hg 3
  have t4 : W.cell? ⟨g, 4, none⟩ = some (.bool false) := cell_of T0.hg 4
  have t5 : W.cell? ⟨g, 5, none⟩ = some (.bool false) := cell_of T0.hg 5
  have t6 : W.cell? ⟨g, 6, none⟩ = some (.bool true) := cell_of T0.hg 6
  have t7 : W.cell? ⟨g, 7, none⟩ = some (.int .i64 rel) := cell_of T0.hg 7
  have t8 : W.cell? ⟨g, 8, none⟩ = some (.int .i64 got) := cell_of T0.hg 8
  have t9 : W.cell? ⟨g, 9, none⟩ = some (.bool false) := cell_of T0.hg 9
  have t10 : W.cell? ⟨g, 10, none⟩ = some (.int .i64 cnt) := cell_of T0.hg 10
  have hL := fun (X : World) (hX : Kept [] W X) => look_none Tryz.underlying229 Tryz.underlying3 (z := .bool false) (w := X) (by kernel_rfl) (hX.at b2 (by simp)) id false
  simp only [Bool.false_eq_true, if_false] at hL
  have kT : Kept [] W (W.alloc (.cells #[.int .i64 id, .int .i64 e, .int .i64 p, .bool false, .bool false, .bool false, .bool true, .int .i64 rel, .int .i64 got, .bool false, .int .i64 cnt] 143)) := (Kept.refl _ _).alloc _
  have hL1 := hL _ kT
  have st := Lib.hid (And.intro k0 (And.intro b0 (And.intro b1 (And.intro b2 T0))))
  clear k0 b0 b1 b2 T0 hA hh hs hL kT N
  refine wp_loop_rounds 2 ?_
  rw [rounds_succ]
  go_wp2_with fail
  refine (C _).mono ?_
  rintro e' w1 ⟨rfl, os, q, rfl⟩
  go_wp2_with fail
  refine (K _).mono ?_
  rintro e' w1 ⟨a, b, c, d, rfl, hk1⟩
  obtain ⟨k0, b0, b1, b2, T0⟩ := st.out
  obtain ⟨n1, n2, n3, n4, n5, n6, n7, n8, n9⟩ := ne.out
  have kW1 : Kept [] W w1 := Kept.trans (((Kept.refl [] W).alloc (.cells #[.int .i64 id, .int .i64 e, .int .i64 p, .bool false, .bool false, .bool false, .bool true, .int .i64 rel, .int .i64 got, .bool false, .int .i64 cnt] 143)).grow os q) hk1 (by simp) (by simp)
  have bt : w1.heap[W.heap.size]? = some (.cells (taskL id e p true rel got cnt []).toArray 143 (0, 0)) := by
    refine hk1.at ?_ (by simp)
    rw [heap_grow (by simp)]
    exact heap_alloc_new
  have a0 := kW1.at b0 (by simp)
  have a1 := kW1.at b1 (by simp)
  have a2 := kW1.at b2 (by simp)
  have T1 := T0.kept kW1 (by simp)
  have P := Put126 h A a b c d w1 a1 a0 n1
  have lsn := heap_lt b2
  have st1 := Lib.hid (And.intro kW1 (And.intro bt (And.intro a2 T1)))
  clear hk1 kW1 bt a0 a1 a2 T1 k0 b0 b1 b2 T0 n1 n2 n3 n4 n5 n6 n7 n8 n9 hL1 C K
  clear t0
  clear t1
  clear t2
  clear t3
  clear t4
  clear t5
  clear t6
  clear t7
  clear t8
  clear t9
  clear t10
  go_wp2_with fail
  refine P.mono ?_
  rintro e' w2 ⟨rfl, k2, g2, cap2, rest, hc2, hg2, h2, q2, A2⟩
  obtain ⟨k0, b0, b1, b2, T0⟩ := st.out
  obtain ⟨kW1, bt, a2, T1⟩ := st1.out
  obtain ⟨n1, n2, n3, n4, n5, n6, n7, n8, n9⟩ := ne.out
  have lW := heap_lt b1
  have lWA := heap_lt b0
  have lWg := heap_lt T0.hg
  have lsn' := heap_lt b2
  have bt2 := k2.at bt (by simp; omega)
  have sn2 := k2.at a2 (by simp; omega)
  have T2 := T1.kept k2 (by simp; omega)
  have c0 : w2.cell? ⟨W.heap.size, 0, none⟩ = some (.int .i64 id) := cell_of bt2 0
  have lbt := heap_lt bt2
  have hU := put_none Tryz.underlying229 Tryz.underlying3 sn2 id (.bool true)
  have g2s := kW1.size
  have z1 : sn ≠ h := by omega
  have z2 : sn ≠ A := by omega
  have z3 : sn ≠ g := by omega
  have z4 : sn ≠ g2 := by omega
  have h3 : (Go.ChangeMaps.setBlock w2 sn (.map #[{ key := .int .i64 id, val := .bool true, born := 0 }] (0 + 1))).heap[h]? = _ := (heap_setBlock_ne z1).trans h2
  have A3 : (Go.ChangeMaps.setBlock w2 sn (.map #[{ key := .int .i64 id, val := .bool true, born := 0 }] (0 + 1))).heap[A]? = _ := (heap_setBlock_ne z2).trans A2
  have q3 : (Go.ChangeMaps.setBlock w2 sn (.map #[{ key := .int .i64 id, val := .bool true, born := 0 }] (0 + 1))).heap[g2]? = _ := (heap_setBlock_ne z4).trans q2
  have g3 : (Go.ChangeMaps.setBlock w2 sn (.map #[{ key := .int .i64 id, val := .bool true, born := 0 }] (0 + 1))).heap[g]? = _ := (heap_setBlock_ne z3).trans T2.hg
  have k3 : Kept [] w (Go.ChangeMaps.setBlock w2 sn (.map #[{ key := .int .i64 id, val := .bool true, born := 0 }] (0 + 1))) := Kept.setBlock (Kept.trans (Kept.trans k0 kW1 (U := []) (by simp) (by simp)) k2 (by simp) (fun x hx => by simp at hx; omega)) sn _ (Or.inr n9)
  have D := Pop128 h g2 A cap2 0 1 a b c d rest _ hc2 h3 q3 A3 (by omega) n1 (by omega)
  have st2 := Lib.hid (And.intro k3 (And.intro g3 (show w.heap.size ≤ g2 ∧ g ≠ g2 by have := k0.size; omega)))
  clear k2 k3 h3 A3 q3 g3 h2 q2 A2 k0 b0 b1 b2 T0 kW1 bt a2 T1 n1 n2 n3 n4 n5 n6 n7 n8 n9 lW lWA lWg lsn' bt2 sn2 T2 g2s z1 z2 z3 z4 hg2 hc2 P
  generalize Go.ChangeMaps.setBlock w2 sn (.map #[{ key := .int .i64 id, val := .bool true, born := 0 }] (0 + 1)) = w3 at *
  go_wp2_with fail
  rw [rounds_succ]
  go_wp2_with fail
  refine wp_loop_rounds 2 ?_
  rw [rounds_succ]
  go_wp2_with fail
  refine D.mono ?_
  rintro e' w4 ⟨rfl, k4⟩
  obtain ⟨k3, g3, hg2, hgg⟩ := st2.out
  obtain ⟨n1, n2, n3, n4, n5, n6, n7, n8, n9⟩ := ne.out
  have g4 := k4.at g3 (by simp; omega)
  have c0 : w4.cell? ⟨g, 0, none⟩ = some (.int .i64 id) := cell_of g4 0
  have l4 := heap_lt g4
  have k5 : Kept [] w w4 := Kept.trans k3 k4 (by simp) (fun x hx => by simp at hx; omega)
  have st3 := Lib.hid k5
  obtain ⟨i0, hi, hz0, hz1, hz2⟩ := info_parts infoInt
  clear k3 g3 hg2 hgg n1 n2 n3 n4 n5 n6 n7 n8 n9 g4 k4 k5 D
  go_wp2_with (at_builtin; refine wpList_app rfl _ _ rfl Tryz.underlying83 hi hz0 hz1 hz2 rfl (by decide) _ _ _ rfl (Or.inl ⟨none, rfl, rfl, rfl⟩) (w4.heap.size + 1) 1 1 [.int .i64 id] rfl rfl ?c1 ?c2 (by decide) (by decide) (by decide) ?_)
  case c1 => intro j u hj; rw [cell_new' (by simp), ← hj]; simp
  case c2 => intro u hu; simp at hu; subst hu; rfl
  intro v' w5 hown hk hat
  obtain ⟨G, c', rfl, hc1, _, hcell, _, hlt⟩ := row_elem hown (by omega)
  have hG : w4.heap.size ≤ G := by
    rcases hat with ⟨hat, _⟩ | ⟨G', hat, hG⟩
    · cases hat
    · cases hat; simp at hG; omega
  have st4 := Lib.hid (And.intro hG (And.intro hlt (And.intro (hcell 0 (by omega)) (Kept.trans (((Kept.refl [] w4).alloc _).alloc _) hk (U := []) (by simp) (by simp [own])))))
  clear hown hk hat hc1 hcell hlt hG
  go_wp2_with fail
  rw [rounds_succ]
  go_wp2_with fail
  go_returns
  obtain ⟨hG, hlt, hcell, hk⟩ := st4.out
  have := st3.out.1
  exact ⟨G, c', rfl, by omega, hlt, hcell, Kept.trans st3.out hk (by simp) (by simp)⟩
set_option maxHeartbeats 2000000 in
theorem Best86_no (g cap : Nat) (id e p rel got cnt : Int) (cur : List Value) (clock : Int) (early : Bool) (w : World) (hT : OneTask w g id e p rel got cnt cur) (hcap : 1 ≤ cap)
    (C : ∀ W, Calls Tryz.prog 125 #[taskV id e p true rel got cnt, .int .i64 clock, .bool early] W fun e' w' => e' = .returned (.bool false) ∧ ∃ os q, Go.Proofs.YtgfbfklnhmndfaaGreat.grow W os q = w') :
    Calls Tryz.prog 86 #[.slice (some ⟨g, 0, none⟩) 1 cap, .int .i64 clock, .int .i64 1, .bool early] w fun e' w' => e' = .returned (.slice none 0 0) ∧ Kept [] w w' := by
  have N := New124 w
  have hM := fun w => run_makeMap (P := Tryz.prog) 229 w
  have lg := heap_lt hT.hg
  go_enter Tryz.func86, Tryz.ntmps86
  go_wp2_with fail
  refine N.mono ?_
  rintro e' w1 ⟨rfl, rfl⟩
  go_wp2_with fail
  have k0 : Kept [] w (((w.alloc (.map #[] 0)).alloc (.cells #[.int .i64 1, .slice none 0 0, .map (some w.heap.size)] 274)).alloc (.map #[] 0)) := (((Kept.refl [] w).alloc _).alloc _).alloc _
  have b0 : (((w.alloc (.map #[] 0)).alloc (.cells #[.int .i64 1, .slice none 0 0, .map (some w.heap.size)] 274)).alloc (.map #[] 0)).heap[w.heap.size]? = some (.map #[] 0) := (heap_alloc (by simp; omega)).trans ((heap_alloc (by simp)).trans heap_alloc_new)
  have b1 : (((w.alloc (.map #[] 0)).alloc (.cells #[.int .i64 1, .slice none 0 0, .map (some w.heap.size)] 274)).alloc (.map #[] 0)).heap[w.heap.size + 1]? = some (.cells #[.int .i64 1, .slice none 0 0, .map (some w.heap.size)] 274 (0, 0)) := (heap_alloc (by simp)).trans (heap_alloc_two _ _ _)
  have b2 : (((w.alloc (.map #[] 0)).alloc (.cells #[.int .i64 1, .slice none 0 0, .map (some w.heap.size)] 274)).alloc (.map #[] 0)).heap[w.heap.size + 2]? = some (.map #[] 0) := by
    have := heap_alloc_two (w.alloc (.map #[] 0)) (.cells #[.int .i64 1, .slice none 0 0, .map (some w.heap.size)] 274) (.map #[] 0)
    rw [World.size_alloc] at this
    exact this
  have T0 := hT.kept k0 (by simp)
  generalize (((w.alloc (.map #[] 0)).alloc (.cells #[.int .i64 1, .slice none 0 0, .map (some w.heap.size)] 274)).alloc (.map #[] 0)) = W at *
  obtain ⟨A, hA⟩ : ∃ A, w.heap.size = A := ⟨_, rfl⟩
  obtain ⟨h, hh⟩ : ∃ h, w.heap.size + 1 = h := ⟨_, rfl⟩
  obtain ⟨sn, hs⟩ : ∃ sn, w.heap.size + 2 = sn := ⟨_, rfl⟩
  rw [hs] at b2 ⊢
  rw [hh] at b1 ⊢
  rw [hA] at b0 b1
  have ne : Hid (h ≠ A ∧ h ≠ sn ∧ A ≠ sn ∧ g ≠ A ∧ g ≠ h ∧ g ≠ sn ∧ w.heap.size ≤ A ∧ w.heap.size ≤ h ∧ w.heap.size ≤ sn) := Lib.hid (by omega)
  have hl := heap_lt T0.hg
  have t0 : W.cell? ⟨g, 0, none⟩ = some (.int .i64 id) := cell_of T0.hg 0
  have t1 : W.cell? ⟨g, 1, none⟩ = some (.int .i64 e) := cell_of T0.hg 1
  have t2 : W.cell? ⟨g, 2, none⟩ = some (.int .i64 p) := cell_of T0.hg 2
  have t3 : W.cell? ⟨g, 3, none⟩ = some (.bool false) := cell_of T0.hg 3
  have t4 : W.cell? ⟨g, 4, none⟩ = some (.bool false) := cell_of T0.hg 4
  have t5 : W.cell? ⟨g, 5, none⟩ = some (.bool false) := cell_of T0.hg 5
  have t6 : W.cell? ⟨g, 6, none⟩ = some (.bool true) := cell_of T0.hg 6
  have t7 : W.cell? ⟨g, 7, none⟩ = some (.int .i64 rel) := cell_of T0.hg 7
  have t8 : W.cell? ⟨g, 8, none⟩ = some (.int .i64 got) := cell_of T0.hg 8
  have t9 : W.cell? ⟨g, 9, none⟩ = some (.bool false) := cell_of T0.hg 9
  have t10 : W.cell? ⟨g, 10, none⟩ = some (.int .i64 cnt) := cell_of T0.hg 10
  have hL := fun (X : World) (hX : Kept [] W X) => look_none Tryz.underlying229 Tryz.underlying3 (z := .bool false) (w := X) (by kernel_rfl) (hX.at b2 (by simp)) id false
  simp only [Bool.false_eq_true, if_false] at hL
  have kT : Kept [] W (W.alloc (.cells #[.int .i64 id, .int .i64 e, .int .i64 p, .bool false, .bool false, .bool false, .bool true, .int .i64 rel, .int .i64 got, .bool false, .int .i64 cnt] 143)) := (Kept.refl _ _).alloc _
  have hL1 := hL _ kT
  have st := Lib.hid (And.intro k0 (And.intro b0 (And.intro b1 (And.intro b2 T0))))
  clear k0 b0 b1 b2 T0 hA hh hs hL kT N
  refine wp_loop_rounds 2 ?_
  rw [rounds_succ]
  go_wp2_with fail
  refine (C _).mono ?_
  rintro e' w1 ⟨rfl, os, q, rfl⟩
  obtain ⟨k0, b0, b1, b2, T0⟩ := st.out
  obtain ⟨n1, n2, n3, n4, n5, n6, n7, n8, n9⟩ := ne.out
  have kW1 : Kept [] W (Go.Proofs.YtgfbfklnhmndfaaGreat.grow (W.alloc (.cells #[.int .i64 id, .int .i64 e, .int .i64 p, .bool false, .bool false, .bool false, .bool true, .int .i64 rel, .int .i64 got, .bool false, .int .i64 cnt] 143)) os q) := ((Kept.refl [] W).alloc _).grow os q
  have bt : (Go.Proofs.YtgfbfklnhmndfaaGreat.grow (W.alloc (.cells #[.int .i64 id, .int .i64 e, .int .i64 p, .bool false, .bool false, .bool false, .bool true, .int .i64 rel, .int .i64 got, .bool false, .int .i64 cnt] 143)) os q).heap[W.heap.size]? = some (.cells (taskL id e p true rel got cnt []).toArray 143 (0, 0)) := by
    rw [heap_grow (by simp)]
    exact heap_alloc_new
  generalize Go.Proofs.YtgfbfklnhmndfaaGreat.grow (W.alloc (.cells #[.int .i64 id, .int .i64 e, .int .i64 p, .bool false, .bool false, .bool false, .bool true, .int .i64 rel, .int .i64 got, .bool false, .int .i64 cnt] 143)) os q = w2 at *
  have h2 := kW1.at b1 (by simp)
  have sn2 := kW1.at b2 (by simp)
  have c0 : w2.cell? ⟨W.heap.size, 0, none⟩ = some (.int .i64 id) := cell_of bt 0
  have lbt := heap_lt bt
  have lsn := heap_lt b2
  have hU := put_none Tryz.underlying229 Tryz.underlying3 sn2 id (.bool true)
  have z1 : sn ≠ h := by omega
  have h3 : (Go.ChangeMaps.setBlock w2 sn (.map #[{ key := .int .i64 id, val := .bool true, born := 0 }] (0 + 1))).heap[h]? = _ := (heap_setBlock_ne z1).trans h2
  have k3 : Kept [] w (Go.ChangeMaps.setBlock w2 sn (.map #[{ key := .int .i64 id, val := .bool true, born := 0 }] (0 + 1))) := Kept.setBlock (Kept.trans k0 kW1 (U := []) (by simp) (by simp)) sn _ (Or.inr n9)
  have D := Pop128_none h A none 0 _ h3
  have st2 := Lib.hid k3
  clear k3 h3 h2 k0 b0 b1 b2 T0 kW1 bt n1 n2 n3 n4 n5 n6 n7 n8 n9 sn2 z1 hL1 C
  clear t0
  clear t1
  clear t2
  clear t3
  clear t4
  clear t5
  clear t6
  clear t7
  clear t8
  clear t9
  clear t10
  generalize Go.ChangeMaps.setBlock w2 sn (.map #[{ key := .int .i64 id, val := .bool true, born := 0 }] (0 + 1)) = w3 at *
  go_wp2_with fail
  rw [rounds_succ]
  go_wp2_with fail
  refine wp_loop_rounds 2 ?_
  rw [rounds_succ]
  go_wp2_with fail
  refine D.mono ?_
  rintro e' w4 ⟨rfl, k4⟩
  have st3 := Lib.hid (Kept.trans st2.out k4 (U := []) (by simp) (by simp))
  clear k4 D
  go_wp2_with fail
  go_returns
  exact ⟨rfl, st3.out.alloc _⟩
end
end Go.Proofs.YtgfbfklnhmndfaaGreat
