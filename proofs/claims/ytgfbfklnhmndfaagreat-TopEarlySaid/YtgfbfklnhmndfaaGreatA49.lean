/- The parts of the top that the law of early release walks through: part 49 of 52. -/
import Derived.Test.YtgfbfklnhmndfaaGreatA1
import Derived.Test.YtgfbfklnhmndfaaGreatA3
import Derived.Test.YtgfbfklnhmndfaaGreatA4
import Derived.Test.YtgfbfklnhmndfaaGreatA9
import Derived.Test.YtgfbfklnhmndfaaGreatA10
import Derived.Test.YtgfbfklnhmndfaaGreatA11
import Derived.Test.YtgfbfklnhmndfaaGreatA12
import Derived.Test.YtgfbfklnhmndfaaGreatA13
import Derived.Test.YtgfbfklnhmndfaaGreatA15
import Derived.Test.YtgfbfklnhmndfaaGreatA16
import Derived.Test.YtgfbfklnhmndfaaGreatA20
import Derived.Test.YtgfbfklnhmndfaaGreatA21
import Derived.Test.YtgfbfklnhmndfaaGreatA22
import Derived.Test.YtgfbfklnhmndfaaGreatA23
import Derived.Test.YtgfbfklnhmndfaaGreatA24
import Derived.Test.YtgfbfklnhmndfaaGreatA29
import Derived.Test.YtgfbfklnhmndfaaGreatA30
import Derived.Test.YtgfbfklnhmndfaaGreatA31
import Derived.Test.YtgfbfklnhmndfaaGreatA32
import Derived.Test.YtgfbfklnhmndfaaGreatA33
import Derived.Test.YtgfbfklnhmndfaaGreatA34
import Derived.Test.YtgfbfklnhmndfaaGreatA35
import Derived.Test.YtgfbfklnhmndfaaGreatA36
import Derived.Test.YtgfbfklnhmndfaaGreatA37
import Derived.Test.YtgfbfklnhmndfaaGreatA41
import Derived.Test.YtgfbfklnhmndfaaGreatA42
import Derived.Test.YtgfbfklnhmndfaaGreatA47
import Derived.Test.YtgfbfklnhmndfaaGreatA48
namespace Go.Proofs.YtgfbfklnhmndfaaGreat
open Go.RowKit
set_option linter.unusedSimpArgs false
set_option linter.unusedVariables false
section
attribute [local go_sem ↓] setCell_drewN alloc_drewN grow_cell grow_frozen setCell_grow grow_size cell_alloc_grow frozen_alloc_grow setCell_alloc_grow cell_grow_alloc_grow frozen_grow_alloc_grow setCell_grow_alloc_grow grow_grow
attribute [local go_sem] lt_len size_setCell
set_option maxHeartbeats 4000000 in
theorem Slot56_row {w : World} {j s M L n : Nat} {id e p : Int} {rel got cnt : Int} {rest : List Value} (h : JobsAt w j s M L n id e p true rel got cnt rest) (q sp N T : Nat) (early : Bool) (hQ : QuantAt w q sp N T early id) (hMT : M ≠ T) (clock : Int) (hge : got ≠ e) (hg0 : 0 ≤ got) (hg1 : got < 2147483648) (hc0 : 0 ≤ clock) (hc1 : clock < 2147483648)
    (C : ∀ W, Calls Tryz.prog 125 #[taskV id e p true rel got cnt, .int .i64 clock, .bool early] W (RetG (.bool true) W))
    (K : ∀ W, Calls Tryz.prog 127 #[taskV id e p true rel got cnt] W fun e' w' => ∃ a b c d : Int, e' = .returned (.agg #[.int .i64 a, .int .i64 b, .int .i64 c, .int .i64 d]) ∧ Kept [] W w') :
    Calls Tryz.prog 56 #[.pointer (some ⟨q, 0, none⟩), .pointer (some ⟨j, 0, none⟩), .int .i64 clock] w fun e' w' => ∃ G cap cur, e' = .returned (.slice (some ⟨G, 0, none⟩) 1 cap) ∧ w'.ownsRow 0 53 8 (.slice (some ⟨G, 0, none⟩) 1 cap) 1 (pieceL 1 0 id clock 1 (clock + 1) 1 false []) ∧ 1 ≤ cap ∧ w.heap.size ≤ G ∧ w'.heap[G]? = some (.cells (pieceL 1 0 id clock 1 (clock + 1) 1 false cur).toArray 53 (0, 0)) ∧ Kept [L, sp, T] w w' ∧
      w'.heap[L]? = some (.cells (taskL id e p true rel (got + 1) cnt rest).toArray 143 (0, 0)) ∧ ∃ N', w.heap.size ≤ N' ∧ QuantAt w' q sp N' T early id := by
  have hqs : q ≠ sp := heap_ne hQ.hq hQ.hs (by simp)
  have hjs : j ≠ sp := heap_ne h.hj hQ.hs (by simp)
  have hjL : j ≠ L := heap_ne h.hj h.hL (by simp)
  have hqL : q ≠ L := heap_ne hQ.hq h.hL (by simp)
  have hsL : sp ≠ L := heap_ne hQ.hs h.hL (by simp)
  have hne : Hid (q ≠ sp ∧ j ≠ sp ∧ j ≠ L ∧ q ≠ L ∧ sp ≠ L ∧ M ≠ T ∧ got ≠ e ∧ 0 ≤ got ∧ got < 2147483648) := Lib.hid ⟨hqs, hjs, hjL, hqL, hsL, hMT, hge, hg0, hg1⟩
  have c0 : w.cell? ⟨q, 0, none⟩ = some (.int .i64 1) := cell_of hQ.hq 0
  have hw : IntKind.i64.wrap (clock + 1) = clock + 1 := IntWalk.i64_in _ (by omega)
  replace hQ := Lib.hid hQ
  replace h := Lib.hid h
  replace C := Lib.hid C
  replace K := Lib.hid K
  clear hqs hjs hjL hqL hsL hMT hge hg0 hg1 hc0 hc1 c0
  go_enter Tryz.func56, Tryz.ntmps56
  go_wp2_with fail
  refine bornA 21 11 (slotY j q id e p rel got cnt clock early) (by kernel_rfl) (by kernel_rfl) (by kernel_rfl) ?_ ?_ ?_
  · intro i v lo hi w w' hY hw
    unfold slotY at *
    split at hY
    · exact hY
    · obtain ⟨g, cap, cur, h1, h2, h3, h4, h5⟩ := hY
      exact ⟨g, cap, cur, h1, h2, h3, h4, by rw [hw g h1 h2]; exact h5⟩
    all_goals first | exact hY | trivial
  · intro i hi o ho a W hr hd hk
    have c0 : W.cell? ⟨q, 0, none⟩ = some (.int .i64 1) := cell_of (hk.at hQ.out.hq (by simp)) 0
    have c1 : W.cell? ⟨q, 1, none⟩ = some (.bool early) := cell_of (hk.at hQ.out.hq (by simp)) 1
    have lq := heap_lt (hk.at hQ.out.hq (by simp))
    rcases i with _ | _ | _ | _ | _ | _ | _ | _ | _ | _ | _ | i
    · cases ho
      have h0 : a.tmps.getD 1 undef = .pointer (some ⟨j, 0, none⟩) := hr 1 (by kernel_rfl)
      clear hr hd hk
      exact born_value _ (by go_simp; try rfl) rfl
    · cases ho
      obtain ⟨_, _, h8⟩ := hd 0 21 (by kernel_rfl) (by kernel_rfl)
      have h8 : a.tmps.getD 21 undef = .pointer (some ⟨j, 0, none⟩) := h8
      have A := All85 (h.out.kept0 hk)
      clear hr hd hk
      refine Or.inr ⟨_, _, W, by go_simp; first | done | rfl | exact ⟨rfl, rfl⟩, A.mono ?_⟩
      rintro e' w' ⟨g, cap, cur, rfl, hg, hgt, hcap, hk⟩
      exact ⟨_, rfl, hk, g, cap, cur, hg, heap_lt hgt, rfl, hcap, hgt⟩
    · cases ho
      have h0 : a.tmps.getD 2 undef = .int .i64 clock := hr 2 (by kernel_rfl)
      clear hr hd hk
      exact born_value _ (by go_simp; try rfl) rfl
    · cases ho
      have h0 : a.tmps.getD 0 undef = .pointer (some ⟨q, 0, none⟩) := hr 0 (by kernel_rfl)
      clear hr hd hk
      exact born_value _ (by go_simp; try rfl) rfl
    · cases ho
      obtain ⟨_, _, h8⟩ := hd 3 24 (by kernel_rfl) (by kernel_rfl)
      have h8 : a.tmps.getD 24 undef = .pointer (some ⟨q, 0, none⟩) := h8
      clear hr hd hk
      exact born_value _ (by go_simp; try rfl) rfl
    · cases ho
      obtain ⟨_, _, h8⟩ := hd 4 25 (by kernel_rfl) (by kernel_rfl)
      have h8 : a.tmps.getD 25 undef = .pointer (some ⟨q, 0, none⟩) := h8
      clear hr hd hk
      exact born_value _ (by go_simp; try rfl) rfl
    · cases ho
      obtain ⟨_, _, h8⟩ := hd 5 26 (by kernel_rfl) (by kernel_rfl)
      have h8 : a.tmps.getD 26 undef = .pointer (some ⟨q, 0, none⟩) := h8
      clear hr hd hk
      exact born_value _ (by go_simp; try rfl) rfl
    · cases ho
      have h0 : a.tmps.getD 0 undef = .pointer (some ⟨q, 0, none⟩) := hr 0 (by kernel_rfl)
      clear hr hd hk
      exact born_value _ (by go_simp; try rfl) rfl
    · cases ho
      obtain ⟨_, _, h8⟩ := hd 7 28 (by kernel_rfl) (by kernel_rfl)
      have h8 : a.tmps.getD 28 undef = .pointer (some ⟨q, 0, none⟩) := h8
      clear hr hd hk
      exact born_value _ (by go_simp; try rfl) rfl
    · cases ho
      obtain ⟨_, _, h8⟩ := hd 8 29 (by kernel_rfl) (by kernel_rfl)
      have h8 : a.tmps.getD 29 undef = .pointer (some ⟨q, 0, none⟩) := h8
      clear hr hd hk
      exact born_value _ (by go_simp; try rfl) rfl
    · cases ho
      obtain ⟨_, _, h8⟩ := hd 9 30 (by kernel_rfl) (by kernel_rfl)
      have h8 : a.tmps.getD 30 undef = .pointer (some ⟨q, 1, none⟩) := h8
      clear hr hd hk
      exact born_value _ (by go_simp; try rfl) rfl
    · omega
  · intro vs lo hi W hK h1 h2
    have y0 := (h1 0 (by omega)).2.2.2
    have y1 := h1 1 (by omega)
    have y2 := (h1 2 (by omega)).2.2.2
    have y3 := (h1 3 (by omega)).2.2.2
    have y4 := (h1 4 (by omega)).2.2.2
    have y5 := (h1 5 (by omega)).2.2.2
    have y6 := (h1 6 (by omega)).2.2.2
    have y7 := (h1 7 (by omega)).2.2.2
    have y8 := (h1 8 (by omega)).2.2.2
    have y9 := (h1 9 (by omega)).2.2.2
    have y10 := (h1 10 (by omega)).2.2.2
    obtain ⟨z1, z2, z3, g, cap, cur, z4, z5, y1, z6, z7⟩ := y1
    have y0 : vs 0 = .pointer (some ⟨j, 0, none⟩) := y0
    have y2 : vs 2 = .int .i64 clock := y2
    have y3 : vs 3 = .pointer (some ⟨q, 0, none⟩) := y3
    have y4 : vs 4 = .pointer (some ⟨q, 0, none⟩) := y4
    have y5 : vs 5 = .pointer (some ⟨q, 0, none⟩) := y5
    have y6 : vs 6 = .int .i64 1 := y6
    have y7 : vs 7 = .pointer (some ⟨q, 0, none⟩) := y7
    have y8 : vs 8 = .pointer (some ⟨q, 0, none⟩) := y8
    have y9 : vs 9 = .pointer (some ⟨q, 1, none⟩) := y9
    have y10 : vs 10 = .bool early := y10
    simp only [fillA, Nat.reduceAdd, List.setIfInBounds_toArray, List.set_cons_succ, List.set_cons_zero]
    rw [y0, y1, y2, y3, y4, y5, y6, y7, y8, y9, y10]
    show wpAny _ _ _ _ 2 _ _ _
    have hgw : w.heap.size ≤ g := Nat.le_trans z1 z4
    have B := Best86_yes g cap id e p rel got cnt cur clock early W ⟨z7, h.out.hid⟩ z6 C.out K.out
    have st := Lib.hid (And.intro hK (And.intro z7 hgw))
    clear y0 y1 y2 y3 y4 y5 y6 y7 y8 y9 y10 h1 h2 z1 z2 z3 z4 z5 z6 z7 hK hgw
    refine aCall (i := 11) rfl (by kernel_rfl) (by rfl) (by go_simp; first | done | rfl | exact ⟨rfl, rfl⟩) (B.mono ?_)
    rintro e' w1 ⟨G, c', rfl, b1, b2, b3, b4⟩
    refine ⟨_, rfl, ?_⟩
    try simp only [Act.put, zA, zB, zC]
    refine aVal (i := 12) (v := ?_) rfl (by kernel_rfl) (by rfl) ?_ ?_
    rotate_left 1
    · go_simp; all_goals with_reducible rfl
    try simp only [Act.put, zA, zB, zC]
    refine wpAny_done (by kernel_rfl) ?_ _
    obtain ⟨hK, z7, hgw⟩ := st.out
    obtain ⟨e1, e2, e3, e4, e5, e6, e7, e8, e9⟩ := hne.out
    have k1 : Kept [] w w1 := Kept.trans hK b4 (by simp) (by simp)
    have Q1 := hQ.out.kept k1 (by simp) (by simp) (by simp) (by simp)
    have J1 := h.out.kept0 k1
    have lW := hK.1
    have ls := heap_lt hQ.out.hs
    have lj := heap_lt h.out.hj
    have hGn : G ≠ sp := by omega
    have Si := Sit87_one sp N T G c' id w1 Q1.hs Q1.hN Q1.hL b3 b2 hGn
    have q2 : w1.cell? ⟨q, 2, none⟩ = some (.pointer (some ⟨sp, 0, none⟩)) := cell_of Q1.hq 2
    have lq := heap_lt Q1.hq
    have hG : w.heap.size ≤ G := by omega
    replace st := Lib.hid (And.intro k1 (And.intro Q1 (And.intro J1 (And.intro b3 (And.intro b2 hG)))))
    clear hK z7 hgw e1 e2 e3 e4 e5 e6 e7 e8 e9 k1 Q1 J1 lW ls lj hGn b1 b2 b3 b4 B hG
    go_wp2_with fail
    refine Si.mono ?_
    rintro e' w2 ⟨G2, c2, rfl, s1, s2, s4, s5, N2, s6⟩
    obtain ⟨k1, Q1, J1, b3, b2, hG⟩ := st.out
    obtain ⟨e1, e2, e3, e4, e5, e6, e7, e8, e9⟩ := hne.out
    obtain ⟨xa, xb, xd, js⟩ := J1.hs
    obtain ⟨xe, xc, xt, xh⟩ := Q1.hL
    have n1 : s ≠ sp := heap_ne js Q1.hs (by simp)
    have n2 : M ≠ sp := heap_ne J1.hM Q1.hs (by simp)
    have n3 : j ≠ T := heap_ne J1.hj xt (by simp)
    have n4 : s ≠ T := heap_ne js xt (by simp)
    have n5 : L ≠ T := heap_ne J1.hL xt (by simp)
    have n6 : q ≠ T := heap_ne Q1.hq xt (by simp)
    have l0 := heap_lt h.out.hj
    have l1 := heap_lt hQ.out.hs
    have l2 := hQ.out.hL.lt
    have l3 := heap_lt h.out.hL
    have J2 := J1.kept s5 (by simp [e2, n3]) (by simp [n1, n4]) (by simp [n2, e6]) (by simp [Ne.symm e5, n5])
    have hGw : w2.cell? ⟨G, 0, none⟩ = some (.int .i64 id) := (World.cell?_of_block (a := ⟨G, 0, none⟩) (s5.2 G b2 (by simp; omega))).trans b3
    have lGw := s5.lt b2
    have Tk := Task50 J2
    have k2 : Kept [sp, T] w w2 := Kept.trans k1 s5 (by simp) (fun x hx => Or.inl hx)
    have Q2 : QuantAt w2 q sp N2 T early id := ⟨s5.at Q1.hq (by simp [e1, n6]), s6.2.1, s6.2.2.1, s6.2.2.2⟩
    have hc := s6.1
    replace st := Lib.hid (And.intro k2 (And.intro Q2 (And.intro J2 (And.intro s1 (And.intro s4 (And.intro (show w.heap.size ≤ G2 ∧ w.heap.size ≤ N2 by have := k1.1; omega) (And.intro n5 (And.intro n3 (And.intro n4 n6)))))))))
    clear k1 Q1 J1 b3 b2 hG e1 e2 e3 e4 e5 e6 e7 e8 e9 js xt xh n1 n2 n3 n4 n5 n6 l0 l1 l2 l3 J2 k2 Q2 hc s1 s2 s4 s5 s6 Si
    go_wp2_with fail
    refine wp_loop_rounds 2 ?_
    rw [rounds_succ]
    go_wp2_with fail
    refine Tk.mono ?_
    rintro e' w3 ⟨rfl, k3⟩
    obtain ⟨k2, Q2, J2, s1, s4, ⟨m1, m2⟩, m3, m4, m5, m6⟩ := st.out
    obtain ⟨e1, e2, e3, e4, e5, e6, e7, e8, e9⟩ := hne.out
    have k3a : Kept [] w2 (w3.alloc (.cells #[.int .i64 id, .int .i64 e, .int .i64 p, .bool false, .bool false, .bool false, .bool true, .int .i64 rel, .int .i64 got, .bool false, .int .i64 cnt] 143)) := k3.alloc _
    have Gi := Give88 (J2.kept0 k3a) e7 e8 e9
    have tb : (w3.alloc (.cells #[.int .i64 id, .int .i64 e, .int .i64 p, .bool false, .bool false, .bool false, .bool true, .int .i64 rel, .int .i64 got, .bool false, .int .i64 cnt] 143)).heap[w3.heap.size]? = some (.cells #[.int .i64 id, .int .i64 e, .int .i64 p, .bool false, .bool false, .bool false, .bool true, .int .i64 rel, .int .i64 got, .bool false, .int .i64 cnt] 143) := heap_alloc_new
    replace st := Lib.hid (And.intro (Kept.trans k2 k3a (U := [sp, T]) (by simp) (by simp)) (And.intro (Q2.kept k3a (by simp) (by simp) (by simp) (by simp)) (And.intro (J2.kept0 k3a) (And.intro ((World.cell?_of_block (a := ⟨G2, 0, none⟩) (k3a.2 G2 s4 (by simp))).trans s1) (And.intro (k3a.lt s4) (And.intro (And.intro m1 m2) (And.intro m3 (And.intro m4 (And.intro m5 (And.intro m6 tb))))))))))
    clear k2 Q2 J2 s1 s4 m1 m2 m3 m4 m5 m6 e1 e2 e3 e4 e5 e6 e7 e8 e9 k3 k3a tb Tk hGw lGw
    go_wp2_with fail
    refine Gi.mono ?_
    rintro e' w4 ⟨rfl, k4, hL4⟩
    obtain ⟨k3, Q3, J3, s1, s4, ⟨m1, m2⟩, m3, m4, m5, m6, tb⟩ := st.out
    obtain ⟨e1, e2, e3, e4, e5, e6, e7, e8, e9⟩ := hne.out
    have l3 := heap_lt h.out.hL
    have lw3 : w.heap.size ≤ w3.heap.size := by have := k3.1; have := heap_lt J3.hL; simp at *; omega
    have kw4 : Kept [L, sp, T] w w4 := Kept.trans k3 k4 (fun x hx => by simp at hx ⊢; omega) (fun x hx => Or.inl (by simp at hx ⊢; omega))
    have Q4 : QuantAt w4 q sp N2 T early id := Q3.kept k4 (by simp; omega) (by simp; omega) (by simp; omega) (by simp; omega)
    have tb4 := k4.at tb (by simp; omega)
    have t9 : w4.cell? ⟨w3.heap.size, 9, none⟩ = some (.bool false) := cell_of tb4 9
    have lt9 := heap_lt tb4
    have g2 : w4.cell? ⟨G2, 0, none⟩ = some (.int .i64 0) := (World.cell?_of_block (a := ⟨G2, 0, none⟩) (k4.2 G2 s4 (by simp; omega))).trans s1
    have lg2 := k4.lt s4
    have lG4 : w.heap.size ≤ w4.heap.size := kw4.1
    obtain ⟨i0, hi, hz0, hz1, hby⟩ := info_of infoPiece
    have H1 := fun w => whole89 clock w
    have H2 := fun w => whole89 (clock + 1) w
    replace st := Lib.hid (And.intro kw4 (And.intro Q4 (And.intro hL4 (And.intro m2 lG4))))
    clear k3 Q3 J3 s1 s4 m1 m2 m3 m4 m5 m6 tb e1 e2 e3 e4 e5 e6 e7 e8 e9 l3 lw3 kw4 Q4 tb4 k4 hL4 lG4 Gi
    go_wp2_with fail
    refine wp_region_any (by kernel_rfl) ?_
    rw [List.size_toArray]
    refine yTake (i := 0) rfl (by kernel_rfl) (fun _ _ _ h => h) (by rfl) (fun _ => by go_simp; first | done | rfl) ?_
    try simp only [Act.put, zA, zB, zC]
    refine wpAnyS_any (S := fun X => ∃ os q, grow w4 os q = X) (k := 14) _ _ _ ?_ _ (gr_drew (gr_refl _))
    refine sTake (i := 1) (v := ?_) rfl (by kernel_rfl) (fun _ _ _ h => h) (gLoad (by rfl) ?_) ?_
    rotate_left 1
    · intro W hW; (try dsimp only at hW); obtain ⟨os', q', hW'⟩ := hW; subst hW'; go_simp; all_goals with_reducible rfl
    try simp only [Act.put, zA, zB, zC]
    refine sTake (i := 2) (v := ?_) rfl (by kernel_rfl) (fun _ _ _ h => h) (gLoad (by rfl) ?_) ?_
    rotate_left 1
    · intro W hW; (try dsimp only at hW); obtain ⟨os', q', hW'⟩ := hW; subst hW'; go_simp; all_goals with_reducible rfl
    try simp only [Act.put, zA, zB, zC]
    refine sTake (i := 3) (v := ?_) rfl (by kernel_rfl) (fun _ _ _ h => h) (gLoad (by rfl) ?_) ?_
    rotate_left 1
    · intro W hW; (try dsimp only at hW); obtain ⟨os', q', hW'⟩ := hW; subst hW'; go_simp; all_goals with_reducible rfl
    try simp only [Act.put, zA, zB, zC]
    refine sTake (i := 4) (v := ?_) rfl (by kernel_rfl) (fun _ _ _ h => h) (gLoad (by rfl) ?_) ?_
    rotate_left 1
    · intro W hW; (try dsimp only at hW); obtain ⟨os', q', hW'⟩ := hW; subst hW'; go_simp; all_goals with_reducible rfl
    try simp only [Act.put, zA, zB, zC]
    refine sTake (i := 5) (v := ?_) rfl (by kernel_rfl) (fun _ _ _ h => h) (gLoad (by rfl) ?_) ?_
    rotate_left 1
    · intro W hW; (try dsimp only at hW); obtain ⟨os', q', hW'⟩ := hW; subst hW'; go_simp; all_goals with_reducible rfl
    try simp only [Act.put, zA, zB, zC]
    refine sTake (i := 6) (v := ?_) rfl (by kernel_rfl) (fun _ _ _ h => h) (gLoad (by rfl) ?_) ?_
    rotate_left 1
    · intro W hW; (try dsimp only at hW); obtain ⟨os', q', hW'⟩ := hW; subst hW'; go_simp; all_goals with_reducible rfl
    try simp only [Act.put, zA, zB, zC]
    refine sTake (i := 7) rfl (by kernel_rfl) (fun _ _ _ h => h) (gCall (by rfl) ?_ (fun W hW => RetG.into H1 hW)) ?_
    · intro W hW; go_simp; all_goals with_reducible rfl
    try simp only [Act.put, zA, zB, zC]
    refine sTake (i := 8) (v := ?_) rfl (by kernel_rfl) (fun _ _ _ h => h) (gLoad (by rfl) ?_) ?_
    rotate_left 1
    · intro W hW; (try dsimp only at hW); obtain ⟨os', q', hW'⟩ := hW; subst hW'; go_simp; all_goals with_reducible rfl
    try simp only [Act.put, zA, zB, zC]
    refine sTake (i := 9) (v := ?_) rfl (by kernel_rfl) (fun _ _ _ h => h) (gLoad (by rfl) ?_) ?_
    rotate_left 1
    · intro W hW; (try dsimp only at hW); obtain ⟨os', q', hW'⟩ := hW; subst hW'; go_simp; all_goals with_reducible rfl
    try simp only [Act.put, zA, zB, zC]
    refine sTake (i := 10) rfl (by kernel_rfl) (fun _ _ _ h => h) (gCall (by rfl) ?_ (fun W hW => RetG.into H2 hW)) ?_
    · intro W hW; go_simp; all_goals with_reducible rfl
    try simp only [Act.put, zA, zB, zC]
    refine sTake (i := 11) (v := ?_) rfl (by kernel_rfl) (fun _ _ _ h => h) (gLoad (by rfl) ?_) ?_
    rotate_left 1
    · intro W hW; (try dsimp only at hW); obtain ⟨os', q', hW'⟩ := hW; subst hW'; go_simp; all_goals with_reducible rfl
    try simp only [Act.put, zA, zB, zC]
    refine sTake (i := 12) (v := ?_) rfl (by kernel_rfl) (fun _ _ _ h => h) (gLoad (by rfl) ?_) ?_
    rotate_left 1
    · intro W hW; (try dsimp only at hW); obtain ⟨os', q', hW'⟩ := hW; subst hW'; go_simp; all_goals with_reducible rfl
    try simp only [Act.put, zA, zB, zC]
    refine sTake (i := 13) (v := ?_) rfl (by kernel_rfl) (fun _ _ _ h => h) (gLoad (by rfl) ?_) ?_
    rotate_left 1
    · intro W hW; (try dsimp only at hW); obtain ⟨os', q', hW'⟩ := hW; subst hW'; go_simp; all_goals with_reducible rfl
    try simp only [Act.put, zA, zB, zC]
    refine sRest (by kernel_rfl) ?_
    intro X hX
    obtain ⟨os3, q3, rfl⟩ := hX
    generalize hX : Go.Proofs.YtgfbfklnhmndfaaGreat.grow w4 os3 q3 = X
    refine aValW (i := 14) (v := .slice (some ⟨X.heap.size, 0, none⟩) 1 1) (w' := X.alloc (.cells #[.int .i64 1, .int .i64 0, .int .i64 id, .int .i64 clock, .int .i64 1, .int .i64 (clock + 1), .int .i64 1, .bool false] 53)) rfl (by kernel_rfl) (by rfl) (by kernel_rfl) ?_
    try simp only [Act.put, zA, zB, zC]
    obtain ⟨v', w5, hr, hown, hk5, hat⟩ := app_run Tryz.underlying32 hi hz0 hz1 rfl rfl (by decide) (X.alloc (.cells #[.int .i64 1, .int .i64 0, .int .i64 id, .int .i64 clock, .int .i64 1, .int .i64 (clock + 1), .int .i64 1, .bool false] 53)) (.slice none 0 0) 0 [] (Or.inl ⟨none, rfl, rfl, rfl⟩) X.heap.size 1 1 [.int .i64 1, .int .i64 0, .int .i64 id, .int .i64 clock, .int .i64 1, .int .i64 (clock + 1), .int .i64 1, .bool false] rfl (fun j u hj => by rw [cell_of heap_alloc_new j, ← hj]; simp) (fun u hu => by simp only [List.mem_cons, List.not_mem_nil, or_false] at hu; rcases hu with h | h | h | h | h | h | h | h <;> (subst h; rfl)) (by decide) (by decide) hby 32
    refine aValW (i := 15) (v := v') (w' := w5) rfl (by kernel_rfl) (by rfl) (run_app_op (T := 32) _ _ rfl _ _ rfl rfl hr) ?_
    try simp only [Act.put, zA, zB, zC]
    refine aVal (i := 16) (v := ?_) rfl (by kernel_rfl) (by rfl) ?_ ?_
    rotate_left 1
    · go_simp; all_goals with_reducible rfl
    try simp only [Act.put, zA, zB, zC]
    refine wpAny_done (by kernel_rfl) ?_ _
    obtain ⟨kw4, Q4, hL4, m2, lG4⟩ := st.out
    have kX : Kept [] w4 X := by rw [← hX]; exact (Kept.refl _ _).grow _ _
    have k5 : Kept [] w4 w5 := Kept.trans (kX.alloc _) hk5 (by simp) (by simp [own])
    obtain ⟨r1, r2⟩ := hown
    rcases r2 with ⟨_, r2⟩ | ⟨G3, c3, cur, rfl, _, r4, r5, r6, r7, r8⟩
    · cases r2
    have hG3 : X.heap.size ≤ G3 := by
      rcases hat with ⟨hat, _⟩ | ⟨G', hat, hG⟩
      · cases hat
      · cases hat; simp at hG; omega
    have hcur : cur = (pieceL 1 0 id clock 1 (clock + 1) 1 false (cur.toList.drop 8)).toArray := by
      have h1 := List.take_append_drop 8 cur.toList
      have r8' : cur.toList.take 8 = pieceL 1 0 id clock 1 (clock + 1) 1 false [] := r8
      rw [r8'] at h1
      apply Array.ext'
      rw [← h1]
      simp
    have hrow5 : w5.ownsRow 0 53 8 (.slice (some ⟨G3, 0, none⟩) 1 c3) 1 (pieceL 1 0 id clock 1 (clock + 1) 1 false []) := ⟨r1, Or.inr ⟨G3, c3, cur, rfl, by omega, r4, r5, r6, r7, r8⟩⟩
    rw [hcur] at r4
    have S90 := fun (f : Value) w => SortP90 (some ⟨G3, 0, none⟩) 1 c3 f (by omega) w
    have hGw : w.heap.size ≤ G3 := by have := kX.1; omega
    replace st := Lib.hid (And.intro (Kept.trans kw4 k5 (U := [L, sp, T]) (fun x hx => hx) (by simp)) (And.intro (Q4.kept k5 (by simp) (by simp) (by simp) (by simp)) (And.intro (k5.at hL4 (by simp)) (And.intro m2 (And.intro r4 (And.intro r5 (And.intro hGw hrow5)))))))
    clear kw4 Q4 hL4 m2 lG4 kX k5 r1 r4 r5 r6 r7 r8 hG3 hcur hGw hrow5 hk5 hat hr hX H1 H2 t9 g2 lt9 lg2
    go_wp2_with fail
    rw [rounds_succ]
    go_wp2_with fail
    refine (S90 _ _).mono ?_
    rintro e' w6 ⟨rfl, os4, q4, rfl⟩
    go_wp2_with fail
    go_returns
    obtain ⟨kw, Qw, hLw, m2, r4, r5, hGw, hrow5⟩ := st.out
    have kg : Kept [] w5 (Go.Proofs.YtgfbfklnhmndfaaGreat.grow w5 os4 q4) := (Kept.refl _ _).grow _ _
    exact ⟨G3, c3, _, rfl, row_kept kg hrow5 (fun g hg => by simp), r5, hGw, kg.at r4 (by simp), Kept.trans kw kg (fun x hx => hx) (by simp), kg.at hLw (by simp), N2, m2, Qw.kept kg (by simp) (by simp) (by simp) (by simp)⟩
/-- Both engines of one task, awake: all of it newer than w0. -/
structure TX (S0 : List Nat) (w0 w : World) (c : Pm) (d : Dy) (wn : Int) (Lp C : Nat) (cl : List Value) (lc : Array Value) : Prop where
  ex : EX w c d
  hs : w.heap[c.z.s]? = some (.cells #[.int .i64 1, .bool true, .int .i64 2, .slice (some ⟨Lp, 0, none⟩) 1 C] 103 (0, 0))
  hp : w.heap[Lp]? = some (.cells (pieceL 3 0 3 0 1 1 1 false cl).toArray 53 (0, 0))
  hl : w.heap[c.z.l]? = some (.cells lc 92 (0, 0))
  hw : WrapAt w c.z.wr c.id wn
  k0 : Kept S0 w0 w
  fb : ∀ b ∈ feet c d, b ∈ S0 ∨ w0.heap.size ≤ b
  fz : c.z.s ∈ S0 ∨ w0.heap.size ≤ c.z.s
  fp : Lp ∈ S0 ∨ w0.heap.size ≤ Lp
  fl : c.z.l ∈ S0 ∨ w0.heap.size ≤ c.z.l
section
variable {S0 : List Nat} {w0 w W : World} {c : Pm} {d d' : Dy} {wn : Int} {Lp C : Nat} {cl : List Value} {lc : Array Value}
theorem TX.step (h : TX S0 w0 w c d wn Lp C cl lc) {S : List Nat} (k : Kept S w W) (hS : ∀ b ∈ S, b ∈ feet c d) (hwr : c.z.wr ∉ S) (ex : EX W c d') (hN : d'.N = d.N ∨ w.heap.size ≤ d'.N) (hall : d'.all = d.all) : TX S0 w0 W c d' wn Lp C cl lc := by
  have f : Fr c d w d' W := Fr.of k (fun b hb => Or.inl (hS b hb)) hN (fun g hg => Or.inl (by rw [← hall]; exact hg))
  have n : ∀ b kk, tgW w b = kk → kk ∈ [104, 93, 54] → b ∉ S := fun b kk hb hk hin => h.ex.feet_tgn (hS b hin) hk hb
  refine ⟨ex, k.at h.hs (n _ _ (tg_cells h.hs) (by simp)), k.at h.hp (n _ _ (tg_cells h.hp) (by simp)), k.at h.hl (n _ _ (tg_cells h.hl) (by simp)), h.hw.kept k hwr, Kept.trans h.k0 k (fun _ h => h) (fun b hb => h.fb b (hS b hb)), fun b hb => ?_, h.fz, h.fp, h.fl⟩
  rcases f.f b hb with h1 | h1
  · exact h.fb b h1
  · exact Or.inr (Nat.le_trans h.k0.1 h1)
theorem TX.step0 (h : TX S0 w0 w c d wn Lp C cl lc) (k : Kept [] w W) : TX S0 w0 W c d wn Lp C cl lc := h.step k (by simp) (by simp) (h.ex.kept0 k) (Or.inl rfl) rfl
theorem TX.wrapped (h : TX S0 w0 w c d wn Lp C cl lc) {v : Int} (k : Kept [c.z.wr] w W) (hW : WrapAt W c.z.wr c.id v) : TX S0 w0 W c d v Lp C cl lc := by
  have hin : c.z.wr ∈ feet c d := by simp [feet, blocks]
  have n : ∀ b kk, tgW w b = kk → kk ∈ [104, 93, 54] → b ∉ [c.z.wr] := fun b kk hb hk hin' => by
    simp only [List.mem_cons, List.not_mem_nil, or_false] at hin'
    subst hin'
    exact h.ex.feet_tgn hin hk hb
  obtain ⟨pb, pc, hh⟩ := hW
  exact ⟨h.ex.wrap k ⟨_, _, hh, Or.inr ⟨_, _, rfl⟩⟩, k.at h.hs (n _ _ (tg_cells h.hs) (by simp)), k.at h.hp (n _ _ (tg_cells h.hp) (by simp)), k.at h.hl (n _ _ (tg_cells h.hl) (by simp)), ⟨pb, pc, hh⟩, Kept.trans h.k0 k (fun _ h => h) (fun b hb => by simp only [List.mem_cons, List.not_mem_nil, or_false] at hb; subst hb; exact h.fb _ hin), h.fb, h.fz, h.fp, h.fl⟩
theorem TX.after {wA V V' : World} (h : TX S0 W V c d wn Lp C cl lc) (hk : Kept [] wA W) {S : List Nat} (kS : Kept S V V') (hS : ∀ b ∈ S, wA.heap.size ≤ b ∧ b < W.heap.size) (hS0 : ∀ b ∈ S0, b < wA.heap.size) : TX S0 wA V' c d wn Lp C cl lc := by
  have out : ∀ b, (b ∈ S0 ∨ W.heap.size ≤ b) → b ∉ S := fun b hb hin => by
    have := hS b hin
    rcases hb with h1 | h1
    · have := hS0 b h1
      omega
    · omega
  have lift : ∀ b, (b ∈ S0 ∨ W.heap.size ≤ b) → b ∈ S0 ∨ wA.heap.size ≤ b := fun b hb => hb.imp id (fun h1 => Nat.le_trans hk.1 h1)
  exact ⟨h.ex.frame kS (fun b hb => out b (h.fb b hb)), kS.at h.hs (out _ h.fz), kS.at h.hp (out _ h.fp), kS.at h.hl (out _ h.fl), h.hw.kept kS (out _ (h.fb _ (by simp [feet, blocks]))), Kept.trans (Kept.tr0 hk h.k0) kS (fun x hx => hx) (fun x hx => Or.inr (hS x hx).1), fun b hb => lift b (h.fb b hb), lift _ h.fz, lift _ h.fp, lift _ h.fl⟩
theorem TX.restart {V : World} (h : TX S0 w0 V c d wn Lp C cl lc) (k : Kept [] V W) : TX (feet c d ++ [c.z.s, Lp, c.z.l]) W W c d wn Lp C cl lc := by
  have T := h.step0 k
  exact ⟨T.ex, T.hs, T.hp, T.hl, T.hw, Kept.refl _ _, fun b hb => Or.inl (List.mem_append_left _ hb), Or.inl (by simp), Or.inl (by simp), Or.inl (by simp)⟩
end
/-- An engine by slices that is shut: no job is released. -/
theorem release54_shut {S0 : List Nat} {w0 w : World} {c : Pm} {d : Dy} {wn : Int} {Lp C : Nat} {cl : List Value} {lc : Array Value} (h : TX S0 w0 w c d wn Lp C cl lc) (hm : ModeIs c.mode true) (hclk : d.clock = 1) :
    Calls Tryz.prog 54 #[pt c.z.x] w fun e' W => e' = .returned (.tuple #[]) ∧ Kept [] w W := by
  have S30 := slices30S (V := w) h.ex.hx hm
  have OP : ∀ X, (∃ os q, Go.Proofs.YtgfbfklnhmndfaaGreat.grow w os q = X) → Calls Tryz.prog 81 #[pt c.z.s, .int .i64 1] X fun e' X' => e' = .returned (.bool false) ∧ ∃ os q, Go.Proofs.YtgfbfklnhmndfaaGreat.grow w os q = X' := by
    rintro X ⟨os, q, hX⟩
    refine (Open81_two c.z.s _ X ((kept_grow hX).at h.hs (by simp))).mono ?_
    rintro e' X' ⟨rfl, rfl⟩
    exact ⟨rfl, os, q, hX⟩
  have hx := h.ex.hx
  unfold XAt at hx
  rw [hclk] at hx
  have x9 : w.cell? ⟨c.z.x, 9, none⟩ = some (.pointer (some ⟨c.z.s, 0, none⟩)) := cell_of hx 9
  have x5 : w.cell? ⟨c.z.x, 5, none⟩ = some (.int .i64 1) := cell_of hx 5
  have lx := heap_lt hx
  clear hx h hclk
  go_enter Tryz.func54, Tryz.ntmps54
  go_wp2_with fail
  refine sBegin (fun X => ∃ os q, Go.Proofs.YtgfbfklnhmndfaaGreat.grow w os q = X) 14 (by kernel_rfl) (gr_drew (gr_refl _)) ?_
  refine sTake (i := 0) (v := ?_) rfl (by kernel_rfl) (fun _ _ _ h => h) (gLoad (by rfl) ?_) ?_
  rotate_left 1
  · intro W hW; (try dsimp only at hW); obtain ⟨os', q', hW'⟩ := hW; subst hW'; go_simp; all_goals with_reducible rfl
  try simp only [Act.put, zA, zB, zC]
  refine sTake (i := 1) rfl (by kernel_rfl) (fun _ _ _ h => h) (gCall (by rfl) ?_ (fun W hW => S30 W hW)) ?_
  · intro W hW; go_simp; all_goals with_reducible rfl
  try simp only [Act.put, zA, zB, zC]
  refine sTake (i := 2) (v := ?_) rfl (by kernel_rfl) (fun _ _ _ h => h) (gLoad (by rfl) ?_) ?_
  rotate_left 1
  · intro W hW; (try dsimp only at hW); obtain ⟨os', q', hW'⟩ := hW; subst hW'; go_simp; all_goals with_reducible rfl
  try simp only [Act.put, zA, zB, zC]
  refine sTake (i := 3) (v := ?_) rfl (by kernel_rfl) (fun _ _ _ h => h) (gLoad (by rfl) ?_) ?_
  rotate_left 1
  · intro W hW; (try dsimp only at hW); obtain ⟨os', q', hW'⟩ := hW; subst hW'; go_simp; all_goals with_reducible rfl
  try simp only [Act.put, zA, zB, zC]
  refine sTake (i := 4) (v := ?_) rfl (by kernel_rfl) (fun _ _ _ h => h) (gLoad (by rfl) ?_) ?_
  rotate_left 1
  · intro W hW; (try dsimp only at hW); obtain ⟨os', q', hW'⟩ := hW; subst hW'; go_simp; all_goals with_reducible rfl
  try simp only [Act.put, zA, zB, zC]
  refine sTake (i := 5) (v := ?_) rfl (by kernel_rfl) (fun _ _ _ h => h) (gLoad (by rfl) ?_) ?_
  rotate_left 1
  · intro W hW; (try dsimp only at hW); obtain ⟨os', q', hW'⟩ := hW; subst hW'; go_simp; all_goals with_reducible rfl
  try simp only [Act.put, zA, zB, zC]
  refine sTake (i := 6) (v := ?_) rfl (by kernel_rfl) (fun _ _ _ h => h) (gLoad (by rfl) ?_) ?_
  rotate_left 1
  · intro W hW; (try dsimp only at hW); obtain ⟨os', q', hW'⟩ := hW; subst hW'; go_simp; all_goals with_reducible rfl
  try simp only [Act.put, zA, zB, zC]
  refine sTake (i := 7) (v := ?_) rfl (by kernel_rfl) (fun _ _ _ h => h) (gLoad (by rfl) ?_) ?_
  rotate_left 1
  · intro W hW; (try dsimp only at hW); obtain ⟨os', q', hW'⟩ := hW; subst hW'; go_simp; all_goals with_reducible rfl
  try simp only [Act.put, zA, zB, zC]
  refine sTake (i := 8) (v := ?_) rfl (by kernel_rfl) (fun _ _ _ h => h) (gLoad (by rfl) ?_) ?_
  rotate_left 1
  · intro W hW; (try dsimp only at hW); obtain ⟨os', q', hW'⟩ := hW; subst hW'; go_simp; all_goals with_reducible rfl
  try simp only [Act.put, zA, zB, zC]
  refine sTake (i := 9) (v := ?_) rfl (by kernel_rfl) (fun _ _ _ h => h) (gLoad (by rfl) ?_) ?_
  rotate_left 1
  · intro W hW; (try dsimp only at hW); obtain ⟨os', q', hW'⟩ := hW; subst hW'; go_simp; all_goals with_reducible rfl
  try simp only [Act.put, zA, zB, zC]
  refine sTake (i := 10) (v := ?_) rfl (by kernel_rfl) (fun _ _ _ h => h) (gLoad (by rfl) ?_) ?_
  rotate_left 1
  · intro W hW; (try dsimp only at hW); obtain ⟨os', q', hW'⟩ := hW; subst hW'; go_simp; all_goals with_reducible rfl
  try simp only [Act.put, zA, zB, zC]
  refine sTake (i := 11) rfl (by kernel_rfl) (fun _ _ _ h => h) (gCall (by rfl) ?_ (fun W hW => OP W hW)) ?_
  · intro W hW; go_simp; all_goals with_reducible rfl
  try simp only [Act.put, zA, zB, zC]
  refine sTake (i := 12) (v := ?_) rfl (by kernel_rfl) (fun _ _ _ h => h) (gLoad (by rfl) ?_) ?_
  rotate_left 1
  · intro W hW; (try dsimp only at hW); obtain ⟨os', q', hW'⟩ := hW; subst hW'; go_simp; all_goals with_reducible rfl
  try simp only [Act.put, zA, zB, zC]
  refine sTake (i := 13) (v := ?_) rfl (by kernel_rfl) (fun _ _ _ h => h) (gLoad (by rfl) ?_) ?_
  rotate_left 1
  · intro W hW; (try dsimp only at hW); obtain ⟨os', q', hW'⟩ := hW; subst hW'; go_simp; all_goals with_reducible rfl
  try simp only [Act.put, zA, zB, zC]
  refine sDone (by kernel_rfl) ?_
  intro V hV
  obtain ⟨os1, q1, hV⟩ := hV
  have kV := Lib.hid (kept_grow hV)
  clear hV S30 OP x9 x5
  go_wp2_with fail
  go_returns
  exact ⟨rfl, kV.out⟩
end
section
attribute [local go_sem ↓] setCell_drewN alloc_drewN grow_cell grow_frozen setCell_grow grow_size cell_alloc_grow frozen_alloc_grow setCell_alloc_grow cell_grow_alloc_grow frozen_grow_alloc_grow setCell_grow_alloc_grow grow_grow
attribute [local go_sem] lt_len size_setCell
section
variable {S0 : List Nat} {w0 w W : World} {c : Pm} {d d' : Dy} {wn : Int} {Lp C : Nat} {cl : List Value} {lc : Array Value}
theorem TX.other (h : TX S0 w0 w c d wn Lp C cl lc) {S : List Nat} (k : Kept S w W) (hS : ∀ b ∈ S, b ∉ feet c d ∧ b ≠ c.z.s ∧ b ≠ Lp ∧ b ≠ c.z.l ∧ w0.heap.size ≤ b) : TX S0 w0 W c d wn Lp C cl lc := by
  have hwr : c.z.wr ∉ S := fun hin => (hS _ hin).1 (by simp [feet, blocks])
  exact ⟨h.ex.frame k (fun b hb hin => (hS b hin).1 hb), k.at h.hs (fun hin => (hS _ hin).2.1 rfl), k.at h.hp (fun hin => (hS _ hin).2.2.1 rfl), k.at h.hl (fun hin => (hS _ hin).2.2.2.1 rfl), h.hw.kept k hwr, Kept.trans h.k0 k (fun _ h => h) (fun b hb => Or.inr (hS b hb).2.2.2.2), h.fb, h.fz, h.fp, h.fl⟩
end
set_option maxHeartbeats 16000000 in
set_option maxRecDepth 100000 in
theorem tick_twin0 {S0 : List Nat} {w0 w : World} {c : Pm} {N : Nat} {rest : List Value} {lc : Array Value} (ex : EX w c (d0 N rest)) (hm : ModeIs c.mode true) (hid : c.id = 3) (he : c.e = 1) (hp : c.p = 2) (hrk : c.rk = 9) (hear : c.early = false)
    (hse : w.heap[c.z.s]? = some (.cells #[.int .i64 1, .bool false, .int .i64 0, .slice none 0 0] 103 (0, 0))) (hl : w.heap[c.z.l]? = some (.cells lc 92 (0, 0))) (k0 : Kept S0 w0 w) (fb : ∀ b ∈ feet c (d0 N rest), b ∈ S0 ∨ w0.heap.size ≤ b) (fs : c.z.s ∈ S0 ∨ w0.heap.size ≤ c.z.s) (fll : c.z.l ∈ S0 ∨ w0.heap.size ≤ c.z.l) :
    Calls Tryz.prog 41 #[pt c.z.x] w fun e' W => ∃ g cap, e' = .returned (.slice g 2 cap) ∧ ∃ N' all xs Lp C cl, TX S0 w0 W c (⟨N', true, 0, 1, 1, 1, 0, 0, 1, 2, rest, all, 1, xs⟩ : Dy) 1 Lp C cl lc := by
  obtain ⟨i0, hii, hz0, hz1, hby⟩ := info_of infoPiece
  have R := release54_twin ex rfl hm (Int.le_refl _) (by show (0 : Int) < 2147483648; omega) (Int.le_refl _) (by show (0 : Int) < 536870912; omega) (by show 0 < 1000000; omega) hid he hp rfl rfl hse
  have hne : c.z.l ≠ c.z.s := heap_ne hl hse (by intro h; cases h)
  have LI := fun w => lessI 1 0 (by omega) (by omega) (by omega) (by omega) w
  rw [show (1 : Int) - 0 = 1 by omega] at LI
  have SI := fun w => sumI 0 1 (by omega) (by omega) (by omega) (by omega) w
  rw [show (0 : Int) + 1 = 1 by omega] at SI
  have eqs := Lib.hid (And.intro hid (And.intro he (And.intro hp (And.intro hrk hear))))
  have base := Lib.hid (And.intro ex (And.intro hse (And.intro hl (And.intro k0 (And.intro fb (And.intro fs (And.intro fll hne)))))))
  replace hm := Lib.hid hm
  clear ex hse hl k0 fb fs fll hne hid he hp hrk hear
  have hw0 : IntKind.i64.wrap 0 = 0 := IntWalk.i64_in _ (by omega)
  have hw1 : IntKind.i64.wrap 1 = 1 := IntWalk.i64_in _ (by omega)
  go_enter Tryz.func41, Tryz.ntmps41
  go_wp2_with fail
  refine R.mono ?_
  rintro e' w1 ⟨rfl, all, ex1, k1, hag, hW1, Lp, C, cl, hLp, hlp, hs1⟩
  obtain ⟨xs, hxs⟩ : ∃ xs, (d0 N rest).xs ++ [.int .i64 c.id, .int .i64 (d0 N rest).clock, .int .i64 c.e, .int .i64 c.p] = xs := ⟨_, rfl⟩
  rw [hxs] at ex1
  replace ex1 : EX w1 c (⟨N, true, 0, 0, 1, 0, 0, 0, 1, 0, rest, all, 1, xs⟩ : Dy) := ex1
  have T1 : TX S0 w0 w1 c (⟨N, true, 0, 0, 1, 0, 0, 0, 1, 0, rest, all, 1, xs⟩ : Dy) 0 Lp C cl lc := by
    obtain ⟨ex, hse, hl, k0, fb, fs, fll, hne⟩ := base.out
    have sub : ∀ b ∈ c.z.s :: ([c.z.x, c.L, c.z.m, c.z.wr, c.z.ls] ++ own (d0 N rest).all), b = c.z.s ∨ b ∈ feet c (d0 N rest) := by
      intro b hb
      simp only [d0, own, List.append_nil, List.mem_cons, List.not_mem_nil, or_false] at hb
      rcases hb with h | h | h | h | h | h
      · exact Or.inl h
      all_goals exact Or.inr (by rw [h]; simp [feet, blocks])
    refine ⟨ex1, hs1, hlp, k1.at hl (fun hin => ?_), hW1, Kept.trans k0 k1 (fun _ h => h) (fun b hb => ?_), fun b hb => ?_, fs, Or.inr (Nat.le_trans k0.1 hLp), fll⟩
    · rcases sub _ hin with h | h
      · exact hne h
      · exact ex.feet_tgn h (k := 93) (by simp) (tg_cells hl)
    · rcases sub _ hb with h | h
      · rw [h]; exact fs
      · exact fb b h
    · rcases List.mem_append.1 hb with h | h
      · exact fb b (List.mem_append_left _ h)
      · have h : all.ownBlock = some b := by simpa using h
        rcases hag b h with h2 | h2
        · cases h2
        · exact Or.inr (Nat.le_trans k0.1 h2)
  have T1d := T1.step0 ((Kept.refl [] w1).drew)
  obtain ⟨hid, he, hp, hrk, hear⟩ := eqs.out
  have SL := Slot56_row (w := w1.drew) T1d.ex.hJ c.z.q c.sp N c.T c.early T1d.ex.hQ (ndn T1d.ex.nodup (i := 11) (j := 12) rfl rfl (by decide)) 0 (by rw [he]; show (0 : Int) ≠ 1; decide) (Int.le_refl _) (show (0 : Int) < 2147483648 by decide) (Int.le_refl _) (by decide) (fun W => by rw [hid, he, hp, hear]; exact Can125_now 1 W) (fun W => by rw [hid, he, hp]; exact Rank127 3 1 2 0 0 1 (by omega) (by omega) (by omega) (by omega) (by omega) W)
  have O := slots55 (w := w1) (z := c.z) T1.ex.hx hm.out
  have hLp1 : Lp < w1.heap.size := heap_lt hlp
  have hx := T1.ex.hx
  unfold XAt at hx
  have c5 : w1.cell? ⟨c.z.x, 5, none⟩ = some (.int .i64 0) := cell_of hx 5
  have c7 : w1.cell? ⟨c.z.x, 7, none⟩ = some (.pointer (some ⟨c.z.j, 0, none⟩)) := cell_of hx 7
  have c8 : w1.cell? ⟨c.z.x, 8, none⟩ = some (.pointer (some ⟨c.z.q, 0, none⟩)) := cell_of hx 8
  have lhx := heap_lt hx
  clear hx
  have st := Lib.hid (And.intro T1d hLp1)
  clear R ex1 k1 hag hW1 hLp hlp hs1 hxs T1 T1d base hid he hp hrk hear hLp1
  go_wp2_with fail
  refine O.mono ?_
  rintro e' w2 ⟨rfl, rfl⟩
  go_wp2_with fail
  refine wp_region_any (by kernel_rfl) ?_
  rw [List.size_toArray]
  refine wpAnyS_any (S := fun X => X = w1.drew) (k := 12) _ _ _ ?_ _ rfl
  refine sTake (i := 0) rfl (by kernel_rfl) (fun _ _ _ h => h) (gLoad (by rfl) (fun W hW => by (try dsimp only at hW); subst hW; go_simp; first | done | rfl)) ?_
  try simp only [Act.put, zA, zB, zC]
  refine sTake (i := 1) rfl (by kernel_rfl) (fun _ _ _ h => h) (gLoad (by rfl) (fun W hW => by (try dsimp only at hW); subst hW; go_simp; first | done | rfl)) ?_
  try simp only [Act.put, zA, zB, zC]
  refine sTake (i := 2) rfl (by kernel_rfl) (fun _ _ _ h => h) (gLoad (by rfl) (fun W hW => by (try dsimp only at hW); subst hW; go_simp; first | done | rfl)) ?_
  try simp only [Act.put, zA, zB, zC]
  refine sTake (i := 3) rfl (by kernel_rfl) (fun _ _ _ h => h) (gLoad (by rfl) (fun W hW => by (try dsimp only at hW); subst hW; go_simp; first | done | rfl)) ?_
  try simp only [Act.put, zA, zB, zC]
  refine sTake (i := 4) rfl (by kernel_rfl) (fun _ _ _ h => h) (gLoad (by rfl) (fun W hW => by (try dsimp only at hW); subst hW; go_simp; first | done | rfl)) ?_
  try simp only [Act.put, zA, zB, zC]
  refine sTake (i := 5) rfl (by kernel_rfl) (fun _ _ _ h => h) (gLoad (by rfl) (fun W hW => by (try dsimp only at hW); subst hW; go_simp; first | done | rfl)) ?_
  try simp only [Act.put, zA, zB, zC]
  refine sTake (i := 6) rfl (by kernel_rfl) (fun _ _ _ h => h) (gLoad (by rfl) (fun W hW => by (try dsimp only at hW); subst hW; go_simp; first | done | rfl)) ?_
  try simp only [Act.put, zA, zB, zC]
  refine sTake (i := 7) rfl (by kernel_rfl) (fun _ _ _ h => h) (gLoad (by rfl) (fun W hW => by (try dsimp only at hW); subst hW; go_simp; first | done | rfl)) ?_
  try simp only [Act.put, zA, zB, zC]
  refine sTake (i := 8) rfl (by kernel_rfl) (fun _ _ _ h => h) (gLoad (by rfl) (fun W hW => by (try dsimp only at hW); subst hW; go_simp; first | done | rfl)) ?_
  try simp only [Act.put, zA, zB, zC]
  refine sTake (i := 9) rfl (by kernel_rfl) (fun _ _ _ h => h) (gLoad (by rfl) (fun W hW => by (try dsimp only at hW); subst hW; go_simp; first | done | rfl)) ?_
  try simp only [Act.put, zA, zB, zC]
  refine sTake (i := 10) rfl (by kernel_rfl) (fun _ _ _ h => h) (gLoad (by rfl) (fun W hW => by (try dsimp only at hW); subst hW; go_simp; first | done | rfl)) ?_
  try simp only [Act.put, zA, zB, zC]
  refine sTake (i := 11) rfl (by kernel_rfl) (fun _ _ _ h => h) (gLoad (by rfl) (fun W hW => by (try dsimp only at hW); subst hW; go_simp; first | done | rfl)) ?_
  try simp only [Act.put, zA, zB, zC]
  refine sRest (by kernel_rfl) ?_
  rintro X rfl
  clear c5 c7 c8 lhx O
  refine aCall (i := 12) rfl (by kernel_rfl) (by rfl) (by go_simp; first | done | rfl | exact ⟨rfl, rfl⟩) (SL.mono ?_)
  rintro e' w3 ⟨G, cap, cur, rfl, hrow, hcap, hG1, hG, k3, hL3, N2, hN2, hQ2⟩
  refine ⟨_, rfl, ?_⟩
  try simp only [Act.put, zA, zB, zC]
  refine aVal (i := 13) (v := ?_) rfl (by kernel_rfl) (by rfl) ?_ ?_
  rotate_left 1
  · go_simp; all_goals with_reducible rfl
  try simp only [Act.put, zA, zB, zC]
  refine wpAny_done (by kernel_rfl) ?_ _
  have ex3 : EX w3 c (⟨N2, true, 0, 1, 1, 0, 0, 0, 1, 0, rest, all, 1, xs⟩ : Dy) := st.out.1.ex.slotY k3 hN2 hL3 hQ2
  have T3 := st.out.1.step k3 (by intro b hb; simp only [List.mem_cons, List.not_mem_nil, or_false] at hb; rcases hb with rfl | rfl | rfl <;> simp [feet, blocks]) (by simp [(ndn st.out.1.ex.nodup (i := 14) (j := 3) rfl rfl (by decide)), (ndn st.out.1.ex.nodup (i := 14) (j := 5) rfl rfl (by decide)), (ndn st.out.1.ex.nodup (i := 14) (j := 12) rfl rfl (by decide))]) ex3 (Or.inr hN2) rfl
  have CT := count57_one c.z c.tasks c.mode c.ring 0 0 0 1 c.id all G cap cur w3 T3.ex.hx T3.ex.hb T3.ex.hm T3.ex.hl hG (Int.le_refl _) (by decide) (Int.le_refl _) (by decide) (Int.le_refl _) (by decide)
  have hGLp : G ≠ Lp := by
    have h1 : w1.drew.heap.size ≤ G := hG1
    have h2 : w1.drew.heap.size = w1.heap.size := rfl
    have := st.out.2
    omega
  have hGw : w0.heap.size ≤ G := Nat.le_trans st.out.1.k0.1 hG1
  replace st := Lib.hid (And.intro T3 (And.intro hrow (And.intro hG (And.intro hGLp hGw))))
  clear SL hrow hcap hG1 hG k3 hL3 hN2 hQ2 ex3 T3 hGLp hGw
  go_wp2_with fail
  refine CT.mono ?_
  rintro e' w4 ⟨rfl, hx4, hb4, hm4, hl4, k4⟩
  obtain ⟨T3, hrow, hG, hGLp, hGw⟩ := st.out
  have ex4 : EX w4 c (⟨N2, true, 0, 1, 1, 0, 0, 0, 1, 0, rest, all, 1, xs⟩ : Dy) := T3.ex.counted k4 hx4 hb4 hm4 hl4
  have T4 := T3.step k4 (by intro b hb; simp only [List.mem_cons, List.not_mem_nil, or_false] at hb; rcases hb with rfl | rfl | rfl | rfl <;> simp [feet, blocks]) (by simp [(ndn T3.ex.nodup (i := 14) (j := 0) rfl rfl (by decide)), (ndn T3.ex.nodup (i := 14) (j := 7) rfl rfl (by decide)), (ndn T3.ex.nodup (i := 14) (j := 10) rfl rfl (by decide)), (ndn T3.ex.nodup (i := 14) (j := 15) rfl rfl (by decide))]) ex4 (Or.inl rfl) rfl
  have sb4 : ∀ b ∈ [c.z.x, c.z.bk, c.z.m, c.z.ls], b ∈ feet c (⟨N2, true, 0, 1, 1, 0, 0, 0, 1, 0, rest, all, 1, xs⟩ : Dy) := (by intro b hb; simp only [List.mem_cons, List.not_mem_nil, or_false] at hb; rcases hb with rfl | rfl | rfl | rfl <;> simp [feet, blocks])
  have nG : G ∉ [c.z.x, c.z.bk, c.z.m, c.z.ls] := fun hin => T3.ex.feet_tgn (sb4 G hin) (k := 54) (by simp) (tg_cells hG)
  have hrow4 := row_kept k4 hrow (fun g hg => by cases hg; exact nG)
  have hG4 := k4.at hG nG
  have T4d := T4.step0 ((Kept.refl [] w4).drew)
  have TK := Tick58_0 c.z.s Lp C cl w4.drew T4d.hs T4d.hp
  have O := slices30 (w := w4) (z := c.z) T4.ex.hx hm.out
  have hx := T4.ex.hx
  unfold XAt at hx
  have c5 : w4.cell? ⟨c.z.x, 5, none⟩ = some (.int .i64 0) := cell_of hx 5
  have c9 : w4.cell? ⟨c.z.x, 9, none⟩ = some (.pointer (some ⟨c.z.s, 0, none⟩)) := cell_of hx 9
  have lhx := heap_lt hx
  clear hx
  replace st := Lib.hid (And.intro T4 (And.intro hrow4 (And.intro hG4 (And.intro hGLp hGw))))
  clear CT T3 hrow hG hGLp hGw hx4 hb4 hm4 hl4 k4 ex4 T4 nG hrow4 hG4 T4d
  go_wp2_with fail
  refine O.mono ?_
  rintro e' w4' ⟨rfl, rfl⟩
  go_wp2_with fail
  refine wp_region_any (by kernel_rfl) ?_
  rw [List.size_toArray]
  refine wpAnyS_any (S := fun X => X = w4.drew) (k := 8) _ _ _ ?_ _ rfl
  refine sTake (i := 0) rfl (by kernel_rfl) (fun _ _ _ h => h) (gLoad (by rfl) (fun W hW => by (try dsimp only at hW); subst hW; go_simp; first | done | rfl)) ?_
  try simp only [Act.put, zA, zB, zC]
  refine sTake (i := 1) rfl (by kernel_rfl) (fun _ _ _ h => h) (gLoad (by rfl) (fun W hW => by (try dsimp only at hW); subst hW; go_simp; first | done | rfl)) ?_
  try simp only [Act.put, zA, zB, zC]
  refine sTake (i := 2) rfl (by kernel_rfl) (fun _ _ _ h => h) (gLoad (by rfl) (fun W hW => by (try dsimp only at hW); subst hW; go_simp; first | done | rfl)) ?_
  try simp only [Act.put, zA, zB, zC]
  refine sTake (i := 3) rfl (by kernel_rfl) (fun _ _ _ h => h) (gLoad (by rfl) (fun W hW => by (try dsimp only at hW); subst hW; go_simp; first | done | rfl)) ?_
  try simp only [Act.put, zA, zB, zC]
  refine sTake (i := 4) rfl (by kernel_rfl) (fun _ _ _ h => h) (gLoad (by rfl) (fun W hW => by (try dsimp only at hW); subst hW; go_simp; first | done | rfl)) ?_
  try simp only [Act.put, zA, zB, zC]
  refine sTake (i := 5) rfl (by kernel_rfl) (fun _ _ _ h => h) (gLoad (by rfl) (fun W hW => by (try dsimp only at hW); subst hW; go_simp; first | done | rfl)) ?_
  try simp only [Act.put, zA, zB, zC]
  refine sTake (i := 6) rfl (by kernel_rfl) (fun _ _ _ h => h) (gLoad (by rfl) (fun W hW => by (try dsimp only at hW); subst hW; go_simp; first | done | rfl)) ?_
  try simp only [Act.put, zA, zB, zC]
  refine sTake (i := 7) rfl (by kernel_rfl) (fun _ _ _ h => h) (gLoad (by rfl) (fun W hW => by (try dsimp only at hW); subst hW; go_simp; first | done | rfl)) ?_
  try simp only [Act.put, zA, zB, zC]
  refine sRest (by kernel_rfl) ?_
  rintro X rfl
  clear c5 c9 lhx O
  refine aCall (i := 8) rfl (by kernel_rfl) (by rfl) (by go_simp; first | done | rfl | exact ⟨rfl, rfl⟩) (TK.mono ?_)
  rintro e' w5 ⟨G2, C2, cl2, rfl, hG2n, hG2, k5⟩
  refine ⟨_, rfl, ?_⟩
  try simp only [Act.put, zA, zB, zC]
  refine aVal (i := 9) (v := ?_) rfl (by kernel_rfl) (by rfl) ?_ ?_
  rotate_left 1
  · go_simp; all_goals with_reducible rfl
  try simp only [Act.put, zA, zB, zC]
  refine wpAny_done (by kernel_rfl) ?_ _
  have k5' : Kept [] w4 w5 := Kept.tr ((Kept.refl [] w4).drew) k5
  obtain ⟨T4, hrow4, hG4, hGLp, hGw⟩ := st.out
  have T5 := T4.step0 k5'
  have hrow5 := row_kept k5' hrow4 (fun g hg => by simp)
  have hG5 := k5'.at hG4 (by simp)
  have p0 : w5.cell? ⟨G2, 0, none⟩ = some (.int .i64 3) := cell_of hG2 0
  have p1 : w5.cell? ⟨G2, 1, none⟩ = some (.int .i64 0) := cell_of hG2 1
  have p2 : w5.cell? ⟨G2, 2, none⟩ = some (.int .i64 3) := cell_of hG2 2
  have p3 : w5.cell? ⟨G2, 3, none⟩ = some (.int .i64 0) := cell_of hG2 3
  have p4 : w5.cell? ⟨G2, 4, none⟩ = some (.int .i64 1) := cell_of hG2 4
  have p5 : w5.cell? ⟨G2, 5, none⟩ = some (.int .i64 1) := cell_of hG2 5
  have p6 : w5.cell? ⟨G2, 6, none⟩ = some (.int .i64 1) := cell_of hG2 6
  have p7 : w5.cell? ⟨G2, 7, none⟩ = some (.bool false) := cell_of hG2 7
  have lG2 := heap_lt hG2
  replace st := Lib.hid (And.intro T5 (And.intro hrow5 (And.intro hG5 (And.intro hG2 (And.intro hGLp hGw)))))
  clear TK T4 hrow4 hG4 hGLp hGw k5 k5' T5 hrow5 hG5 hG2 hG2n
  go_wp2_with fail
  refine wp_loop_rounds 2 ?_
  rw [rounds_succ]
  go_wp2_with fail
  have kA : Kept [] w5 (w5.alloc (.cells #[.int .i64 3, .int .i64 0, .int .i64 3, .int .i64 0, .int .i64 1, .int .i64 1, .int .i64 1, .bool false] 53)) := (Kept.refl _ _).alloc _
  have hB := heap_alloc_new (w := w5) (o := .cells #[.int .i64 3, .int .i64 0, .int .i64 3, .int .i64 0, .int .i64 1, .int .i64 1, .int .i64 1, .bool false] 53)
  obtain ⟨B6, hB6⟩ : ∃ B, w5.heap.size = B := ⟨_, rfl⟩
  obtain ⟨V, hV⟩ : ∃ V, w5.alloc (.cells #[.int .i64 3, .int .i64 0, .int .i64 3, .int .i64 0, .int .i64 1, .int .i64 1, .int .i64 1, .bool false] 53) = V := ⟨_, rfl⟩
  rw [hV] at kA hB
  rw [hB6] at hB
  try rw [hV]
  try rw [hB6]
  obtain ⟨T5, hrow5, hG5, hG2, hGLp, hGw⟩ := st.out
  have T6 := T5.step0 kA
  have hrow6 := row_kept kA hrow5 (fun g hg => by simp)
  have hW6 := T6.hw
  rw [eqs.out.1] at hW6
  have hLK : ∀ os q, (Instr.lookup 76 (.map (some c.z.wr)) (.int .i64 3) false).run Tryz.prog (Go.Proofs.YtgfbfklnhmndfaaGreat.grow V os q) = .ok (wi 0) (Go.Proofs.YtgfbfklnhmndfaaGreat.grow V os q) := fun os q => (hW6.kept ((Kept.refl [] V).grow os q) (by simp)).look
  have hP := T6.ex.hw.put (wi 1)
  rw [eqs.out.1] at hP
  have b0 : V.cell? ⟨B6, 0, none⟩ = some (.int .i64 3) := cell_of hB 0
  have b1 : V.cell? ⟨B6, 1, none⟩ = some (.int .i64 0) := cell_of hB 1
  have b2 : V.cell? ⟨B6, 2, none⟩ = some (.int .i64 3) := cell_of hB 2
  have b3 : V.cell? ⟨B6, 3, none⟩ = some (.int .i64 0) := cell_of hB 3
  have b4 : V.cell? ⟨B6, 4, none⟩ = some (.int .i64 1) := cell_of hB 4
  have b5 : V.cell? ⟨B6, 5, none⟩ = some (.int .i64 1) := cell_of hB 5
  have b6 : V.cell? ⟨B6, 6, none⟩ = some (.int .i64 1) := cell_of hB 6
  have b7 : V.cell? ⟨B6, 7, none⟩ = some (.bool false) := cell_of hB 7
  have lB := heap_lt hB
  have hx := T6.ex.hx
  unfold XAt at hx
  have c17 : V.cell? ⟨c.z.x, 17, none⟩ = some (.map (some c.z.wr)) := cell_of hx 17
  have lhx := heap_lt hx
  clear hx
  replace st := Lib.hid (And.intro T6 (And.intro hrow6 (And.intro (kA.at hG5 (by simp)) (And.intro (kA.at hG2 (by simp)) (And.intro hGLp hGw)))))
  clear p0 p1 p2 p3 p4 p5 p6 p7 lG2 kA hB hV hB6 T5 hrow5 hG5 hG2 hGLp hGw T6 hrow6 hW6
  replace hP := Lib.hid hP
  refine wp_region_any (by kernel_rfl) ?_
  rw [List.size_toArray]
  refine wpAnyS_any (S := fun X => ∃ os q, Go.Proofs.YtgfbfklnhmndfaaGreat.grow V os q = X) (k := 19) _ _ _ ?_ _ (gr_drew (gr_refl _))
  refine sTake (i := 0) (v := ?_) rfl (by kernel_rfl) (fun _ _ _ h => h) (gLoad (by rfl) ?_) ?_
  rotate_left 1
  · intro W hW; (try dsimp only at hW); obtain ⟨os', q', hW'⟩ := hW; subst hW'; go_simp; all_goals with_reducible rfl
  try simp only [Act.put, zA, zB, zC]
  refine sTake (i := 1) (v := ?_) rfl (by kernel_rfl) (fun _ _ _ h => h) (gLoad (by rfl) ?_) ?_
  rotate_left 1
  · intro W hW; (try dsimp only at hW); obtain ⟨os', q', hW'⟩ := hW; subst hW'; go_simp; all_goals with_reducible rfl
  try simp only [Act.put, zA, zB, zC]
  refine sTake (i := 2) (v := ?_) rfl (by kernel_rfl) (fun _ _ _ h => h) (gLoad (by rfl) ?_) ?_
  rotate_left 1
  · intro W hW; (try dsimp only at hW); obtain ⟨os', q', hW'⟩ := hW; subst hW'; go_simp; all_goals with_reducible rfl
  try simp only [Act.put, zA, zB, zC]
  refine sTake (i := 3) (v := ?_) rfl (by kernel_rfl) (fun _ _ _ h => h) (gLoad (by rfl) ?_) ?_
  rotate_left 1
  · intro W hW; (try dsimp only at hW); obtain ⟨os', q', hW'⟩ := hW; subst hW'; go_simp; all_goals with_reducible rfl
  try simp only [Act.put, zA, zB, zC]
  refine sTake (i := 4) (v := ?_) rfl (by kernel_rfl) (fun _ _ _ h => h) (gLoad (by rfl) ?_) ?_
  rotate_left 1
  · intro W hW; (try dsimp only at hW); obtain ⟨os', q', hW'⟩ := hW; subst hW'; go_simp; all_goals with_reducible rfl
  try simp only [Act.put, zA, zB, zC]
  refine sTake (i := 5) (v := ?_) rfl (by kernel_rfl) (fun _ _ _ h => h) (gLoad (by rfl) ?_) ?_
  rotate_left 1
  · intro W hW; (try dsimp only at hW); obtain ⟨os', q', hW'⟩ := hW; subst hW'; go_simp; all_goals with_reducible rfl
  try simp only [Act.put, zA, zB, zC]
  refine sTake (i := 6) (v := ?_) rfl (by kernel_rfl) (fun _ _ _ h => h) (gLoad (by rfl) ?_) ?_
  rotate_left 1
  · intro W hW; (try dsimp only at hW); obtain ⟨os', q', hW'⟩ := hW; subst hW'; go_simp; all_goals with_reducible rfl
  try simp only [Act.put, zA, zB, zC]
  refine sTake (i := 7) (v := ?_) rfl (by kernel_rfl) (fun _ _ _ h => h) (gLoad (by rfl) ?_) ?_
  rotate_left 1
  · intro W hW; (try dsimp only at hW); obtain ⟨os', q', hW'⟩ := hW; subst hW'; go_simp; all_goals with_reducible rfl
  try simp only [Act.put, zA, zB, zC]
  refine sTake (i := 8) (v := ?_) rfl (by kernel_rfl) (fun _ _ _ h => h) (gLoad (by rfl) ?_) ?_
  rotate_left 1
  · intro W hW; (try dsimp only at hW); obtain ⟨os', q', hW'⟩ := hW; subst hW'; go_simp; all_goals with_reducible rfl
  try simp only [Act.put, zA, zB, zC]
  refine sTake (i := 9) (v := ?_) rfl (by kernel_rfl) (fun _ _ _ h => h) (gLoad (by rfl) ?_) ?_
  rotate_left 1
  · intro W hW; (try dsimp only at hW); obtain ⟨os', q', hW'⟩ := hW; subst hW'; go_simp; all_goals with_reducible rfl
  try simp only [Act.put, zA, zB, zC]
  refine sTake (i := 10) (v := ?_) rfl (by kernel_rfl) (fun _ _ _ h => h) (gLoad (by rfl) ?_) ?_
  rotate_left 1
  · intro W hW; (try dsimp only at hW); obtain ⟨os', q', hW'⟩ := hW; subst hW'; go_simp; all_goals with_reducible rfl
  try simp only [Act.put, zA, zB, zC]
  refine sTake (i := 11) (v := ?_) rfl (by kernel_rfl) (fun _ _ _ h => h) (gLoad (by rfl) ?_) ?_
  rotate_left 1
  · intro W hW; (try dsimp only at hW); obtain ⟨os', q', hW'⟩ := hW; subst hW'; go_simp; all_goals with_reducible rfl
  try simp only [Act.put, zA, zB, zC]
  refine sTake (i := 12) (v := ?_) rfl (by kernel_rfl) (fun _ _ _ h => h) (gLoad (by rfl) ?_) ?_
  rotate_left 1
  · intro W hW; (try dsimp only at hW); obtain ⟨os', q', hW'⟩ := hW; subst hW'; go_simp; all_goals with_reducible rfl
  try simp only [Act.put, zA, zB, zC]
  refine sTake (i := 13) (v := ?_) rfl (by kernel_rfl) (fun _ _ _ h => h) (gLoad (by rfl) ?_) ?_
  rotate_left 1
  · intro W hW; (try dsimp only at hW); obtain ⟨os', q', hW'⟩ := hW; subst hW'; go_simp; all_goals with_reducible rfl
  try simp only [Act.put, zA, zB, zC]
  refine sTake (i := 14) (v := ?_) rfl (by kernel_rfl) (fun _ _ _ h => h) (gLoad (by rfl) ?_) ?_
  rotate_left 1
  · intro W hW; (try dsimp only at hW); obtain ⟨os', q', hW'⟩ := hW; subst hW'; go_simp; all_goals with_reducible rfl
  try simp only [Act.put, zA, zB, zC]
  refine sTake (i := 15) (v := ?_) rfl (by kernel_rfl) (fun _ _ _ h => h) (gLoad (by rfl) ?_) ?_
  rotate_left 1
  · intro W hW; (try dsimp only at hW); obtain ⟨os', q', hW'⟩ := hW; subst hW'; go_simp; all_goals with_reducible rfl
  try simp only [Act.put, zA, zB, zC]
  refine sTake (i := 16) (v := ?_) rfl (by kernel_rfl) (fun _ _ _ h => h) (gLoad (by rfl) ?_) ?_
  rotate_left 1
  · intro W hW; (try dsimp only at hW); obtain ⟨os', q', hW'⟩ := hW; subst hW'; go_simp; all_goals with_reducible rfl
  try simp only [Act.put, zA, zB, zC]
  refine sTake (i := 17) rfl (by kernel_rfl) (fun _ _ _ h => h) (gCall (by rfl) ?_ (fun W hW => RetG.into LI hW)) ?_
  · intro W hW; go_simp; all_goals with_reducible rfl
  try simp only [Act.put, zA, zB, zC]
  refine sTake (i := 18) rfl (by kernel_rfl) (fun _ _ _ h => h) (gCall (by rfl) ?_ (fun W hW => RetG.into SI hW)) ?_
  · intro W hW; go_simp; all_goals with_reducible rfl
  try simp only [Act.put, zA, zB, zC]
  refine sRest (by kernel_rfl) ?_
  intro X hX
  obtain ⟨os7, q7, hX⟩ := hX
  have kX := kept_grow hX
  clear hX
  obtain ⟨pb, pc, hP⟩ := hP.out
  obtain ⟨T6, hrow6, hG6, hG2, hGLp, hGw⟩ := st.out
  have hPX := hP X (kX.2 _ T6.ex.hw.lt (by simp))
  have T7 := T6.step0 kX
  have kZ : Kept [c.z.wr] X (Go.ChangeMaps.setBlock X c.z.wr (.map #[{ key := .int .i64 3, val := wi 1, born := pb }] pc)) := (Kept.refl _ _).setBlock _ _ (Or.inl (by simp))
  have hWZ : WrapAt (Go.ChangeMaps.setBlock X c.z.wr (.map #[{ key := .int .i64 3, val := wi 1, born := pb }] pc)) c.z.wr c.id 1 := by
    rw [eqs.out.1]
    exact ⟨_, _, heap_setBlock T7.ex.hw.lt⟩
  have T8 := T7.wrapped kZ hWZ
  have nGw : G ∉ [c.z.wr] := by
    simp only [List.mem_cons, List.not_mem_nil, or_false]
    intro h
    have := T6.ex.tgwr
    rw [← h, tg_cells hG6] at this
    cases this
  have nG2w : G2 ∉ [c.z.wr] := by
    simp only [List.mem_cons, List.not_mem_nil, or_false]
    intro h
    have := T6.ex.tgwr
    rw [← h, tg_cells hG2] at this
    cases this
  have hrow8 := row_kept kZ (row_kept kX hrow6 (fun g hg => by simp)) (fun g hg => by cases hg; exact nGw)
  have hG8 := kZ.at (kX.at hG6 (by simp)) nGw
  have hG28 := kZ.at (kX.at hG2 (by simp)) nG2w
  obtain ⟨Z, hZ⟩ : ∃ Z, Go.ChangeMaps.setBlock X c.z.wr (.map #[{ key := .int .i64 3, val := wi 1, born := pb }] pc) = Z := ⟨_, rfl⟩
  rw [hZ] at hPX T8 hrow8 hG8 hG28
  have O := slots55 (w := Z) (z := c.z) T8.ex.hx hm.out
  replace st := Lib.hid (And.intro T8 (And.intro hrow8 (And.intro hG8 (And.intro hG28 (And.intro hGLp hGw)))))
  clear hP T6 hrow6 hG6 hG2 hGLp hGw T7 kZ hWZ T8 nGw nG2w hrow8 hG8 hG28 kX hLK
  refine aSkip (i := 19) (w' := ?_) rfl (by kernel_rfl) (by rfl) ?_ ?_
  rotate_left 1
  · go_simp; all_goals with_reducible rfl
  try simp only [Act.put, zA, zB, zC]
  refine wpAny_done (by kernel_rfl) ?_ _
  try rw [hZ]
  clear hPX hZ b0 b1 b2 b3 b4 b5 b6 b7 lB c17 lhx LI SI
  go_wp2_with fail
  rw [rounds_succ]
  go_wp2_with fail
  refine O.mono ?_
  rintro e' Z' ⟨rfl, rfl⟩
  clear O
  obtain ⟨T8, hrow8, hG8, hG28, hGLp, hGw⟩ := st.out
  go_wp2_with (at_builtin; refine wpList_app rfl _ _ rfl Tryz.underlying32 hii hz0 hz1 rfl rfl (by decide) _ 1 (pieceL 1 0 c.id 0 1 (0 + 1) 1 false []) rfl (Or.inr hrow8) G2 1 C2 [.int .i64 3, .int .i64 0, .int .i64 3, .int .i64 0, .int .i64 1, .int .i64 1, .int .i64 1, .bool false] rfl rfl ?c1 ?c2 (by decide) (by decide) hby ?_)
  case c1 =>
    intro j u hj
    rw [cell_of hG28 j]
    match j, hj with
    | 0, hj | 1, hj | 2, hj | 3, hj | 4, hj | 5, hj | 6, hj | 7, hj => exact hj
    | n + 8, hj => cases hj
  case c2 => intro u hu; simp only [List.mem_cons, List.not_mem_nil, or_false] at hu; rcases hu with h | h | h | h | h | h | h | h <;> (subst h; rfl)
  intro v' w8 hown hk8 hat
  obtain ⟨ag, acap, rfl, _, _, hcell, _, hlt⟩ := row_elem hown (by omega)
  have hag : ∃ cs, w8.heap[ag]? = some (.cells cs 53 (0, 0)) := by
    obtain ⟨_, r2⟩ := hown
    rcases r2 with ⟨r2, _⟩ | ⟨g', cap', cu', r3, _, r4, _⟩
    · cases r2
    · cases r3
      exact ⟨_, r4⟩
  have T9 := T8.other hk8 (by
    intro b hb
    have hb : b = G := by
      have h1 : b ∈ (Value.slice (some ⟨G, 0, none⟩) 1 cap).ownBlock.toList := by
        rw [← own_sub hrow8 (by omega)]
        exact hb
      simpa [Value.ownBlock] using h1
    subst hb
    exact ⟨fun hin => T8.ex.feet_tgn hin (k := 54) (by simp) (tg_cells hG8), heap_ne hG8 T8.hs (by intro h; cases h), hGLp, heap_ne hG8 T8.hl (by intro h; cases h), hGw⟩)
  have a0 : w8.cell? ⟨ag, 0, none⟩ = some (.int .i64 1) := (hcell 0 (by omega)).trans rfl
  have a1 : w8.cell? ⟨ag, 1, none⟩ = some (.int .i64 0) := (hcell 1 (by omega)).trans rfl
  have a2 : w8.cell? ⟨ag, 2, none⟩ = some (.int .i64 c.id) := (hcell 2 (by omega)).trans rfl
  have a3 : w8.cell? ⟨ag, 3, none⟩ = some (.int .i64 0) := (hcell 3 (by omega)).trans rfl
  have a4 : w8.cell? ⟨ag, 4, none⟩ = some (.int .i64 1) := (hcell 4 (by omega)).trans rfl
  have a5 : w8.cell? ⟨ag, 5, none⟩ = some (.int .i64 1) := (hcell 5 (by omega)).trans rfl
  have a6 : w8.cell? ⟨ag, 6, none⟩ = some (.int .i64 1) := (hcell 6 (by omega)).trans rfl
  have a7 : w8.cell? ⟨ag, 7, none⟩ = some (.bool false) := (hcell 7 (by omega)).trans rfl
  have hc2 := Lib.hid hcell
  replace st := Lib.hid (And.intro T9 hag)
  clear T8 hrow8 hG8 hG28 hGLp hGw hk8 hat hcell T9 hag hown
  go_wp2_with fail
  refine wp_loop_rounds 3 ?_
  rw [rounds_succ]
  go_wp2_with fail
  have kA0 : Kept [] w8 (w8.alloc (.cells #[.int .i64 1, .int .i64 0, .int .i64 c.id, .int .i64 0, .int .i64 1, .int .i64 1, .int .i64 1, .bool false] 53)) := (Kept.refl _ _).alloc _
  have hB := heap_alloc_new (w := w8) (o := .cells #[.int .i64 1, .int .i64 0, .int .i64 c.id, .int .i64 0, .int .i64 1, .int .i64 1, .int .i64 1, .bool false] 53)
  obtain ⟨B0, hB0⟩ : ∃ B, w8.heap.size = B := ⟨_, rfl⟩
  obtain ⟨V0, hV0⟩ : ∃ V, w8.alloc (.cells #[.int .i64 1, .int .i64 0, .int .i64 c.id, .int .i64 0, .int .i64 1, .int .i64 1, .int .i64 1, .bool false] 53) = V := ⟨_, rfl⟩
  rw [hV0] at kA0 hB
  rw [hB0] at hB
  try rw [hV0]
  try rw [hB0]
  obtain ⟨T, hag⟩ := st.out
  have TV := T.step0 kA0
  have TVd := TV.step0 ((Kept.refl [] V0).drew)
  have hR := TVd.ex.hr
  rw [eqs.out.2.2.2.1] at hR
  have PT := Put61_9_0 c.z.rg c.rb 0 (1) (0) (c.id) (0) (1) (1) (1) false V0.drew hR
  have b0 : V0.cell? ⟨B0, 0, none⟩ = some (.int .i64 1) := cell_of hB 0
  have b1 : V0.cell? ⟨B0, 1, none⟩ = some (.int .i64 0) := cell_of hB 1
  have b2 : V0.cell? ⟨B0, 2, none⟩ = some (.int .i64 c.id) := cell_of hB 2
  have b3 : V0.cell? ⟨B0, 3, none⟩ = some (.int .i64 0) := cell_of hB 3
  have b4 : V0.cell? ⟨B0, 4, none⟩ = some (.int .i64 1) := cell_of hB 4
  have b5 : V0.cell? ⟨B0, 5, none⟩ = some (.int .i64 1) := cell_of hB 5
  have b6 : V0.cell? ⟨B0, 6, none⟩ = some (.int .i64 1) := cell_of hB 6
  have b7 : V0.cell? ⟨B0, 7, none⟩ = some (.bool false) := cell_of hB 7
  have lB := heap_lt hB
  have hx := TV.ex.hx
  unfold XAt at hx
  have c5 : V0.cell? ⟨c.z.x, 5, none⟩ = some (.int .i64 0) := cell_of hx 5
  have c12 : V0.cell? ⟨c.z.x, 12, none⟩ = some (.pointer (some ⟨c.z.rg, 0, none⟩)) := cell_of hx 12
  have lhx := heap_lt hx
  clear hx
  obtain ⟨cs, hag⟩ := hag
  replace st := Lib.hid (And.intro TVd (show ∃ cs, V0.heap[ag]? = some (.cells cs 53 (0, 0)) from ⟨cs, kA0.at hag (by simp)⟩))
  clear T hag TV TVd hR hB hV0 hB0
  refine wp_region_any (by kernel_rfl) ?_
  rw [List.size_toArray]
  refine wpAnyS_any (S := fun X => X = V0.drew) (k := 9) _ _ _ ?_ _ rfl
  refine sTake (i := 0) rfl (by kernel_rfl) (fun _ _ _ h => h) (gLoad (by rfl) (fun W hW => by (try dsimp only at hW); subst hW; go_simp; first | done | rfl)) ?_
  try simp only [Act.put, zA, zB, zC]
  refine sTake (i := 1) rfl (by kernel_rfl) (fun _ _ _ h => h) (gLoad (by rfl) (fun W hW => by (try dsimp only at hW); subst hW; go_simp; first | done | rfl)) ?_
  try simp only [Act.put, zA, zB, zC]
  refine sTake (i := 2) rfl (by kernel_rfl) (fun _ _ _ h => h) (gLoad (by rfl) (fun W hW => by (try dsimp only at hW); subst hW; go_simp; first | done | rfl)) ?_
  try simp only [Act.put, zA, zB, zC]
  refine sTake (i := 3) rfl (by kernel_rfl) (fun _ _ _ h => h) (gLoad (by rfl) (fun W hW => by (try dsimp only at hW); subst hW; go_simp; first | done | rfl)) ?_
  try simp only [Act.put, zA, zB, zC]
  refine sTake (i := 4) rfl (by kernel_rfl) (fun _ _ _ h => h) (gLoad (by rfl) (fun W hW => by (try dsimp only at hW); subst hW; go_simp; first | done | rfl)) ?_
  try simp only [Act.put, zA, zB, zC]
  refine sTake (i := 5) rfl (by kernel_rfl) (fun _ _ _ h => h) (gLoad (by rfl) (fun W hW => by (try dsimp only at hW); subst hW; go_simp; first | done | rfl)) ?_
  try simp only [Act.put, zA, zB, zC]
  refine sTake (i := 6) rfl (by kernel_rfl) (fun _ _ _ h => h) (gLoad (by rfl) (fun W hW => by (try dsimp only at hW); subst hW; go_simp; first | done | rfl)) ?_
  try simp only [Act.put, zA, zB, zC]
  refine sTake (i := 7) rfl (by kernel_rfl) (fun _ _ _ h => h) (gLoad (by rfl) (fun W hW => by (try dsimp only at hW); subst hW; go_simp; first | done | rfl)) ?_
  try simp only [Act.put, zA, zB, zC]
  refine sTake (i := 8) rfl (by kernel_rfl) (fun _ _ _ h => h) (gLoad (by rfl) (fun W hW => by (try dsimp only at hW); subst hW; go_simp; first | done | rfl)) ?_
  try simp only [Act.put, zA, zB, zC]
  refine sRest (by kernel_rfl) ?_
  rintro X rfl
  clear c5 c12 lhx b0 b1 b2 b3 b4 b5 b6 b7 lB
  refine aCall (i := 9) rfl (by kernel_rfl) (by rfl) (by go_simp; first | done | rfl | exact ⟨rfl, rfl⟩) (PT.mono ?_)
  rintro e' w9 ⟨⟨y0, rfl⟩, kR, hR⟩
  refine ⟨_, rfl, ?_⟩
  try simp only [Act.put, zA, zB, zC]
  refine wpAny_done (by kernel_rfl) ?_ _
  obtain ⟨TVd, cs, hag⟩ := st.out
  have exR : EX w9 c (⟨N2, true, 0, 1, 1, 0, 0, 0, 1, 1, rest, all, 1, xs⟩ : Dy) := TVd.ex.ringed kR (by rw [eqs.out.2.2.2.1]; exact hR)
  have T := TVd.step kR (by intro b hb; simp only [List.mem_cons, List.not_mem_nil, or_false] at hb; rcases hb with rfl | rfl <;> simp [feet, blocks]) (by simp [(ndn TVd.ex.nodup (i := 14) (j := 8) rfl rfl (by decide)), (ndn TVd.ex.nodup (i := 14) (j := 9) rfl rfl (by decide))]) exR (Or.inl rfl) rfl
  have sb2 : ∀ b ∈ [c.z.rg, c.rb], b ∈ feet c (⟨N2, true, 0, 1, 1, 0, 0, 0, 1, 0, rest, all, 1, xs⟩ : Dy) := (by intro b hb; simp only [List.mem_cons, List.not_mem_nil, or_false] at hb; rcases hb with rfl | rfl <;> simp [feet, blocks])
  have nag : ag ∉ [c.z.rg, c.rb] := fun hin => TVd.ex.feet_tgn (sb2 ag hin) (k := 54) (by simp) (tg_cells hag)
  have kk0 : Kept [c.z.rg, c.rb] w8 w9 := Kept.trans (kA0.drew) kR (by simp) (fun x hx => Or.inl hx)
  have nagk0 := nag
  replace st := Lib.hid (And.intro T (show ∃ cs, w9.heap[ag]? = some (.cells cs 53 (0, 0)) from ⟨cs, kR.at hag nag⟩))
  clear PT TVd hag kR hR exR T nag kA0
  have hc9 : ∀ i, i < 2 * 8 → w9.cell? ⟨ag, i, none⟩ = (pieceL 1 0 c.id 0 1 (0 + 1) 1 false [] ++ [.int .i64 3, .int .i64 0, .int .i64 3, .int .i64 0, .int .i64 1, .int .i64 1, .int .i64 1, .bool false])[i]? := fun i hi => (cell_kept kk0 hlt i nagk0).trans (hc2.out i hi)
  have hlt9 : ag < w9.heap.size := kk0.lt hlt
  have a8 : w9.cell? ⟨ag, 8, none⟩ = some (.int .i64 3) := (hc9 8 (by omega)).trans rfl
  have a9 : w9.cell? ⟨ag, 9, none⟩ = some (.int .i64 0) := (hc9 9 (by omega)).trans rfl
  have a10 : w9.cell? ⟨ag, 10, none⟩ = some (.int .i64 3) := (hc9 10 (by omega)).trans rfl
  have a11 : w9.cell? ⟨ag, 11, none⟩ = some (.int .i64 0) := (hc9 11 (by omega)).trans rfl
  have a12 : w9.cell? ⟨ag, 12, none⟩ = some (.int .i64 1) := (hc9 12 (by omega)).trans rfl
  have a13 : w9.cell? ⟨ag, 13, none⟩ = some (.int .i64 1) := (hc9 13 (by omega)).trans rfl
  have a14 : w9.cell? ⟨ag, 14, none⟩ = some (.int .i64 1) := (hc9 14 (by omega)).trans rfl
  have a15 : w9.cell? ⟨ag, 15, none⟩ = some (.bool false) := (hc9 15 (by omega)).trans rfl
  clear a0 a1 a2 a3 a4 a5 a6 a7 hc9 kk0 nagk0 hlt hc2
  go_wp2_with fail
  rw [rounds_succ]
  go_wp2_with fail
  have kA1 : Kept [] w9 (w9.alloc (.cells #[.int .i64 3, .int .i64 0, .int .i64 3, .int .i64 0, .int .i64 1, .int .i64 1, .int .i64 1, .bool false] 53)) := (Kept.refl _ _).alloc _
  have hB := heap_alloc_new (w := w9) (o := .cells #[.int .i64 3, .int .i64 0, .int .i64 3, .int .i64 0, .int .i64 1, .int .i64 1, .int .i64 1, .bool false] 53)
  obtain ⟨B1, hB1⟩ : ∃ B, w9.heap.size = B := ⟨_, rfl⟩
  obtain ⟨V1, hV1⟩ : ∃ V, w9.alloc (.cells #[.int .i64 3, .int .i64 0, .int .i64 3, .int .i64 0, .int .i64 1, .int .i64 1, .int .i64 1, .bool false] 53) = V := ⟨_, rfl⟩
  rw [hV1] at kA1 hB
  rw [hB1] at hB
  try rw [hV1]
  try rw [hB1]
  obtain ⟨T, hag⟩ := st.out
  have TV := T.step0 kA1
  have TVd := TV.step0 ((Kept.refl [] V1).drew)
  have hR := TVd.ex.hr
  rw [eqs.out.2.2.2.1] at hR
  have PT := Put61_9_1 c.z.rg c.rb 0 (3) (0) (3) (0) (1) (1) (1) false V1.drew hR
  have b0 : V1.cell? ⟨B1, 0, none⟩ = some (.int .i64 3) := cell_of hB 0
  have b1 : V1.cell? ⟨B1, 1, none⟩ = some (.int .i64 0) := cell_of hB 1
  have b2 : V1.cell? ⟨B1, 2, none⟩ = some (.int .i64 3) := cell_of hB 2
  have b3 : V1.cell? ⟨B1, 3, none⟩ = some (.int .i64 0) := cell_of hB 3
  have b4 : V1.cell? ⟨B1, 4, none⟩ = some (.int .i64 1) := cell_of hB 4
  have b5 : V1.cell? ⟨B1, 5, none⟩ = some (.int .i64 1) := cell_of hB 5
  have b6 : V1.cell? ⟨B1, 6, none⟩ = some (.int .i64 1) := cell_of hB 6
  have b7 : V1.cell? ⟨B1, 7, none⟩ = some (.bool false) := cell_of hB 7
  have lB := heap_lt hB
  have hx := TV.ex.hx
  unfold XAt at hx
  have c5 : V1.cell? ⟨c.z.x, 5, none⟩ = some (.int .i64 0) := cell_of hx 5
  have c12 : V1.cell? ⟨c.z.x, 12, none⟩ = some (.pointer (some ⟨c.z.rg, 0, none⟩)) := cell_of hx 12
  have lhx := heap_lt hx
  clear hx
  obtain ⟨cs, hag⟩ := hag
  replace st := Lib.hid (And.intro TVd (show ∃ cs, V1.heap[ag]? = some (.cells cs 53 (0, 0)) from ⟨cs, kA1.at hag (by simp)⟩))
  clear T hag TV TVd hR hB hV1 hB1
  refine wp_region_any (by kernel_rfl) ?_
  rw [List.size_toArray]
  refine wpAnyS_any (S := fun X => X = V1.drew) (k := 9) _ _ _ ?_ _ rfl
  refine sTake (i := 0) rfl (by kernel_rfl) (fun _ _ _ h => h) (gLoad (by rfl) (fun W hW => by (try dsimp only at hW); subst hW; go_simp; first | done | rfl)) ?_
  try simp only [Act.put, zA, zB, zC]
  refine sTake (i := 1) rfl (by kernel_rfl) (fun _ _ _ h => h) (gLoad (by rfl) (fun W hW => by (try dsimp only at hW); subst hW; go_simp; first | done | rfl)) ?_
  try simp only [Act.put, zA, zB, zC]
  refine sTake (i := 2) rfl (by kernel_rfl) (fun _ _ _ h => h) (gLoad (by rfl) (fun W hW => by (try dsimp only at hW); subst hW; go_simp; first | done | rfl)) ?_
  try simp only [Act.put, zA, zB, zC]
  refine sTake (i := 3) rfl (by kernel_rfl) (fun _ _ _ h => h) (gLoad (by rfl) (fun W hW => by (try dsimp only at hW); subst hW; go_simp; first | done | rfl)) ?_
  try simp only [Act.put, zA, zB, zC]
  refine sTake (i := 4) rfl (by kernel_rfl) (fun _ _ _ h => h) (gLoad (by rfl) (fun W hW => by (try dsimp only at hW); subst hW; go_simp; first | done | rfl)) ?_
  try simp only [Act.put, zA, zB, zC]
  refine sTake (i := 5) rfl (by kernel_rfl) (fun _ _ _ h => h) (gLoad (by rfl) (fun W hW => by (try dsimp only at hW); subst hW; go_simp; first | done | rfl)) ?_
  try simp only [Act.put, zA, zB, zC]
  refine sTake (i := 6) rfl (by kernel_rfl) (fun _ _ _ h => h) (gLoad (by rfl) (fun W hW => by (try dsimp only at hW); subst hW; go_simp; first | done | rfl)) ?_
  try simp only [Act.put, zA, zB, zC]
  refine sTake (i := 7) rfl (by kernel_rfl) (fun _ _ _ h => h) (gLoad (by rfl) (fun W hW => by (try dsimp only at hW); subst hW; go_simp; first | done | rfl)) ?_
  try simp only [Act.put, zA, zB, zC]
  refine sTake (i := 8) rfl (by kernel_rfl) (fun _ _ _ h => h) (gLoad (by rfl) (fun W hW => by (try dsimp only at hW); subst hW; go_simp; first | done | rfl)) ?_
  try simp only [Act.put, zA, zB, zC]
  refine sRest (by kernel_rfl) ?_
  rintro X rfl
  clear c5 c12 lhx b0 b1 b2 b3 b4 b5 b6 b7 lB
  refine aCall (i := 9) rfl (by kernel_rfl) (by rfl) (by go_simp; first | done | rfl | exact ⟨rfl, rfl⟩) (PT.mono ?_)
  rintro e' w10 ⟨⟨y1, rfl⟩, kR, hR⟩
  refine ⟨_, rfl, ?_⟩
  try simp only [Act.put, zA, zB, zC]
  refine wpAny_done (by kernel_rfl) ?_ _
  obtain ⟨TVd, cs, hag⟩ := st.out
  have exR : EX w10 c (⟨N2, true, 0, 1, 1, 0, 0, 0, 1, 2, rest, all, 1, xs⟩ : Dy) := TVd.ex.ringed kR (by rw [eqs.out.2.2.2.1]; exact hR)
  have T := TVd.step kR (by intro b hb; simp only [List.mem_cons, List.not_mem_nil, or_false] at hb; rcases hb with rfl | rfl <;> simp [feet, blocks]) (by simp [(ndn TVd.ex.nodup (i := 14) (j := 8) rfl rfl (by decide)), (ndn TVd.ex.nodup (i := 14) (j := 9) rfl rfl (by decide))]) exR (Or.inl rfl) rfl
  have sb2 : ∀ b ∈ [c.z.rg, c.rb], b ∈ feet c (⟨N2, true, 0, 1, 1, 0, 0, 0, 1, 1, rest, all, 1, xs⟩ : Dy) := (by intro b hb; simp only [List.mem_cons, List.not_mem_nil, or_false] at hb; rcases hb with rfl | rfl <;> simp [feet, blocks])
  have nag : ag ∉ [c.z.rg, c.rb] := fun hin => TVd.ex.feet_tgn (sb2 ag hin) (k := 54) (by simp) (tg_cells hag)
  have kk1 : Kept [c.z.rg, c.rb] w9 w10 := Kept.trans (kA1.drew) kR (by simp) (fun x hx => Or.inl hx)
  have nagk1 := nag
  replace st := Lib.hid (And.intro T (show ∃ cs, w10.heap[ag]? = some (.cells cs 53 (0, 0)) from ⟨cs, kR.at hag nag⟩))
  clear PT TVd hag kR hR exR T nag kA1
  clear a8 a9 a10 a11 a12 a13 a14 a15 kk1 nagk1 hlt9
  go_wp2_with fail
  rw [rounds_succ]
  obtain ⟨T, _⟩ := st.out
  have MT := meter_add (k := 0) (n := 1) T.ex.hm (by omega)
  have hx := T.ex.hx
  unfold XAt at hx
  have c13 : w10.cell? ⟨c.z.x, 13, none⟩ = some (.pointer (some ⟨c.z.m, 0, none⟩)) := cell_of hx 13
  have lhx := heap_lt hx
  clear hx
  replace st := Lib.hid T
  clear T
  go_wp2_with fail
  refine MT.mono ?_
  rintro e' w11 ⟨⟨y, rfl⟩, k11, hm11⟩
  have ex11 : EX w11 c (⟨N2, true, 0, 1, 1, 0, 0, 0, 1, 2, rest, all, 1, xs⟩ : Dy) := st.out.ex.meter k11 hm11
  have T11 := st.out.step k11 (by intro b hb; simp only [List.mem_cons, List.not_mem_nil, or_false] at hb; subst hb; simp [feet, blocks]) (by simp [(ndn st.out.ex.nodup (i := 14) (j := 10) rfl rfl (by decide))]) ex11 (Or.inl rfl) rfl
  have hx11 := T11.ex.hx
  unfold XAt at hx11
  have c5 : w11.cell? ⟨c.z.x, 5, none⟩ = some (.int .i64 0) := cell_of hx11 5
  have f5 : w11.frozen? ⟨c.z.x, 5, none⟩ = false := frozen_of hx11 5
  have lx11 := heap_lt hx11
  have hx12 := heap_setCell (i := 5) (v := .int .i64 1) hx11
  have k12 : Kept [c.z.x] w11 (w11.setCell ⟨c.z.x, 5, none⟩ (.int .i64 1)) := (Kept.refl _ _).setCell _ _ (Or.inl (by simp))
  have ex12 : EX (w11.setCell ⟨c.z.x, 5, none⟩ (.int .i64 1)) c (⟨N2, true, 0, 1, 1, 1, 0, 0, 1, 2, rest, all, 1, xs⟩ : Dy) := T11.ex.clocked k12 (clock := 1) hx12
  have T12 := T11.step k12 (by intro b hb; simp only [List.mem_cons, List.not_mem_nil, or_false] at hb; subst hb; simp [feet, blocks]) (by simp [(ndn T11.ex.nodup (i := 14) (j := 0) rfl rfl (by decide))]) ex12 (Or.inl rfl) rfl
  obtain ⟨W12, hW12⟩ : ∃ W, w11.setCell ⟨c.z.x, 5, none⟩ (.int .i64 1) = W := ⟨_, rfl⟩
  rw [hW12] at T12
  obtain ⟨hid, he, hp, hrk, hear⟩ := eqs.out
  have SE := settle63_twin_not T12.ex rfl hm.out (by rw [he]; decide) (by rw [he, hp]; decide) (by rw [hp]; decide) (Int.le_refl _) (show (0 : Int) ≤ 1 by decide) (show (1 : Int) ≤ 65536 by decide) (show (0 : Int) ≤ 1 by decide) (show (1 : Int) ≤ 1024 by decide) (by rw [hp]; show ¬ (0 : Int) + 2 ≤ 1; decide)
  replace st := Lib.hid T12
  clear MT k11 hm11 ex11 T11 hx11 hx12 k12 ex12 T12 c13 lhx hid he hp hrk hear
  go_wp2_with fail
  refine SE.mono ?_
  rintro e' w13 ⟨rfl, ex13, k13⟩
  have T13 := st.out.step k13 (by intro b hb; simp only [List.mem_cons, List.not_mem_nil, or_false] at hb; rcases hb with rfl | rfl | rfl <;> simp [feet, blocks]) (by simp [(ndn st.out.ex.nodup (i := 14) (j := 6) rfl rfl (by decide)), (ndn st.out.ex.nodup (i := 14) (j := 3) rfl rfl (by decide)), (ndn st.out.ex.nodup (i := 14) (j := 10) rfl rfl (by decide))]) ex13 (Or.inl rfl) rfl
  replace st := Lib.hid T13
  clear SE ex13 k13 T13 hW12 c5 f5 lx11
  go_wp2_with fail
  go_returns
  exact ⟨_, _, rfl, N2, all, xs, Lp, C, cl, st.out⟩
end
end Go.Proofs.YtgfbfklnhmndfaaGreat
