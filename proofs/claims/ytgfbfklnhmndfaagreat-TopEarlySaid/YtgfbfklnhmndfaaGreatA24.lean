/- The parts of the top that the law of early release walks through: part 24 of 52. -/
import Derived.Test.YtgfbfklnhmndfaaGreatA1
import Derived.Test.YtgfbfklnhmndfaaGreatA3
import Derived.Test.YtgfbfklnhmndfaaGreatA4
import Derived.Test.YtgfbfklnhmndfaaGreatA9
import Derived.Test.YtgfbfklnhmndfaaGreatA10
import Derived.Test.YtgfbfklnhmndfaaGreatA11
import Derived.Test.YtgfbfklnhmndfaaGreatA13
import Derived.Test.YtgfbfklnhmndfaaGreatA15
import Derived.Test.YtgfbfklnhmndfaaGreatA16
import Derived.Test.YtgfbfklnhmndfaaGreatA20
import Derived.Test.YtgfbfklnhmndfaaGreatA21
import Derived.Test.YtgfbfklnhmndfaaGreatA22
import Derived.Test.YtgfbfklnhmndfaaGreatA23
namespace Go.Proofs.YtgfbfklnhmndfaaGreat
open Go.RowKit
set_option linter.unusedSimpArgs false
set_option linter.unusedVariables false
section
attribute [local go_sem ↓] setCell_drewN alloc_drewN grow_cell grow_frozen setCell_grow grow_size cell_alloc_grow frozen_alloc_grow setCell_alloc_grow cell_grow_alloc_grow frozen_grow_alloc_grow setCell_grow_alloc_grow grow_grow
attribute [local go_sem] lt_len size_setCell
theorem heap_ne {w : World} {a b : Nat} {o o' : Obj} (h : w.heap[a]? = some o) (h' : w.heap[b]? = some o') (hn : o ≠ o') : a ≠ b := by
  rintro rfl
  rw [h] at h'
  exact hn (Option.some.inj h')
/-- Values laid into slots one behind another. -/
def fillA (c : Nat) (vs : Nat → Value) : Nat → Array Value → Array Value
  | 0, u => u
  | k + 1, u => fillA c vs k (u.setIfInBounds (c + k) (vs k))
theorem fill_affine (D : Nat → Nat) (c : Nat) (vs : Nat → Value) : ∀ (k : Nat) (u : Array Value), (∀ i, i < k → D i = c + i) → fill D vs k u = fillA c vs k u
  | 0, u, _ => rfl
  | k + 1, u, h => by
    show fill D vs k (u.setIfInBounds (D k) (vs k)) = fillA c vs k (u.setIfInBounds (c + k) (vs k))
    rw [h k (by omega)]
    exact fill_affine D c vs k _ fun i hi => h i (by omega)
theorem bornA {P : Program} {l : List Oper} {Q : Exit → Act → World → Prop} (c k : Nat) (Y : Nat → Value → Nat → Nat → World → Prop) {id : Nat} {t0 : Array Value} {w0 : World} (hm : P.follows .mixedOrders = true)
    (hb : bornB .any l k t0.size = true) (hc : ((List.range k).all fun i => dstOf l i == c + i) = true)
    (stab : ∀ i v lo hi w w', Y i v lo hi w → (∀ b, lo ≤ b → b < hi → w'.heap[b]? = w.heap[b]?) → Y i v lo hi w')
    (step : ∀ i, i < k → ∀ o, l[i]? = some o → ∀ a w, (∀ s, ((List.range k).all fun i => !(dstOf l i == s)) = true → a.tmps.getD s undef = t0.getD s undef) →
      (∀ j s, dstOf l j = s → o.after.any (fun e => Region.binds .any e && (e.on == j)) = true → ∃ lo hi, Y j (a.tmps.getD s undef) lo hi w) → Kept [] w0 w → Bears P (Y i) o a w)
    (tail : ∀ (vs : Nat → Value) (lo hi : Nat → Nat) w, Kept [] w0 w → (∀ i, i < k → w0.heap.size ≤ lo i ∧ lo i ≤ hi i ∧ hi i ≤ w.heap.size ∧ Y i (vs i) (lo i) (hi i) w) → (∀ i j, i < k → j < k → i ≠ j → hi i ≤ lo j ∨ hi j ≤ lo i) →
      wpAny P .any l.toArray Q (l.length - k) (List.replicate k true ++ List.replicate (l.length - k) false).toArray ⟨fillA c vs k t0, []⟩ w) :
    (Code.region id l.toArray true).wp P Q ⟨t0, []⟩ w0 := by
  refine born k Y hm hb stab step fun vs lo hi w h1 h2 h3 => ?_
  have := tail vs lo hi w h1 h2 h3
  rw [fill_affine (dstOf l) c vs k t0 fun i hi => by simpa using List.all_eq_true.1 hc i (List.mem_range.2 hi)]
  exact this
theorem aCall {P : Program} {l : List Oper} {Q : Exit → Act → World → Prop} {md : Region.Mode} {i : Nat} {oi : Oper} {fuel : Nat} {listed : Array Bool} {a : Act} {w w1 : World} {f : FuncId} {args : Array Value} (ho : l[i]? = some oi)
    (hr : Region.ready md l.toArray listed = [i]) (hw : Region.wanted oi (yielded l.toArray a.tmps) = true) (hrun : (execOp a.eval oi).run P w = .ok (.enter f args) w1)
    (hc : Calls P f args w1 (fun e w' => ∃ v, e = .returned v ∧ wpAny P md l.toArray Q fuel (listed.setIfInBounds i true) (a.put oi.dst v) w')) : wpAny P md l.toArray Q (fuel + 1) listed a w := by
  refine wpAny_all hr (by simp) ?_
  intro j hj
  obtain rfl := List.mem_singleton.1 hj
  unfold wpOp
  have hi : l.toArray[j]? = some oi := by simpa using ho
  simp only [hi, hw, if_true, Oper.wp, hrun, Oper.upon]
  refine .inl (Calls.mono hc ?_)
  rintro e w' ⟨v, rfl, h⟩
  exact h
/-- The engine by slots, on one core. -/
structure QuantAt (w : World) (q sp N L : Nat) (early : Bool) (id : Int) : Prop where
  hq : w.heap[q]? = some (.cells #[.int .i64 1, .bool early, .pointer (some ⟨sp, 0, none⟩)] 101 (0, 0))
  hs : w.heap[sp]? = some (.cells #[.int .i64 1, .map (some N), .map (some L)] 136 (0, 0))
  hN : Half w N id
  hL : Half w L id
theorem QuantAt.kept {S : List Nat} {w W : World} {q sp N L : Nat} {early : Bool} {id : Int} (h : QuantAt w q sp N L early id) (hk : Kept S w W) (h1 : q ∉ S) (h2 : sp ∉ S) (h3 : N ∉ S) (h4 : L ∉ S) : QuantAt W q sp N L early id :=
  ⟨hk.at h.hq h1, hk.at h.hs h2, h.hN.kept hk h3, h.hL.kept hk h4⟩
def slotY (j q : Nat) (id e p rel got cnt clock : Int) (early : Bool) (i : Nat) (v : Value) (lo hi : Nat) (w : World) : Prop := match i with
  | 0 => v = .pointer (some ⟨j, 0, none⟩)
  | 1 => ∃ g cap cur, lo ≤ g ∧ g < hi ∧ v = .slice (some ⟨g, 0, none⟩) 1 cap ∧ 1 ≤ cap ∧ w.heap[g]? = some (.cells (taskL id e p true rel got cnt cur).toArray 143 (0, 0))
  | 2 => v = .int .i64 clock
  | 3 => v = .pointer (some ⟨q, 0, none⟩)
  | 4 => v = .pointer (some ⟨q, 0, none⟩)
  | 5 => v = .pointer (some ⟨q, 0, none⟩)
  | 6 => v = .int .i64 1
  | 7 => v = .pointer (some ⟨q, 0, none⟩)
  | 8 => v = .pointer (some ⟨q, 0, none⟩)
  | 9 => v = .pointer (some ⟨q, 1, none⟩)
  | 10 => v = .bool early
  | _ => True
set_option maxHeartbeats 4000000 in
theorem Slot56_yes {w : World} {j s M L n : Nat} {id e p : Int} {rel got cnt : Int} {rest : List Value} (h : JobsAt w j s M L n id e p true rel got cnt rest) (q sp N T : Nat) (early : Bool) (hQ : QuantAt w q sp N T early id) (hMT : M ≠ T) (clock : Int) (hge : got ≠ e) (hg0 : 0 ≤ got) (hg1 : got < 2147483648) (hc0 : 0 ≤ clock) (hc1 : clock < 2147483648)
    (C : ∀ W, Calls Tryz.prog 125 #[taskV id e p true rel got cnt, .int .i64 clock, .bool early] W (RetG (.bool true) W))
    (K : ∀ W, Calls Tryz.prog 127 #[taskV id e p true rel got cnt] W fun e' w' => ∃ a b c d : Int, e' = .returned (.agg #[.int .i64 a, .int .i64 b, .int .i64 c, .int .i64 d]) ∧ Kept [] W w') :
    Calls Tryz.prog 56 #[.pointer (some ⟨q, 0, none⟩), .pointer (some ⟨j, 0, none⟩), .int .i64 clock] w fun e' w' => ∃ G cap cur, e' = .returned (.slice (some ⟨G, 0, none⟩) 1 cap) ∧ 1 ≤ cap ∧ w.heap.size ≤ G ∧ w'.heap[G]? = some (.cells (pieceL 1 0 id clock 1 (clock + 1) 1 false cur).toArray 53 (0, 0)) ∧ Kept [L, sp, T] w w' ∧
      w'.heap[L]? = some (.cells (taskL id e p true rel (got + 1) cnt rest).toArray 143 (0, 0)) ∧ ∃ N', w.heap.size ≤ N' ∧ QuantAt w' q sp N' T early id := by
  have hqs : q ≠ sp := heap_ne hQ.hq hQ.hs (by simp)
  have hjs : j ≠ sp := heap_ne h.hj hQ.hs (by simp)
  have hjL : j ≠ L := heap_ne h.hj h.hL (by simp)
  have hqL : q ≠ L := heap_ne hQ.hq h.hL (by simp)
  have hsL : sp ≠ L := heap_ne hQ.hs h.hL (by simp)
  have hne : Hid (q ≠ sp ∧ j ≠ sp ∧ j ≠ L ∧ q ≠ L ∧ sp ≠ L ∧ M ≠ T ∧ got ≠ e ∧ 0 ≤ got ∧ got < 2147483648) := Lib.hid ⟨hqs, hjs, hjL, hqL, hsL, hMT, hge, hg0, hg1⟩
  have c0 : w.cell? ⟨q, 0, none⟩ = some (.int .i64 1) := cell_of hQ.hq 0
  have hw : IntKind.i64.wrap (clock + 1) = clock + 1 := IntWalk.i64_in _ (by omega)
  replace hQ := Lib.hid hQ
  replace h := Lib.hid h
  replace C := Lib.hid C
  replace K := Lib.hid K
  clear hqs hjs hjL hqL hsL hMT hge hg0 hg1 hc0 hc1 c0
  go_enter Tryz.func56, Tryz.ntmps56
  go_wp2_with fail
  refine bornA 21 11 (slotY j q id e p rel got cnt clock early) (by kernel_rfl) (by kernel_rfl) (by kernel_rfl) ?_ ?_ ?_
  · intro i v lo hi w w' hY hw
    unfold slotY at *
    split at hY
    · exact hY
    · obtain ⟨g, cap, cur, h1, h2, h3, h4, h5⟩ := hY
      exact ⟨g, cap, cur, h1, h2, h3, h4, by rw [hw g h1 h2]; exact h5⟩
    all_goals first | exact hY | trivial
  · intro i hi o ho a W hr hd hk
    have c0 : W.cell? ⟨q, 0, none⟩ = some (.int .i64 1) := cell_of (hk.at hQ.out.hq (by simp)) 0
    have c1 : W.cell? ⟨q, 1, none⟩ = some (.bool early) := cell_of (hk.at hQ.out.hq (by simp)) 1
    have lq := heap_lt (hk.at hQ.out.hq (by simp))
    rcases i with _ | _ | _ | _ | _ | _ | _ | _ | _ | _ | _ | i
    · cases ho
      have h0 : a.tmps.getD 1 undef = .pointer (some ⟨j, 0, none⟩) := hr 1 (by kernel_rfl)
      clear hr hd hk
      exact born_value _ (by go_simp; try rfl) rfl
    · cases ho
      obtain ⟨_, _, h8⟩ := hd 0 21 (by kernel_rfl) (by kernel_rfl)
      have h8 : a.tmps.getD 21 undef = .pointer (some ⟨j, 0, none⟩) := h8
      have A := All85 (h.out.kept0 hk)
      clear hr hd hk
      refine Or.inr ⟨_, _, W, by go_simp; first | done | rfl | exact ⟨rfl, rfl⟩, A.mono ?_⟩
      rintro e' w' ⟨g, cap, cur, rfl, hg, hgt, hcap, hk⟩
      exact ⟨_, rfl, hk, g, cap, cur, hg, heap_lt hgt, rfl, hcap, hgt⟩
    · cases ho
      have h0 : a.tmps.getD 2 undef = .int .i64 clock := hr 2 (by kernel_rfl)
      clear hr hd hk
      exact born_value _ (by go_simp; try rfl) rfl
    · cases ho
      have h0 : a.tmps.getD 0 undef = .pointer (some ⟨q, 0, none⟩) := hr 0 (by kernel_rfl)
      clear hr hd hk
      exact born_value _ (by go_simp; try rfl) rfl
    · cases ho
      obtain ⟨_, _, h8⟩ := hd 3 24 (by kernel_rfl) (by kernel_rfl)
      have h8 : a.tmps.getD 24 undef = .pointer (some ⟨q, 0, none⟩) := h8
      clear hr hd hk
      exact born_value _ (by go_simp; try rfl) rfl
    · cases ho
      obtain ⟨_, _, h8⟩ := hd 4 25 (by kernel_rfl) (by kernel_rfl)
      have h8 : a.tmps.getD 25 undef = .pointer (some ⟨q, 0, none⟩) := h8
      clear hr hd hk
      exact born_value _ (by go_simp; try rfl) rfl
    · cases ho
      obtain ⟨_, _, h8⟩ := hd 5 26 (by kernel_rfl) (by kernel_rfl)
      have h8 : a.tmps.getD 26 undef = .pointer (some ⟨q, 0, none⟩) := h8
      clear hr hd hk
      exact born_value _ (by go_simp; try rfl) rfl
    · cases ho
      have h0 : a.tmps.getD 0 undef = .pointer (some ⟨q, 0, none⟩) := hr 0 (by kernel_rfl)
      clear hr hd hk
      exact born_value _ (by go_simp; try rfl) rfl
    · cases ho
      obtain ⟨_, _, h8⟩ := hd 7 28 (by kernel_rfl) (by kernel_rfl)
      have h8 : a.tmps.getD 28 undef = .pointer (some ⟨q, 0, none⟩) := h8
      clear hr hd hk
      exact born_value _ (by go_simp; try rfl) rfl
    · cases ho
      obtain ⟨_, _, h8⟩ := hd 8 29 (by kernel_rfl) (by kernel_rfl)
      have h8 : a.tmps.getD 29 undef = .pointer (some ⟨q, 0, none⟩) := h8
      clear hr hd hk
      exact born_value _ (by go_simp; try rfl) rfl
    · cases ho
      obtain ⟨_, _, h8⟩ := hd 9 30 (by kernel_rfl) (by kernel_rfl)
      have h8 : a.tmps.getD 30 undef = .pointer (some ⟨q, 1, none⟩) := h8
      clear hr hd hk
      exact born_value _ (by go_simp; try rfl) rfl
    · omega
  · intro vs lo hi W hK h1 h2
    have y0 := (h1 0 (by omega)).2.2.2
    have y1 := h1 1 (by omega)
    have y2 := (h1 2 (by omega)).2.2.2
    have y3 := (h1 3 (by omega)).2.2.2
    have y4 := (h1 4 (by omega)).2.2.2
    have y5 := (h1 5 (by omega)).2.2.2
    have y6 := (h1 6 (by omega)).2.2.2
    have y7 := (h1 7 (by omega)).2.2.2
    have y8 := (h1 8 (by omega)).2.2.2
    have y9 := (h1 9 (by omega)).2.2.2
    have y10 := (h1 10 (by omega)).2.2.2
    obtain ⟨z1, z2, z3, g, cap, cur, z4, z5, y1, z6, z7⟩ := y1
    have y0 : vs 0 = .pointer (some ⟨j, 0, none⟩) := y0
    have y2 : vs 2 = .int .i64 clock := y2
    have y3 : vs 3 = .pointer (some ⟨q, 0, none⟩) := y3
    have y4 : vs 4 = .pointer (some ⟨q, 0, none⟩) := y4
    have y5 : vs 5 = .pointer (some ⟨q, 0, none⟩) := y5
    have y6 : vs 6 = .int .i64 1 := y6
    have y7 : vs 7 = .pointer (some ⟨q, 0, none⟩) := y7
    have y8 : vs 8 = .pointer (some ⟨q, 0, none⟩) := y8
    have y9 : vs 9 = .pointer (some ⟨q, 1, none⟩) := y9
    have y10 : vs 10 = .bool early := y10
    simp only [fillA, Nat.reduceAdd, List.setIfInBounds_toArray, List.set_cons_succ, List.set_cons_zero]
    rw [y0, y1, y2, y3, y4, y5, y6, y7, y8, y9, y10]
    show wpAny _ _ _ _ 2 _ _ _
    have hgw : w.heap.size ≤ g := Nat.le_trans z1 z4
    have B := Best86_yes g cap id e p rel got cnt cur clock early W ⟨z7, h.out.hid⟩ z6 C.out K.out
    have st := Lib.hid (And.intro hK (And.intro z7 hgw))
    clear y0 y1 y2 y3 y4 y5 y6 y7 y8 y9 y10 h1 h2 z1 z2 z3 z4 z5 z6 z7 hK hgw
    refine aCall (i := 11) rfl (by kernel_rfl) (by rfl) (by go_simp; first | done | rfl | exact ⟨rfl, rfl⟩) (B.mono ?_)
    rintro e' w1 ⟨G, c', rfl, b1, b2, b3, b4⟩
    refine ⟨_, rfl, ?_⟩
    try simp only [Act.put, zA, zB, zC]
    refine aVal (i := 12) (v := ?_) rfl (by kernel_rfl) (by rfl) ?_ ?_
    rotate_left 1
    · go_simp; all_goals with_reducible rfl
    try simp only [Act.put, zA, zB, zC]
    refine wpAny_done (by kernel_rfl) ?_ _
    obtain ⟨hK, z7, hgw⟩ := st.out
    obtain ⟨e1, e2, e3, e4, e5, e6, e7, e8, e9⟩ := hne.out
    have k1 : Kept [] w w1 := Kept.trans hK b4 (by simp) (by simp)
    have Q1 := hQ.out.kept k1 (by simp) (by simp) (by simp) (by simp)
    have J1 := h.out.kept0 k1
    have lW := hK.1
    have ls := heap_lt hQ.out.hs
    have lj := heap_lt h.out.hj
    have hGn : G ≠ sp := by omega
    have Si := Sit87_one sp N T G c' id w1 Q1.hs Q1.hN Q1.hL b3 b2 hGn
    have q2 : w1.cell? ⟨q, 2, none⟩ = some (.pointer (some ⟨sp, 0, none⟩)) := cell_of Q1.hq 2
    have lq := heap_lt Q1.hq
    have hG : w.heap.size ≤ G := by omega
    replace st := Lib.hid (And.intro k1 (And.intro Q1 (And.intro J1 (And.intro b3 (And.intro b2 hG)))))
    clear hK z7 hgw e1 e2 e3 e4 e5 e6 e7 e8 e9 k1 Q1 J1 lW ls lj hGn b1 b2 b3 b4 B hG
    go_wp2_with fail
    refine Si.mono ?_
    rintro e' w2 ⟨G2, c2, rfl, s1, s2, s4, s5, N2, s6⟩
    obtain ⟨k1, Q1, J1, b3, b2, hG⟩ := st.out
    obtain ⟨e1, e2, e3, e4, e5, e6, e7, e8, e9⟩ := hne.out
    obtain ⟨xa, xb, xd, js⟩ := J1.hs
    obtain ⟨xe, xc, xt, xh⟩ := Q1.hL
    have n1 : s ≠ sp := heap_ne js Q1.hs (by simp)
    have n2 : M ≠ sp := heap_ne J1.hM Q1.hs (by simp)
    have n3 : j ≠ T := heap_ne J1.hj xt (by simp)
    have n4 : s ≠ T := heap_ne js xt (by simp)
    have n5 : L ≠ T := heap_ne J1.hL xt (by simp)
    have n6 : q ≠ T := heap_ne Q1.hq xt (by simp)
    have l0 := heap_lt h.out.hj
    have l1 := heap_lt hQ.out.hs
    have l2 := hQ.out.hL.lt
    have l3 := heap_lt h.out.hL
    have J2 := J1.kept s5 (by simp [e2, n3]) (by simp [n1, n4]) (by simp [n2, e6]) (by simp [Ne.symm e5, n5])
    have hGw : w2.cell? ⟨G, 0, none⟩ = some (.int .i64 id) := (World.cell?_of_block (a := ⟨G, 0, none⟩) (s5.2 G b2 (by simp; omega))).trans b3
    have lGw := s5.lt b2
    have Tk := Task50 J2
    have k2 : Kept [sp, T] w w2 := Kept.trans k1 s5 (by simp) (fun x hx => Or.inl hx)
    have Q2 : QuantAt w2 q sp N2 T early id := ⟨s5.at Q1.hq (by simp [e1, n6]), s6.2.1, s6.2.2.1, s6.2.2.2⟩
    have hc := s6.1
    replace st := Lib.hid (And.intro k2 (And.intro Q2 (And.intro J2 (And.intro s1 (And.intro s4 (And.intro (show w.heap.size ≤ G2 ∧ w.heap.size ≤ N2 by have := k1.1; omega) (And.intro n5 (And.intro n3 (And.intro n4 n6)))))))))
    clear k1 Q1 J1 b3 b2 hG e1 e2 e3 e4 e5 e6 e7 e8 e9 js xt xh n1 n2 n3 n4 n5 n6 l0 l1 l2 l3 J2 k2 Q2 hc s1 s2 s4 s5 s6 Si
    go_wp2_with fail
    refine wp_loop_rounds 2 ?_
    rw [rounds_succ]
    go_wp2_with fail
    refine Tk.mono ?_
    rintro e' w3 ⟨rfl, k3⟩
    obtain ⟨k2, Q2, J2, s1, s4, ⟨m1, m2⟩, m3, m4, m5, m6⟩ := st.out
    obtain ⟨e1, e2, e3, e4, e5, e6, e7, e8, e9⟩ := hne.out
    have k3a : Kept [] w2 (w3.alloc (.cells #[.int .i64 id, .int .i64 e, .int .i64 p, .bool false, .bool false, .bool false, .bool true, .int .i64 rel, .int .i64 got, .bool false, .int .i64 cnt] 143)) := k3.alloc _
    have Gi := Give88 (J2.kept0 k3a) e7 e8 e9
    have tb : (w3.alloc (.cells #[.int .i64 id, .int .i64 e, .int .i64 p, .bool false, .bool false, .bool false, .bool true, .int .i64 rel, .int .i64 got, .bool false, .int .i64 cnt] 143)).heap[w3.heap.size]? = some (.cells #[.int .i64 id, .int .i64 e, .int .i64 p, .bool false, .bool false, .bool false, .bool true, .int .i64 rel, .int .i64 got, .bool false, .int .i64 cnt] 143) := heap_alloc_new
    replace st := Lib.hid (And.intro (Kept.trans k2 k3a (U := [sp, T]) (by simp) (by simp)) (And.intro (Q2.kept k3a (by simp) (by simp) (by simp) (by simp)) (And.intro (J2.kept0 k3a) (And.intro ((World.cell?_of_block (a := ⟨G2, 0, none⟩) (k3a.2 G2 s4 (by simp))).trans s1) (And.intro (k3a.lt s4) (And.intro (And.intro m1 m2) (And.intro m3 (And.intro m4 (And.intro m5 (And.intro m6 tb))))))))))
    clear k2 Q2 J2 s1 s4 m1 m2 m3 m4 m5 m6 e1 e2 e3 e4 e5 e6 e7 e8 e9 k3 k3a tb Tk hGw lGw
    go_wp2_with fail
    refine Gi.mono ?_
    rintro e' w4 ⟨rfl, k4, hL4⟩
    obtain ⟨k3, Q3, J3, s1, s4, ⟨m1, m2⟩, m3, m4, m5, m6, tb⟩ := st.out
    obtain ⟨e1, e2, e3, e4, e5, e6, e7, e8, e9⟩ := hne.out
    have l3 := heap_lt h.out.hL
    have lw3 : w.heap.size ≤ w3.heap.size := by have := k3.1; have := heap_lt J3.hL; simp at *; omega
    have kw4 : Kept [L, sp, T] w w4 := Kept.trans k3 k4 (fun x hx => by simp at hx ⊢; omega) (fun x hx => Or.inl (by simp at hx ⊢; omega))
    have Q4 : QuantAt w4 q sp N2 T early id := Q3.kept k4 (by simp; omega) (by simp; omega) (by simp; omega) (by simp; omega)
    have tb4 := k4.at tb (by simp; omega)
    have t9 : w4.cell? ⟨w3.heap.size, 9, none⟩ = some (.bool false) := cell_of tb4 9
    have lt9 := heap_lt tb4
    have g2 : w4.cell? ⟨G2, 0, none⟩ = some (.int .i64 0) := (World.cell?_of_block (a := ⟨G2, 0, none⟩) (k4.2 G2 s4 (by simp; omega))).trans s1
    have lg2 := k4.lt s4
    have lG4 : w.heap.size ≤ w4.heap.size := kw4.1
    obtain ⟨i0, hi, hz0, hz1, hby⟩ := info_of infoPiece
    have H1 := fun w => whole89 clock w
    have H2 := fun w => whole89 (clock + 1) w
    replace st := Lib.hid (And.intro kw4 (And.intro Q4 (And.intro hL4 (And.intro m2 lG4))))
    clear k3 Q3 J3 s1 s4 m1 m2 m3 m4 m5 m6 tb e1 e2 e3 e4 e5 e6 e7 e8 e9 l3 lw3 kw4 Q4 tb4 k4 hL4 lG4 Gi
    go_wp2_with fail
    refine wp_region_any (by kernel_rfl) ?_
    rw [List.size_toArray]
    refine yTake (i := 0) rfl (by kernel_rfl) (fun _ _ _ h => h) (by rfl) (fun _ => by go_simp; first | done | rfl) ?_
    try simp only [Act.put, zA, zB, zC]
    refine wpAnyS_any (S := fun X => ∃ os q, grow w4 os q = X) (k := 14) _ _ _ ?_ _ (gr_drew (gr_refl _))
    refine sTake (i := 1) (v := ?_) rfl (by kernel_rfl) (fun _ _ _ h => h) (gLoad (by rfl) ?_) ?_
    rotate_left 1
    · intro W hW; (try dsimp only at hW); obtain ⟨os', q', hW'⟩ := hW; subst hW'; go_simp; all_goals with_reducible rfl
    try simp only [Act.put, zA, zB, zC]
    refine sTake (i := 2) (v := ?_) rfl (by kernel_rfl) (fun _ _ _ h => h) (gLoad (by rfl) ?_) ?_
    rotate_left 1
    · intro W hW; (try dsimp only at hW); obtain ⟨os', q', hW'⟩ := hW; subst hW'; go_simp; all_goals with_reducible rfl
    try simp only [Act.put, zA, zB, zC]
    refine sTake (i := 3) (v := ?_) rfl (by kernel_rfl) (fun _ _ _ h => h) (gLoad (by rfl) ?_) ?_
    rotate_left 1
    · intro W hW; (try dsimp only at hW); obtain ⟨os', q', hW'⟩ := hW; subst hW'; go_simp; all_goals with_reducible rfl
    try simp only [Act.put, zA, zB, zC]
    refine sTake (i := 4) (v := ?_) rfl (by kernel_rfl) (fun _ _ _ h => h) (gLoad (by rfl) ?_) ?_
    rotate_left 1
    · intro W hW; (try dsimp only at hW); obtain ⟨os', q', hW'⟩ := hW; subst hW'; go_simp; all_goals with_reducible rfl
    try simp only [Act.put, zA, zB, zC]
    refine sTake (i := 5) (v := ?_) rfl (by kernel_rfl) (fun _ _ _ h => h) (gLoad (by rfl) ?_) ?_
    rotate_left 1
    · intro W hW; (try dsimp only at hW); obtain ⟨os', q', hW'⟩ := hW; subst hW'; go_simp; all_goals with_reducible rfl
    try simp only [Act.put, zA, zB, zC]
    refine sTake (i := 6) (v := ?_) rfl (by kernel_rfl) (fun _ _ _ h => h) (gLoad (by rfl) ?_) ?_
    rotate_left 1
    · intro W hW; (try dsimp only at hW); obtain ⟨os', q', hW'⟩ := hW; subst hW'; go_simp; all_goals with_reducible rfl
    try simp only [Act.put, zA, zB, zC]
    refine sTake (i := 7) rfl (by kernel_rfl) (fun _ _ _ h => h) (gCall (by rfl) ?_ (fun W hW => RetG.into H1 hW)) ?_
    · intro W hW; go_simp; all_goals with_reducible rfl
    try simp only [Act.put, zA, zB, zC]
    refine sTake (i := 8) (v := ?_) rfl (by kernel_rfl) (fun _ _ _ h => h) (gLoad (by rfl) ?_) ?_
    rotate_left 1
    · intro W hW; (try dsimp only at hW); obtain ⟨os', q', hW'⟩ := hW; subst hW'; go_simp; all_goals with_reducible rfl
    try simp only [Act.put, zA, zB, zC]
    refine sTake (i := 9) (v := ?_) rfl (by kernel_rfl) (fun _ _ _ h => h) (gLoad (by rfl) ?_) ?_
    rotate_left 1
    · intro W hW; (try dsimp only at hW); obtain ⟨os', q', hW'⟩ := hW; subst hW'; go_simp; all_goals with_reducible rfl
    try simp only [Act.put, zA, zB, zC]
    refine sTake (i := 10) rfl (by kernel_rfl) (fun _ _ _ h => h) (gCall (by rfl) ?_ (fun W hW => RetG.into H2 hW)) ?_
    · intro W hW; go_simp; all_goals with_reducible rfl
    try simp only [Act.put, zA, zB, zC]
    refine sTake (i := 11) (v := ?_) rfl (by kernel_rfl) (fun _ _ _ h => h) (gLoad (by rfl) ?_) ?_
    rotate_left 1
    · intro W hW; (try dsimp only at hW); obtain ⟨os', q', hW'⟩ := hW; subst hW'; go_simp; all_goals with_reducible rfl
    try simp only [Act.put, zA, zB, zC]
    refine sTake (i := 12) (v := ?_) rfl (by kernel_rfl) (fun _ _ _ h => h) (gLoad (by rfl) ?_) ?_
    rotate_left 1
    · intro W hW; (try dsimp only at hW); obtain ⟨os', q', hW'⟩ := hW; subst hW'; go_simp; all_goals with_reducible rfl
    try simp only [Act.put, zA, zB, zC]
    refine sTake (i := 13) (v := ?_) rfl (by kernel_rfl) (fun _ _ _ h => h) (gLoad (by rfl) ?_) ?_
    rotate_left 1
    · intro W hW; (try dsimp only at hW); obtain ⟨os', q', hW'⟩ := hW; subst hW'; go_simp; all_goals with_reducible rfl
    try simp only [Act.put, zA, zB, zC]
    refine sRest (by kernel_rfl) ?_
    intro X hX
    obtain ⟨os3, q3, rfl⟩ := hX
    generalize hX : Go.Proofs.YtgfbfklnhmndfaaGreat.grow w4 os3 q3 = X
    refine aValW (i := 14) (v := .slice (some ⟨X.heap.size, 0, none⟩) 1 1) (w' := X.alloc (.cells #[.int .i64 1, .int .i64 0, .int .i64 id, .int .i64 clock, .int .i64 1, .int .i64 (clock + 1), .int .i64 1, .bool false] 53)) rfl (by kernel_rfl) (by rfl) (by kernel_rfl) ?_
    try simp only [Act.put, zA, zB, zC]
    obtain ⟨v', w5, hr, hown, hk5, hat⟩ := app_run Tryz.underlying32 hi hz0 hz1 rfl rfl (by decide) (X.alloc (.cells #[.int .i64 1, .int .i64 0, .int .i64 id, .int .i64 clock, .int .i64 1, .int .i64 (clock + 1), .int .i64 1, .bool false] 53)) (.slice none 0 0) 0 [] (Or.inl ⟨none, rfl, rfl, rfl⟩) X.heap.size 1 1 [.int .i64 1, .int .i64 0, .int .i64 id, .int .i64 clock, .int .i64 1, .int .i64 (clock + 1), .int .i64 1, .bool false] rfl (fun j u hj => by rw [cell_of heap_alloc_new j, ← hj]; simp) (fun u hu => by simp only [List.mem_cons, List.not_mem_nil, or_false] at hu; rcases hu with h | h | h | h | h | h | h | h <;> (subst h; rfl)) (by decide) (by decide) hby 32
    refine aValW (i := 15) (v := v') (w' := w5) rfl (by kernel_rfl) (by rfl) (run_app_op (T := 32) _ _ rfl _ _ rfl rfl hr) ?_
    try simp only [Act.put, zA, zB, zC]
    refine aVal (i := 16) (v := ?_) rfl (by kernel_rfl) (by rfl) ?_ ?_
    rotate_left 1
    · go_simp; all_goals with_reducible rfl
    try simp only [Act.put, zA, zB, zC]
    refine wpAny_done (by kernel_rfl) ?_ _
    obtain ⟨kw4, Q4, hL4, m2, lG4⟩ := st.out
    have kX : Kept [] w4 X := by rw [← hX]; exact (Kept.refl _ _).grow _ _
    have k5 : Kept [] w4 w5 := Kept.trans (kX.alloc _) hk5 (by simp) (by simp [own])
    obtain ⟨r1, r2⟩ := hown
    rcases r2 with ⟨_, r2⟩ | ⟨G3, c3, cur, rfl, _, r4, r5, r6, r7, r8⟩
    · cases r2
    have hG3 : X.heap.size ≤ G3 := by
      rcases hat with ⟨hat, _⟩ | ⟨G', hat, hG⟩
      · cases hat
      · cases hat; simp at hG; omega
    have hcur : cur = (pieceL 1 0 id clock 1 (clock + 1) 1 false (cur.toList.drop 8)).toArray := by
      have h1 := List.take_append_drop 8 cur.toList
      have r8' : cur.toList.take 8 = pieceL 1 0 id clock 1 (clock + 1) 1 false [] := r8
      rw [r8'] at h1
      apply Array.ext'
      rw [← h1]
      simp
    rw [hcur] at r4
    have S90 := fun (f : Value) w => SortP90 (some ⟨G3, 0, none⟩) 1 c3 f (by omega) w
    have hGw : w.heap.size ≤ G3 := by have := kX.1; omega
    replace st := Lib.hid (And.intro (Kept.trans kw4 k5 (U := [L, sp, T]) (fun x hx => hx) (by simp)) (And.intro (Q4.kept k5 (by simp) (by simp) (by simp) (by simp)) (And.intro (k5.at hL4 (by simp)) (And.intro m2 (And.intro r4 (And.intro r5 hGw))))))
    clear kw4 Q4 hL4 m2 lG4 kX k5 r1 r4 r5 r6 r7 r8 hG3 hcur hGw hk5 hat hr hX H1 H2 t9 g2 lt9 lg2
    go_wp2_with fail
    rw [rounds_succ]
    go_wp2_with fail
    refine (S90 _ _).mono ?_
    rintro e' w6 ⟨rfl, os4, q4, rfl⟩
    go_wp2_with fail
    go_returns
    obtain ⟨kw, Qw, hLw, m2, r4, r5, hGw⟩ := st.out
    have kg : Kept [] w5 (Go.Proofs.YtgfbfklnhmndfaaGreat.grow w5 os4 q4) := (Kept.refl _ _).grow _ _
    exact ⟨G3, c3, _, rfl, r5, hGw, kg.at r4 (by simp), Kept.trans kw kg (fun x hx => hx) (by simp), kg.at hLw (by simp), N2, m2, Qw.kept kg (by simp) (by simp) (by simp) (by simp)⟩
end
section
attribute [local go_sem ↓] setCell_drewN alloc_drewN grow_cell grow_frozen setCell_grow grow_size cell_alloc_grow frozen_alloc_grow setCell_alloc_grow cell_grow_alloc_grow frozen_grow_alloc_grow setCell_grow_alloc_grow grow_grow
attribute [local go_sem] lt_len size_setCell
set_option maxHeartbeats 4000000 in
theorem Slot56_no {w : World} {j s M L n : Nat} {id e p : Int} {rel got cnt : Int} {rest : List Value} (h : JobsAt w j s M L n id e p true rel got cnt rest) (q sp N T : Nat) (early : Bool) (hQ : QuantAt w q sp N T early id) (hMT : M ≠ T) (clock : Int) (C : ∀ W, Calls Tryz.prog 125 #[taskV id e p true rel got cnt, .int .i64 clock, .bool early] W fun e' w' => e' = .returned (.bool false) ∧ ∃ os q, Go.Proofs.YtgfbfklnhmndfaaGreat.grow W os q = w') :
    Calls Tryz.prog 56 #[.pointer (some ⟨q, 0, none⟩), .pointer (some ⟨j, 0, none⟩), .int .i64 clock] w fun e' w' => e' = .returned (.slice none 0 0) ∧ Kept [sp] w w' ∧ ∃ N', w.heap.size ≤ N' ∧ QuantAt w' q sp N' T early id := by
  have hqs : q ≠ sp := heap_ne hQ.hq hQ.hs (by simp)
  have hjs : j ≠ sp := heap_ne h.hj hQ.hs (by simp)
  have hjL : j ≠ L := heap_ne h.hj h.hL (by simp)
  have hqL : q ≠ L := heap_ne hQ.hq h.hL (by simp)
  have hsL : sp ≠ L := heap_ne hQ.hs h.hL (by simp)
  have hne : Hid (q ≠ sp ∧ j ≠ sp ∧ j ≠ L ∧ q ≠ L ∧ sp ≠ L ∧ M ≠ T) := Lib.hid ⟨hqs, hjs, hjL, hqL, hsL, hMT⟩
  have c0 : w.cell? ⟨q, 0, none⟩ = some (.int .i64 1) := cell_of hQ.hq 0
  replace hQ := Lib.hid hQ
  replace h := Lib.hid h
  replace C := Lib.hid C
  clear hqs hjs hjL hqL hsL hMT c0
  go_enter Tryz.func56, Tryz.ntmps56
  go_wp2_with fail
  refine bornA 21 11 (slotY j q id e p rel got cnt clock early) (by kernel_rfl) (by kernel_rfl) (by kernel_rfl) ?_ ?_ ?_
  · intro i v lo hi w w' hY hw
    unfold slotY at *
    split at hY
    · exact hY
    · obtain ⟨g, cap, cur, h1, h2, h3, h4, h5⟩ := hY
      exact ⟨g, cap, cur, h1, h2, h3, h4, by rw [hw g h1 h2]; exact h5⟩
    all_goals first | exact hY | trivial
  · intro i hi o ho a W hr hd hk
    have c0 : W.cell? ⟨q, 0, none⟩ = some (.int .i64 1) := cell_of (hk.at hQ.out.hq (by simp)) 0
    have c1 : W.cell? ⟨q, 1, none⟩ = some (.bool early) := cell_of (hk.at hQ.out.hq (by simp)) 1
    have lq := heap_lt (hk.at hQ.out.hq (by simp))
    rcases i with _ | _ | _ | _ | _ | _ | _ | _ | _ | _ | _ | i
    · cases ho
      have h0 : a.tmps.getD 1 undef = .pointer (some ⟨j, 0, none⟩) := hr 1 (by kernel_rfl)
      clear hr hd hk
      exact born_value _ (by go_simp; try rfl) rfl
    · cases ho
      obtain ⟨_, _, h8⟩ := hd 0 21 (by kernel_rfl) (by kernel_rfl)
      have h8 : a.tmps.getD 21 undef = .pointer (some ⟨j, 0, none⟩) := h8
      have A := All85 (h.out.kept0 hk)
      clear hr hd hk
      refine Or.inr ⟨_, _, W, by go_simp; first | done | rfl | exact ⟨rfl, rfl⟩, A.mono ?_⟩
      rintro e' w' ⟨g, cap, cur, rfl, hg, hgt, hcap, hk⟩
      exact ⟨_, rfl, hk, g, cap, cur, hg, heap_lt hgt, rfl, hcap, hgt⟩
    · cases ho
      have h0 : a.tmps.getD 2 undef = .int .i64 clock := hr 2 (by kernel_rfl)
      clear hr hd hk
      exact born_value _ (by go_simp; try rfl) rfl
    · cases ho
      have h0 : a.tmps.getD 0 undef = .pointer (some ⟨q, 0, none⟩) := hr 0 (by kernel_rfl)
      clear hr hd hk
      exact born_value _ (by go_simp; try rfl) rfl
    · cases ho
      obtain ⟨_, _, h8⟩ := hd 3 24 (by kernel_rfl) (by kernel_rfl)
      have h8 : a.tmps.getD 24 undef = .pointer (some ⟨q, 0, none⟩) := h8
      clear hr hd hk
      exact born_value _ (by go_simp; try rfl) rfl
    · cases ho
      obtain ⟨_, _, h8⟩ := hd 4 25 (by kernel_rfl) (by kernel_rfl)
      have h8 : a.tmps.getD 25 undef = .pointer (some ⟨q, 0, none⟩) := h8
      clear hr hd hk
      exact born_value _ (by go_simp; try rfl) rfl
    · cases ho
      obtain ⟨_, _, h8⟩ := hd 5 26 (by kernel_rfl) (by kernel_rfl)
      have h8 : a.tmps.getD 26 undef = .pointer (some ⟨q, 0, none⟩) := h8
      clear hr hd hk
      exact born_value _ (by go_simp; try rfl) rfl
    · cases ho
      have h0 : a.tmps.getD 0 undef = .pointer (some ⟨q, 0, none⟩) := hr 0 (by kernel_rfl)
      clear hr hd hk
      exact born_value _ (by go_simp; try rfl) rfl
    · cases ho
      obtain ⟨_, _, h8⟩ := hd 7 28 (by kernel_rfl) (by kernel_rfl)
      have h8 : a.tmps.getD 28 undef = .pointer (some ⟨q, 0, none⟩) := h8
      clear hr hd hk
      exact born_value _ (by go_simp; try rfl) rfl
    · cases ho
      obtain ⟨_, _, h8⟩ := hd 8 29 (by kernel_rfl) (by kernel_rfl)
      have h8 : a.tmps.getD 29 undef = .pointer (some ⟨q, 0, none⟩) := h8
      clear hr hd hk
      exact born_value _ (by go_simp; try rfl) rfl
    · cases ho
      obtain ⟨_, _, h8⟩ := hd 9 30 (by kernel_rfl) (by kernel_rfl)
      have h8 : a.tmps.getD 30 undef = .pointer (some ⟨q, 1, none⟩) := h8
      clear hr hd hk
      exact born_value _ (by go_simp; try rfl) rfl
    · omega
  · intro vs lo hi W hK h1 h2
    have y0 := (h1 0 (by omega)).2.2.2
    have y1 := h1 1 (by omega)
    have y2 := (h1 2 (by omega)).2.2.2
    have y3 := (h1 3 (by omega)).2.2.2
    have y4 := (h1 4 (by omega)).2.2.2
    have y5 := (h1 5 (by omega)).2.2.2
    have y6 := (h1 6 (by omega)).2.2.2
    have y7 := (h1 7 (by omega)).2.2.2
    have y8 := (h1 8 (by omega)).2.2.2
    have y9 := (h1 9 (by omega)).2.2.2
    have y10 := (h1 10 (by omega)).2.2.2
    obtain ⟨z1, z2, z3, g, cap, cur, z4, z5, y1, z6, z7⟩ := y1
    have y0 : vs 0 = .pointer (some ⟨j, 0, none⟩) := y0
    have y2 : vs 2 = .int .i64 clock := y2
    have y3 : vs 3 = .pointer (some ⟨q, 0, none⟩) := y3
    have y4 : vs 4 = .pointer (some ⟨q, 0, none⟩) := y4
    have y5 : vs 5 = .pointer (some ⟨q, 0, none⟩) := y5
    have y6 : vs 6 = .int .i64 1 := y6
    have y7 : vs 7 = .pointer (some ⟨q, 0, none⟩) := y7
    have y8 : vs 8 = .pointer (some ⟨q, 0, none⟩) := y8
    have y9 : vs 9 = .pointer (some ⟨q, 1, none⟩) := y9
    have y10 : vs 10 = .bool early := y10
    simp only [fillA, Nat.reduceAdd, List.setIfInBounds_toArray, List.set_cons_succ, List.set_cons_zero]
    rw [y0, y1, y2, y3, y4, y5, y6, y7, y8, y9, y10]
    show wpAny _ _ _ _ 2 _ _ _
    have hgw : w.heap.size ≤ g := Nat.le_trans z1 z4
    have B := Best86_no g cap id e p rel got cnt cur clock early W ⟨z7, h.out.hid⟩ z6 C.out
    have st := Lib.hid (And.intro hK (And.intro z7 hgw))
    clear y0 y1 y2 y3 y4 y5 y6 y7 y8 y9 y10 h1 h2 z1 z2 z3 z4 z5 z6 z7 hK hgw
    refine aCall (i := 11) rfl (by kernel_rfl) (by rfl) (by go_simp; first | done | rfl | exact ⟨rfl, rfl⟩) (B.mono ?_)
    rintro e' w1 ⟨rfl, b4⟩
    refine ⟨_, rfl, ?_⟩
    try simp only [Act.put, zA, zB, zC]
    refine aVal (i := 12) (v := ?_) rfl (by kernel_rfl) (by rfl) ?_ ?_
    rotate_left 1
    · go_simp; all_goals with_reducible rfl
    try simp only [Act.put, zA, zB, zC]
    refine wpAny_done (by kernel_rfl) ?_ _
    obtain ⟨hK, z7, hgw⟩ := st.out
    have k1 : Kept [] w w1 := Kept.trans hK b4 (by simp) (by simp)
    have Q1 := hQ.out.kept k1 (by simp) (by simp) (by simp) (by simp)
    have Si := Sit87_none sp N T w1 Q1.hs
    have q2 : w1.cell? ⟨q, 2, none⟩ = some (.pointer (some ⟨sp, 0, none⟩)) := cell_of Q1.hq 2
    have lq := heap_lt Q1.hq
    replace st := Lib.hid (And.intro k1 Q1)
    clear hK z7 hgw k1 Q1 b4 B
    have S90 := fun (f : Value) w => SortP90 none 0 0 f (by omega) w
    go_wp2_with fail
    refine Si.mono ?_
    rintro e' w2 ⟨rfl, s5, N2, s6, s7, s8⟩
    replace st := Lib.hid (And.intro st.out (And.intro s5 (And.intro s6 (And.intro s7 s8))))
    clear s5 s6 s7 s8 Si
    go_wp2_with fail
    refine wp_loop_rounds 1 ?_
    rw [rounds_succ]
    go_wp2_with fail
    refine (S90 _ _).mono ?_
    rintro e' w6 ⟨rfl, os4, q4, rfl⟩
    go_wp2_with fail
    go_returns
    obtain ⟨⟨k1, Q1⟩, s5, s6, s7, s8⟩ := st.out
    obtain ⟨e1, e2, e3, e4, e5, e6⟩ := hne.out
    obtain ⟨xe, xc, xt, xh⟩ := Q1.hL
    have n6 : sp ≠ T := heap_ne Q1.hs xt (by simp)
    have kg : Kept [] w2 (Go.Proofs.YtgfbfklnhmndfaaGreat.grow w2 os4 q4) := (Kept.refl _ _).grow _ _
    have Q2 : QuantAt w2 q sp N2 T early id := ⟨s5.at Q1.hq (by simp [e1]), s7, ⟨_, _, s8, Or.inl rfl⟩, Q1.hL.kept s5 (by simp [Ne.symm n6])⟩
    exact ⟨rfl, Kept.trans (Kept.trans k1 s5 (U := [sp]) (by simp) (fun x hx => Or.inl hx)) kg (fun x hx => hx) (by simp), N2, Nat.le_trans k1.1 s6, Q2.kept kg (by simp) (by simp) (by simp) (by simp)⟩
end
end Go.Proofs.YtgfbfklnhmndfaaGreat
