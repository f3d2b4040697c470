/- A piece's bytes. -/
import Derived.Test.YtbanlnacoidccaaW15
namespace Go.Proofs.Ytbanlnacoidccaa
open Go.RowKit
set_option linter.unusedSimpArgs false
set_option linter.unusedVariables false

/-- A piece. -/
structure Pc where
  eng : Int
  core : Int
  id : Int
  fn : Int
  fd : Int
  tn : Int
  td : Int
  sl : Bool
def Pc.V (p : Pc) : Value := .agg #[.int .i64 p.eng, .int .i64 p.core, .int .i64 p.id, .int .i64 p.fn, .int .i64 p.fd, .int .i64 p.tn, .int .i64 p.td, .bool p.sl]

abbrev u64 (n : Int) : Int := n % 18446744073709551616
theorem u64_range (n : Int) : 0 ≤ u64 n ∧ u64 n < 18446744073709551616 := by unfold u64; omega

theorem truth_any (b : Bool) (w : World) : Calls Try.prog 26 #[.bool b] w fun e w' => e = .returned (.int .u8 (if b then 1 else 0)) ∧ w = w' := by
  cases b
  · go_enter Try.func26, Try.ntmps26
    go_wp2_with fail
    go_returns
    exact ⟨rfl, rfl⟩
  · go_enter Try.func26, Try.ntmps26
    go_wp2_with fail
    go_returns
    exact ⟨rfl, rfl⟩

/-- A piece's bytes. -/
def encP (p : Pc) : List Int := [p.eng % 256, p.core % 256] ++ be (u64 p.id) 2 ++ be (u64 p.fn) 8 ++ be (u64 p.fd) 8 ++ be (u64 p.tn) 8 ++ be (u64 p.td) 8 ++ [if p.sl then 1 else 0]

theorem encP_len (p : Pc) : (encP p).length = 37 := by simp [encP, be_len]

theorem cells_new (w : World) (cs : List Value) (t : TypeId) {a : Addr} (ha : a = ⟨w.heap.size, 0, none⟩) (j : Nat) (u : Value) (h : cs[j]? = some u) : (w.alloc (.cells cs.toArray t)).cell? (a.add j) = some u := by
  subst ha
  have ea : (⟨w.heap.size, 0, none⟩ : Addr).add j = ⟨w.heap.size, j, none⟩ := by unfold Addr.add; split <;> simp_all
  rw [ea, cell_alloc_new]; simpa using h

theorem OB.lt {w : World} {base : Nat} {v : Value} {xs : List Int} (h : OB w base v xs) {k : Nat} (hk : w.heap.size ≤ k) : v.ownBlock ≠ some k := by
  intro e
  obtain ⟨h1, h2⟩ := h
  rcases h2 with ⟨rfl, _⟩ | ⟨g, cap, cur, rfl, hg, hh, r⟩
  · simp [Value.ownBlock] at e
  · simp [Value.ownBlock] at e
    have := lt_of_block hh
    omega

theorem Gr.of_alloc {w : World} {o : Obj} {v v1 : Value} {w1 : World} (h : Gr (w.alloc o) v w1 v1) : Gr w v w1 v1 := ((Gr.refl w v).alloc o).trans h

theorem Gr.step' {w wr w3 : World} {v u v' : Value} {n : Nat} (h : Gr w v wr u) (o : Obj) (hg : (wr.alloc o).grownBy w3 u.ownBlock) (ha : v'.ownBlock = u.ownBlock ∨ v'.ownBlock = some n) (hn : n = wr.heap.size + 1) : Gr w v w3 v' := by
  subst hn
  exact h.step o hg ha

/-- The cells of a block that the call made itself, behind more bytes. -/
theorem Gr.box {w w1 : World} {base : Nat} {v v1 : Value} {xs : List Int} {cs : Array Value} {t : TypeId} (h : Gr (w.alloc (.cells cs t)) v w1 v1) (hO : OB w base v xs) {j : Nat} {u : Value} (hj : cs[j]? = some u) : w1.cell? ⟨w.heap.size, j, none⟩ = some u := by
  rw [h.cell (p := ⟨w.heap.size, j, none⟩) (by simp) (hO.lt (Nat.le_refl _)), cell_alloc_new, hj]

set_option maxHeartbeats 3200000 in
theorem piece24 (base : Nat) (v : Value) (xs : List Int) (p : Pc) (w : World) (hl : xs.length ≤ 100000000000) (hown : OB w base v xs) (hbase : base ≤ w.heap.size) :
    Calls Try.prog 24 #[v, p.V] w (PutG base v (xs ++ encP p) w) := by
  obtain ⟨i0, hi, hz0, hz1, hz2⟩ := info_parts info5
  obtain ⟨eng, core, id, fn, fd, tn, td, sl⟩ := p
  unfold Pc.V
  go_enter Try.func24, Try.ntmps24
  have hO1 := (hown.below ((Below.refl w.heap.size w).alloc (Nat.le_refl _) (.cells #[.int .i64 eng, .int .i64 core, .int .i64 id, .int .i64 fn, .int .i64 fd, .int .i64 tn, .int .i64 td, .bool sl] 48)))
  have HO := Lib.hid hown
  go_wp2_with (at_builtin; refine Go.wpList_append_own_at _ rfl _ _ 24 rfl base 5 i0 _ 1 1 Try.underlying24 hi hz0 hz1 hz2 rfl (by decide) _ _ _ rfl (hO1.alloc _) ⟨w.heap.size + 1, 0, none⟩ 2 2 [.int .u8 (eng % 256), .int .u8 (core % 256)] rfl rfl ?c1 ?c2 ?c3 ?c4 ?c5 ?_)
  case c1 =>
    exact cells_new _ _ _ (by simp)
  case c2 => exact bv_one [eng % 256, core % 256]
  case c3 => unfold maxLen; omega
  case c4 => omega
  case c5 => simp; omega
  intro v1 w1 hown1 hgrow _ hat
  have G1 := Gr.step' (Gr.refl _ v) _ hgrow hat (by simp)
  have hO2 : OB w1 base v1 (xs ++ [eng % 256, core % 256]) := OB_of_row (k := 2) rfl rfl hown1
  have hs1 : base ≤ w1.heap.size := by
    have h0 := G1.size
    have h1 : (w.alloc (.cells #[.int .i64 eng, .int .i64 core, .int .i64 id, .int .i64 fn, .int .i64 fd, .int .i64 tn, .int .i64 td, .bool sl] 48)).heap.size = w.heap.size + 1 := by simp
    omega
  clear hgrow hown1 hat hO1 hown
  have x2 := G1.box HO.out (j := 2) rfl
  have x3 := G1.box HO.out (j := 3) rfl
  have x4 := G1.box HO.out (j := 4) rfl
  have x5 := G1.box HO.out (j := 5) rfl
  have x6 := G1.box HO.out (j := 6) rfl
  have x7 := G1.box HO.out (j := 7) rfl
  have GH := Lib.hid G1
  clear G1
  have u := u64_range id
  go_wp2_with fail
  refine (put20G base _ _ (u64 id) 2 _ u.1 u.2 (by omega) (by simp; omega) hO2 hs1).mono ?_
  rintro en w2 ⟨v2, rfl, hO3, G2⟩
  have G02 := Lib.hid (GH.out.trans G2)
  have hs2 : base ≤ w2.heap.size := Nat.le_trans hs1 G2.size
  clear GH G2 hO2 x2 x3 x4 x5 x6 x7 hs1 u
  have x3 := G02.out.box HO.out (j := 3) rfl
  have x4 := G02.out.box HO.out (j := 4) rfl
  have x5 := G02.out.box HO.out (j := 5) rfl
  have x6 := G02.out.box HO.out (j := 6) rfl
  have x7 := G02.out.box HO.out (j := 7) rfl
  have H3 := Lib.hid hO3
  go_wp2_with fail
  have hO4 := hO3.below ((Below.refl w2.heap.size w2).alloc (Nat.le_refl _) (.cells #[.int .i64 fn, .int .i64 fd, .int .i64 tn, .int .i64 td] 2))
  have y0 := (Gr.refl (w2.alloc (.cells #[.int .i64 fn, .int .i64 fd, .int .i64 tn, .int .i64 td] 2)) v2).box H3.out (j := 0) rfl
  clear hO3 x3 x4 x5 x6 x7
  refine wp_loop_rounds 5 ?_
  have GW := Gr.refl (w2.alloc (.cells #[.int .i64 fn, .int .i64 fd, .int .i64 tn, .int .i64 td] 2)) v2
  have hb0 : base ≤ (w2.alloc (.cells #[.int .i64 fn, .int .i64 fd, .int .i64 tn, .int .i64 td] 2)).heap.size := by simp; omega
  rw [rounds_succ]
  go_wp2_with fail
  have u := u64_range fn
  refine (put20G base _ _ (u64 fn) 8 _ u.1 u.2 (by omega) (by simp [be_len]; omega) hO4 hb0).mono ?_
  rintro en z1 ⟨q1, rfl, hP1, G⟩
  replace GW := GW.trans G
  have hb1 : base ≤ z1.heap.size := Nat.le_trans hb0 G.size
  clear y0 G u hO4 hb0
  have y1 := GW.box H3.out (j := 1) rfl
  go_wp2_with fail
  rw [rounds_succ]
  go_wp2_with fail
  have u := u64_range fd
  refine (put20G base _ _ (u64 fd) 8 _ u.1 u.2 (by omega) (by simp [be_len]; omega) hP1 hb1).mono ?_
  rintro en z2 ⟨q2, rfl, hP2, G⟩
  replace GW := GW.trans G
  have hb2 : base ≤ z2.heap.size := Nat.le_trans hb1 G.size
  clear y1 G u hP1 hb1
  have y2 := GW.box H3.out (j := 2) rfl
  go_wp2_with fail
  rw [rounds_succ]
  go_wp2_with fail
  have u := u64_range tn
  refine (put20G base _ _ (u64 tn) 8 _ u.1 u.2 (by omega) (by simp [be_len]; omega) hP2 hb2).mono ?_
  rintro en z3 ⟨q3, rfl, hP3, G⟩
  replace GW := GW.trans G
  have hb3 : base ≤ z3.heap.size := Nat.le_trans hb2 G.size
  clear y2 G u hP2 hb2
  have y3 := GW.box H3.out (j := 3) rfl
  go_wp2_with fail
  rw [rounds_succ]
  go_wp2_with fail
  have u := u64_range td
  refine (put20G base _ _ (u64 td) 8 _ u.1 u.2 (by omega) (by simp [be_len]; omega) hP3 hb3).mono ?_
  rintro en z4 ⟨q4, rfl, hP4, G⟩
  replace GW := GW.trans G
  have hb4 : base ≤ z4.heap.size := Nat.le_trans hb3 G.size
  clear y3 G u hP3 hb3
  have y4 := GW.box H3.out (j := 0) rfl
  go_wp2_with fail
  have G03 := Lib.hid (((Gr.of_alloc G02.out).alloc (.cells #[.int .i64 fn, .int .i64 fd, .int .i64 tn, .int .i64 td] 2)).trans GW)
  have x7 := ((G02.out.alloc (.cells #[.int .i64 fn, .int .i64 fd, .int .i64 tn, .int .i64 td] 2)).trans GW).box HO.out (j := 7) rfl
  obtain ⟨L, hL⟩ : ∃ L, xs ++ [eng % 256, core % 256] ++ be (u64 id) 2 ++ be (u64 fn) 8 ++ be (u64 fd) 8 ++ be (u64 tn) 8 ++ be (u64 td) 8 = L := ⟨_, rfl⟩
  rw [hL] at hP4
  have hLl : L.length ≤ 100000001000 := by
    rw [← hL]; simp [be_len]; omega
  have HL := Lib.hid hL
  clear hL
  have HP := Lib.hid hP4
  clear GW y4 G02 hP4
  go_wp2_with fail
  rw [rounds_succ]
  go_wp2_with fail
  refine (truth_any sl _).mono ?_
  rintro en z5 ⟨rfl, rfl⟩
  obtain ⟨bb, hbb⟩ : ∃ bb : Int, (if sl = true then (1 : Int) else 0) = bb := ⟨_, rfl⟩
  rw [hbb]
  have HB := Lib.hid hbb
  clear hbb
  go_wp2_with (at_builtin; refine Go.wpList_append_own_at _ rfl _ _ 24 rfl base 5 i0 _ 1 1 Try.underlying24 hi hz0 hz1 hz2 rfl (by decide) _ _ _ rfl (HP.out.alloc _) ⟨z4.heap.size, 0, none⟩ 1 1 [.int .u8 bb] rfl rfl ?c1 ?c2 ?c3 ?c4 ?c5 ?_)
  case c1 => exact cells_new _ _ _ rfl
  case c2 => exact bv_one [bb]
  case c3 => unfold maxLen; omega
  case c4 => omega
  case c5 => simp; omega
  intro v5 z6 hown5 hgrow _ hat
  have G5 := Gr.step' G03.out _ hgrow hat (by simp)
  have hO5 : OB z6 base v5 (_ ++ [bb]) := OB_of_row (k := 1) rfl rfl hown5
  clear hgrow hown5 hat
  go_wp2_with fail
  go_returns
  exact ⟨v5, rfl, by have e := HL.out; have eb := HB.out; subst e eb; simpa [encP, List.append_assoc] using hO5, G5⟩
end Go.Proofs.Ytbanlnacoidccaa
