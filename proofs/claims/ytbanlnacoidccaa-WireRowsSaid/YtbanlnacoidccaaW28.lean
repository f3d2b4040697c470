/- Commands, replies, one behind another, are read one by one. -/
import Derived.Test.YtbanlnacoidccaaO6
namespace Go.Proofs.Ytbanlnacoidccaa
open Go.RowKit
set_option linter.unusedSimpArgs false
set_option linter.unusedVariables false

def encC (c : Cmd) : List Int := enc c.op c.id c.e c.p
def validC (c : Cmd) : Bool := valid c.op c.id c.e c.p
def encRr (r : RpA) : List Int := encR r.err r.clock r.x.ps

theorem OB.own_ge {w : World} {base g : Nat} {v : Value} {xs : List Int} (h : OB w base v xs) (hg : v.ownBlock = some g) : base ≤ g := ownBlock_ge h hg
theorem Sl.kept_block {w w' : World} {A : Option Addr} {len cap : Nat} {xs : List Int} (h : Sl w A len cap xs) (hs : w.heap.size ≤ w'.heap.size) (hb : ∀ b o, A = some ⟨b, o, none⟩ → w'.heap[b]? = w.heap[b]?) : Sl w' A len cap xs :=
  ⟨h.long, h.room, h.top, h.all, fun h0 => by
    obtain ⟨b, o, e, hlt, hB⟩ := h.at_ h0
    exact ⟨b, o, e, Nat.lt_of_lt_of_le hlt hs, hB.kept (hb b o e)⟩⟩
theorem gr_cells {w w' : World} {v v' : Value} {b : Nat} {cs : List Value} (h : ∀ (j : Nat) (u : Value), cs[j]? = some u → w.cell? ((⟨b, 0, none⟩ : Addr).add j) = some u) (hG : Gr w v w' v') (hb : b < w.heap.size) (hv : v.ownBlock ≠ some b) : ∀ (j : Nat) (u : Value), cs[j]? = some u → w'.cell? ((⟨b, 0, none⟩ : Addr).add j) = some u := by
  intro j u hu
  have e : ((⟨b, 0, none⟩ : Addr).add j).block = b := by unfold Addr.add; split <;> rfl
  rw [World.cell?_of_block (w := w) (a := (⟨b, 0, none⟩ : Addr).add j) (by rw [e]; exact hG.block b hb hv)]
  exact h j u hu

theorem drop_flat {α : Type} (f : α → List Int) (xs : List α) (j : Nat) (z : α) (hj : j < xs.length) : (xs.drop j).flatMap f = f (xs.getD j z) ++ (xs.drop (j + 1)).flatMap f := by
  rw [List.drop_eq_getElem_cons hj, List.flatMap_cons]
  simp [List.getD_eq_getElem?_getD, List.getElem?_eq_getElem hj]

theorem take_flatG {α : Type} (f : α → List Int) (xs : List α) (k : Nat) (z : α) (hk : k < xs.length) : (xs.take k).flatMap f ++ f (xs.getD k z) = (xs.take (k + 1)).flatMap f := by
  rw [List.take_succ_eq_append_getElem hk, List.flatMap_append]
  simp [List.getD_eq_getElem?_getD, List.getElem?_eq_getElem hk]
theorem flatR_le (rl : List RpA) (j : Nat) (h : ∀ t, t < j → (rl.getD t RpA.zero).x.ps.length ≤ 30) : ((rl.take j).flatMap encRr).length ≤ j * 1117 := by
  induction j with
  | zero => simp
  | succ j ih =>
    by_cases hj : j < rl.length
    · rw [← take_flatG encRr rl j RpA.zero hj, List.length_append]
      have h1 := ih (fun t ht => h t (by omega))
      have h2 := h j (by omega)
      have h3 : (encRr (rl.getD j RpA.zero)).length = 7 + (rl.getD j RpA.zero).x.ps.length * 37 := encR_len _ _ _
      rw [h3]
      generalize (rl.getD j RpA.zero).x.ps.length = a at h2
      generalize ((rl.take j).flatMap encRr).length = b at h1
      clear h3 h ih
      rw [Nat.succ_mul]
      generalize j * 1117 = c at h1 ⊢
      omega
    · have e : rl.take (j + 1) = rl.take j := by rw [List.take_of_length_le (by omega), List.take_of_length_le (by omega)]
      rw [e, Nat.succ_mul]
      exact Nat.le_trans (ih (fun t ht => h t (by omega))) (Nat.le_add_right _ _)
theorem hX_some {w : World} {X : Option Addr} {N cx : Nat} {err clock : Int} {ps : List Pc} (h : Sl w X N cx (encR err clock ps)) : X = none → cx = 0 := fun e => by
  have hl := h.long
  rw [encR_len] at hl
  obtain ⟨b, o, e2, _⟩ := h.at_ (by omega)
  rw [e] at e2
  cases e2

theorem sl_of {w : World} {base n : Nat} {v : Value} {xs : List Int} (hl : Hid (xs.length = n)) (ha : Hid (AllB xs)) (h : OB w base v xs) : ∃ D cd, v = .slice D n cd ∧ True := by
  obtain ⟨D, cd, rfl, _⟩ := h.sl ha.out
  rw [hl.out]
  exact ⟨D, cd, rfl, trivial⟩

/-- What is left behind the first k, as the walk spells it. -/
theorem OV.cutw {w : World} {base k : Nat} {A : Option Addr} {n cap : Nat} {xs : List Int} (h : OV w base (.slice A n cap) xs) (hk : k ≤ n) :
    OV w base (.slice (if cap = k then A else Option.map (fun x => x.add k) A) (n - k) (cap - k)) (xs.drop k) := by
  obtain ⟨b, o, ⟨rfl, h2⟩ | ⟨rfl, rfl⟩⟩ := h.cut hk
  · have e : Option.map (fun x : Addr => x.add k) (some ⟨b, o, none⟩) = some ⟨b, o + k, none⟩ := by
      simp only [Option.map_some]
      unfold Addr.add
      split <;> simp_all
    rw [e]
    exact h2
  · rcases h with ⟨e, rfl⟩ | ⟨g, o', c', e, _⟩
    · injection e with _ _ e3
      subst e3
      have : k = 0 := by omega
      subst this
      exact Or.inl ⟨by simp, by simp⟩
    · injection e with e1
      cases e1

theorem encC_le (c : Cmd) : (encC c).length ≤ 11 := enc_len_le _ _ _ _
theorem flatC_le (cs : List Cmd) : (cs.flatMap encC).length ≤ cs.length * 11 := by
  induction cs with
  | nil => simp
  | cons c cs ih =>
    rw [List.flatMap_cons, List.length_append, List.length_cons]
    have := encC_le c
    omega

set_option maxRecDepth 100000 in
set_option maxHeartbeats 1600000 in
theorem rows_big (l : SA Cmd) (r : SA RpA) (hx : 100 < l.len ∨ 40 < r.len) (w : World) :
    Calls Try.prog 9 #[l.V, r.V] w fun e w' => e = .returned (.bool true) ∧ Below w.heap.size w w' := by
  obtain ⟨A, n, cap, ps⟩ := l
  obtain ⟨a, len, ca, zs⟩ := r
  have hx' : 100 < n ∨ 40 < len := hx
  clear hx
  unfold SA.V
  by_cases h3 : 100 < n
  · have hd : decide ((100 : Int) < n) = true := by simp; omega
    have hd' : decide (100 < n) = true := by simp; omega
    have hi : (100 : Int) < n := by omega
    go_enter Try.func9, Try.ntmps9
    go_wp2_with fail
    refine (awake_any _).mono ?_
    rintro en w1 ⟨rfl, hb1⟩
    go_wp2_with fail
    go_returns
    exact ⟨rfl, hb1⟩
  · have h1 : 40 < len := by omega
    have hd : decide ((100 : Int) < n) = false := by simp; omega
    have hd' : decide (100 < n) = false := by simp; omega
    have hi : (n : Int) ≤ 100 := by omega
    have gd : decide ((40 : Int) < len) = true := by simp; omega
    have gd' : decide (40 < len) = true := by simp; omega
    have gi : (40 : Int) < len := by omega
    go_enter Try.func9, Try.ntmps9
    go_wp2_with fail
    refine (awake_any _).mono ?_
    rintro en w1 ⟨rfl, hb1⟩
    go_wp2_with fail
    go_returns
    exact ⟨rfl, hb1⟩

set_option maxRecDepth 100000 in
set_option maxHeartbeats 12800000 in
theorem rows_yes (l : SA Cmd) (r : SA RpA) (hl : l.len ≤ 100) (hr : r.len ≤ 40) (w : World) (hL : RG Cmd.cells 4 Cmd.zero w l.a l.len l.cap l.xs) (hR : RG RpA.cells 3 RpA.zero w r.a r.len r.cap r.xs) (hT : ∀ k, k < r.len → (r.xs.getD k RpA.zero).There w) :
    Calls Try.prog 9 #[l.V, r.V] w fun e w' => e = .returned (.bool true) ∧ Below w.heap.size w w' := by
  have hE := eqC
  obtain ⟨A, n, cap, cl⟩ := l
  obtain ⟨A2, m, cap2, rl⟩ := r
  have hn : n ≤ 100 := hl
  have hm : m ≤ 40 := hr
  have HL : Hid (RG Cmd.cells 4 Cmd.zero w A n cap cl) := hL
  have HR : Hid (RG RpA.cells 3 RpA.zero w A2 m cap2 rl) := hR
  have HT : Hid (∀ k, k < m → (rl.getD k RpA.zero).There w) := hT
  clear hl hr hL hR hT
  unfold SA.V
  have hd : decide ((100 : Int) < n) = false := by simp; omega
  have hd' : decide (100 < n) = false := by simp; omega
  have hi : (n : Int) ≤ 100 := by omega
  have gd : decide ((40 : Int) < m) = false := by simp; omega
  have gd' : decide (40 < m) = false := by simp; omega
  have gi : (m : Int) ≤ 40 := by omega
  have hroom := HL.out.room
  have htop := HL.out.top
  have hroom2 := HR.out.room
  have htop2 := HR.out.top
  go_enter Try.func9, Try.ntmps9
  go_wp2_with fail
  refine (awake_any _).mono ?_
  rintro en w1 ⟨rfl, hb1⟩
  go_wp2_with fail
  go_loopw [5, 6, 7] (fun b s i wr => ∃ k : Nat, k ≤ n ∧ i = .int .i64 k ∧ ∃ cs : List Cmd, BC wr w.heap.size b s (cs.flatMap encC) cs ∧ (∀ c ∈ cs, validC c = true) ∧ cs.length ≤ k ∧ Below w.heap.size w wr) (fun _ _ i _ => n - (intOf i).toNat)
  case atStart => exact ⟨0, by omega, rfl, [], ⟨Or.inl ⟨rfl, rfl⟩, ⟨rfl, Or.inl ⟨rfl, rfl⟩⟩, fun g hg => by simp [Value.ownBlock] at hg⟩, fun c hc => by simp at hc, by simp, hb1⟩
  case round =>
    obtain ⟨k, hk, rfl, cs, hBC, hv, hcl, hB⟩ := hrel
    have HBC := Lib.hid hBC
    have HV := Lib.hid hv
    have HB := Lib.hid hB
    clear hBC hv hB
    by_cases hlt : k < n
    · have hd1 : decide ((k : Int) < n) = true := by simp; omega
      have hd2 : decide (k < n) = true := by simp; omega
      have hki : (k : Int) < n := by omega
      have hL9 := HL.out.below HB.out
      obtain ⟨bl, ol, rfl, hbl, hc⟩ := HL.out.at_ (by omega)
      obtain ⟨bl', ol', e1, hbl9, hc9⟩ := hL9.at_ (by omega)
      injection e1 with e1
      injection e1 with e2 e3
      subst e2 e3
      have hcc := hc9 k hlt
      generalize cl.getD k Cmd.zero = c at hcc
      have y0 := hcc 0 (.int .i64 c.op) rfl
      have y1 := hcc 1 (.int .i64 c.id) rfl
      have y2 := hcc 2 (.int .i64 c.e) rfl
      have y3 := hcc 3 (.int .i64 c.p) rfl
      rw [Nat.add_zero] at y0
      clear hcc hc9 hc hL9
      cases hval : validC c with
      | false =>
        have HVL : Hid (valid c.op c.id c.e c.p = false) := hval
        clear hval
        go_wp2_with fail
        refine (bytes_no c.op c.id c.e c.p _ HVL.out).mono ?_
        rintro en w2 ⟨v, rfl, hO, hb2⟩
        have HB2 := Lib.hid (HB.out.trans (hb2.mono HB.out.size))
        have HC2 := Lib.hid (HBC.out.below hb2)
        clear hb2 hO y0 y1 y2 y3
        go_wp2_with fail
        go_roundw
        case rel => exact ⟨k + 1, by omega, by go_num, cs, HC2.out, HV.out, by omega, HB2.out⟩
        case measure => simp [intOf]; omega
      | true =>
        have HVL : Hid (valid c.op c.id c.e c.p = true) := hval
        have HA := Lib.hid (@enc_allB _ c.id c.e c.p (valid_parts HVL.out).1)
        clear hval
        go_wp2_with fail
        refine (bytes_yes c.op c.id c.e c.p _ HVL.out).mono ?_
        rintro en w2 ⟨v, rfl, hO, hb2⟩
        obtain ⟨X, cx, rfl, hX⟩ := hO.sl HA.out
        have HB2 := Lib.hid (HB.out.trans (hb2.mono HB.out.size))
        have HC2 := Lib.hid (HBC.out.below hb2)
        obtain ⟨N, hN⟩ : ∃ N, (enc c.op c.id c.e c.p).length = N := ⟨_, rfl⟩
        rw [hN] at hX ⊢
        have hN11 : N ≤ 11 := by rw [← hN]; exact encC_le c
        have hN0 : 0 < N := by rw [← hN, enc_len]; unfold csize; omega
        have HN := Lib.hid hN
        obtain ⟨bx, ox, rfl, hbx, _⟩ := hX.at_ hN0
        have hwb : w.heap.size ≤ wr.heap.size := HB.out.size
        have hw2 : w.heap.size ≤ w2.heap.size := HB2.out.size
        have hwr2 : wr.heap.size ≤ w2.heap.size := hb2.size
        have hbx2 : wr.heap.size ≤ bx := by
          have := hO.own_ge (g := bx) rfl
          exact this
        have HSS := Lib.hid (show ∀ w', Below w.heap.size w w' → (w'.cell? ⟨bl, ol + k * 4, none⟩ = some (.int .i64 c.op) ∧ w'.cell? ⟨bl, ol + k * 4 + 1, none⟩ = some (.int .i64 c.id) ∧ w'.cell? ⟨bl, ol + k * 4 + 2, none⟩ = some (.int .i64 c.e) ∧ w'.cell? ⟨bl, ol + k * 4 + 3, none⟩ = some (.int .i64 c.p)) from fun w' hb' => by
          have q0 := (HB.out.cell (p := ⟨bl, ol + k * 4, none⟩) hbl).symm.trans y0
          have q1 := (HB.out.cell (p := ⟨bl, ol + k * 4 + 1, none⟩) hbl).symm.trans y1
          have q2 := (HB.out.cell (p := ⟨bl, ol + k * 4 + 2, none⟩) hbl).symm.trans y2
          have q3 := (HB.out.cell (p := ⟨bl, ol + k * 4 + 3, none⟩) hbl).symm.trans y3
          exact ⟨(hb'.cell (p := ⟨bl, ol + k * 4, none⟩) hbl).trans q0, (hb'.cell (p := ⟨bl, ol + k * 4 + 1, none⟩) hbl).trans q1, (hb'.cell (p := ⟨bl, ol + k * 4 + 2, none⟩) hbl).trans q2, (hb'.cell (p := ⟨bl, ol + k * 4 + 3, none⟩) hbl).trans q3⟩)
        have hbl' := flatC_le cs
        have hlen : (cs.flatMap encC).length + N ≤ 1000000000 := by omega
        have hcl' : cs.length ≤ 100000 := by omega
        have hba := (Below.refl w2.heap.size w2).alloc (Nat.le_refl _) (.cells #[.int .i64 c.op, .int .i64 c.id, .int .i64 c.e, .int .i64 c.p] 23)
        have H0 : Hid (BC w2.drew w.heap.size u5 u6 (cs.flatMap encC) cs) := HC2.out.below (Below.refl w2.heap.size w2).drew
        have H1 : Hid (BC (w2.alloc (.cells #[.int .i64 c.op, .int .i64 c.id, .int .i64 c.e, .int .i64 c.p] 23)).drew w.heap.size u5 u6 (cs.flatMap encC) cs) := HC2.out.below hba.drew
        have X0 : Hid (Sl w2.drew (some ⟨bx, ox, none⟩) N cx (enc c.op c.id c.e c.p)) := hX.below (Below.refl w2.heap.size w2).drew
        have X1 : Hid (Sl (w2.alloc (.cells #[.int .i64 c.op, .int .i64 c.id, .int .i64 c.e, .int .i64 c.p] 23)).drew (some ⟨bx, ox, none⟩) N cx (enc c.op c.id c.e c.p)) := hX.below hba.drew
        have hB0 : Hid (Below w.heap.size w w2.drew) := HB2.out.drew
        have hB1 : Hid (Below w.heap.size w (w2.alloc (.cells #[.int .i64 c.op, .int .i64 c.id, .int .i64 c.e, .int .i64 c.p] 23)).drew) := (HB2.out.alloc hw2 (.cells #[.int .i64 c.op, .int .i64 c.id, .int .i64 c.e, .int .i64 c.p] 23)).drew
        have hs0 : w.heap.size ≤ w2.drew.heap.size := hw2
        have hs1 : w.heap.size ≤ (w2.alloc (.cells #[.int .i64 c.op, .int .i64 c.id, .int .i64 c.e, .int .i64 c.p] 23)).drew.heap.size := hB1.out.size
        have hXn : (some (⟨bx, ox, none⟩ : Addr)) = none → cx = 0 := fun h => by cases h
        have HXN := Lib.hid hXn
        have hsb : ∀ g, u6.ownBlock = some g → g < wr.heap.size := fun g hg => (HBC.out.oc.lt hg).2
        have hub : ∀ g, u5.ownBlock = some g → g < wr.heap.size := fun g hg => (HBC.out.ov.lt hg).2
        have HXK := Lib.hid (show ∀ w' s', Gr (w2.alloc (.cells #[.int .i64 c.op, .int .i64 c.id, .int .i64 c.e, .int .i64 c.p] 23)).drew u6 w' s' → Sl w' (some ⟨bx, ox, none⟩) N cx (enc c.op c.id c.e c.p) from fun w' s' hG => X1.out.kept_block hG.size fun b o e => by
          injection e with e
          injection e with e4 e5
          subst e4
          exact hG.block bx (by have := X1.out.at_ hN0; obtain ⟨_, _, e, hl, _⟩ := this; injection e with e; injection e with e; rw [e]; exact hl) (fun e => by have := hsb bx e; omega))
        have HNC := Lib.hid (show ∀ (j : Nat) (u : Value), c.cells[j]? = some u → (w2.alloc (.cells #[.int .i64 c.op, .int .i64 c.id, .int .i64 c.e, .int .i64 c.p] 23)).drew.cell? ((⟨w2.heap.size, 0, none⟩ : Addr).add j) = some u from fun j u hu => cells_new w2 c.cells 23 rfl j u hu)
        have HUB := Lib.hid hub
        have hfl : (cs ++ [c]).flatMap encC = cs.flatMap encC ++ enc c.op c.id c.e c.p := by rw [List.flatMap_append]; simp [encC]
        have HFL := Lib.hid hfl
        clear hfl hX hO hb2 hN hsb hub hba hXn HC2 y0 y1 y2 y3
        go_wp2_with fail
        go_region_held3 (fun w' => w'.cell? ⟨bl, ol + k * 4, none⟩ = some (.int .i64 c.op) ∧ w'.cell? ⟨bl, ol + k * 4 + 1, none⟩ = some (.int .i64 c.id) ∧ w'.cell? ⟨bl, ol + k * 4 + 2, none⟩ = some (.int .i64 c.e) ∧ w'.cell? ⟨bl, ol + k * 4 + 3, none⟩ = some (.int .i64 c.p))
          (first | assumption | exact HSS.out _ hB0.out | exact HSS.out _ hB1.out | exact HSS.out _ (HB3.out.alloc HB3.out.size _) | exact HSS.out _ HB4.out | exact HSS.out _ HB3.out)
          (first
            | (refine step_append_ov (by rfl) _ _ (by rfl) w.heap.size u5 (cs.flatMap encC) (by rfl) H0.out.ov (some ⟨bx, ox, none⟩) N cx (enc c.op c.id c.e c.p) (by rfl) X0.out HXN.out hlen hs0 ?_; intro v3 w3 hO3 hG3; have HC3 := Lib.hid (H0.out.addB hO3 hG3); have HB3 := Lib.hid (hB0.out.trans (H0.out.ov.grb hG3 hs0)); have HZ := Lib.hid HB3.out.size; clear hO3 hG3)
            | (refine step_append_ov (by rfl) _ _ (by rfl) w.heap.size u5 (cs.flatMap encC) (by rfl) H1.out.ov (some ⟨bx, ox, none⟩) N cx (enc c.op c.id c.e c.p) (by rfl) X1.out HXN.out hlen hs1 ?_; intro v3 w3 hO3 hG3; have HC3 := Lib.hid (H1.out.addB hO3 hG3); have HB3 := Lib.hid (hB1.out.trans (H1.out.ov.grb hG3 hs1)); have HD3 := Lib.hid (gr_cells HNC.out hG3 (by simp) (fun e => by have := HUB.out _ e; omega)); clear hO3 hG3)
            | (refine step_append_oc (by rfl) _ _ (by rfl) w.heap.size u6 cs (by rfl) H1.out.oc ⟨w2.heap.size, 0, none⟩ c _ (by rfl) HNC.out hcl' hs1 ?_; intro v3 w3 hO3 hG3; have HC3 := Lib.hid (H1.out.addS hO3 hG3); have HB3 := Lib.hid (hB1.out.trans (H1.out.oc.grb hG3 hs1)); have HX3 := Lib.hid (HXK.out _ _ hG3); clear hO3 hG3)
            | (refine step_append_oc (by rfl) _ _ (by rfl) w.heap.size u6 cs (by rfl) HC3.out.oc ⟨w2.heap.size, 0, none⟩ c _ (by rfl) HD3.out hcl' HB3.out.size ?_; intro v4 w4 hO4 hG4; have HC4 := Lib.hid (HC3.out.addS hO4 hG4); have HB4 := Lib.hid (HB3.out.trans (HC3.out.oc.grb hG4 HB3.out.size)); clear hO4 hG4)
            | (refine step_append_oc (by rfl) _ _ (by rfl) w.heap.size u6 cs (by rfl) (HC3.out.below ((Below.refl w3.heap.size w3).alloc (Nat.le_refl _) (.cells #[.int .i64 c.op, .int .i64 c.id, .int .i64 c.e, .int .i64 c.p] 23))).oc ⟨w3.heap.size, 0, none⟩ c _ (by rfl) (cells_new w3 c.cells 23 rfl) hcl' ((HB3.out.alloc HB3.out.size (.cells #[.int .i64 c.op, .int .i64 c.id, .int .i64 c.e, .int .i64 c.p] 23)).size) ?_; intro v4 w4 hO4 hG4; have HC4 := Lib.hid ((HC3.out.below ((Below.refl w3.heap.size w3).alloc (Nat.le_refl _) (.cells #[.int .i64 c.op, .int .i64 c.id, .int .i64 c.e, .int .i64 c.p] 23))).addS hO4 hG4); have HB4 := Lib.hid ((HB3.out.alloc HB3.out.size (.cells #[.int .i64 c.op, .int .i64 c.id, .int .i64 c.e, .int .i64 c.p] 23)).trans ((HC3.out.below ((Below.refl w3.heap.size w3).alloc (Nat.le_refl _) (.cells #[.int .i64 c.op, .int .i64 c.id, .int .i64 c.e, .int .i64 c.p] 23))).oc.grb hG4 (HB3.out.alloc HB3.out.size (.cells #[.int .i64 c.op, .int .i64 c.id, .int .i64 c.e, .int .i64 c.p] 23)).size)); clear hO4 hG4)
            | (refine step_append_ov (by rfl) _ _ (by rfl) w.heap.size u5 (cs.flatMap encC) (by rfl) HC3.out.ov (some ⟨bx, ox, none⟩) N cx (enc c.op c.id c.e c.p) (by rfl) HX3.out HXN.out hlen HB3.out.size ?_; intro v4 w4 hO4 hG4; have HC4 := Lib.hid (HC3.out.addB hO4 hG4); have HB4 := Lib.hid (HB3.out.trans (HC3.out.ov.grb hG4 HB3.out.size)); clear hO4 hG4))
        all_goals
          go_wp2_with fail
          go_roundw
          case rel => exact ⟨k + 1, by omega, by go_num, cs ++ [c], by rw [HFL.out]; exact HC4.out, fun d hd => by
            rcases List.mem_append.1 hd with h | h
            · exact HV.out d h
            · simp at h; rw [h]; exact HVL.out, by simp; omega, HB4.out⟩
          case measure => simp [intOf]; omega
    · have hkn : k = n := by omega
      have hd1 : decide ((k : Int) < n) = false := by simp; omega
      have hd2 : decide (k < n) = false := by simp; omega
      have hki : (n : Int) ≤ k := by omega
      clear hkn
      obtain ⟨A6, c6, e6, hR6⟩ := HBC.out.oc.read
      subst e6
      have HR6 := Lib.hid hR6
      have hroom6 := hR6.room
      have htop6 := hR6.top
      obtain ⟨q, hq⟩ : ∃ q, cs.length = q := ⟨_, rfl⟩
      rw [hq] at HR6 hroom6 ⊢
      have hqk : q ≤ 100 := by omega
      have HQ := Lib.hid hq
      have HO := Lib.hid HBC.out.ov
      clear hR6 hq hcl
      go_wp2_with fail
      go_loopw [5, 10] (fun b i wx => ∃ j : Nat, j ≤ q ∧ i = .int .i64 j ∧ OV wx w.heap.size b ((cs.drop j).flatMap encC) ∧ Below wr.heap.size wr wx) (fun _ i _ => q - (intOf i).toNat)
      case atStart => exact ⟨0, by omega, rfl, HO.out, Below.refl _ _⟩
      case round =>
        obtain ⟨j, hj, rfl, hO, hBx⟩ := hrel
        by_cases hlt2 : j < q
        · have hj1 : decide ((j : Int) < q) = true := by simp; omega
          have hj2 : decide (j < q) = true := by simp; omega
          have hji : (j : Int) < q := by omega
          obtain ⟨A5, c5, e5, hS5, _⟩ := hO.sl
          subst e5
          obtain ⟨c, hc⟩ : ∃ c, cs.getD j Cmd.zero = c := ⟨_, rfl⟩
          have hcm : c ∈ cs := by
            rw [← hc, List.getD_eq_getElem?_getD, List.getElem?_eq_getElem (by rw [HQ.out]; exact hlt2)]
            exact List.getElem_mem _
          have hdr : (cs.drop j).flatMap encC = enc c.op c.id c.e c.p ++ (cs.drop (j + 1)).flatMap encC := by
            rw [← hc]; exact drop_flat encC cs j Cmd.zero (by rw [HQ.out]; exact hlt2)
          have HVL : Hid (valid c.op c.id c.e c.p = true) := HV.out c hcm
          obtain ⟨M, hM⟩ : ∃ M, ((cs.drop j).flatMap encC).length = M := ⟨_, rfl⟩
          rw [hM] at hS5 hO ⊢
          have HOJ := Lib.hid hO
          have HM := Lib.hid hM
          rw [hdr] at hS5
          have HS5 := Lib.hid hS5
          have F0 := read_enc HVL.out ((cs.drop (j + 1)).flatMap encC)
          have F3 := Lib.hid F0
          have hR9 := HR6.out.below hBx
          obtain ⟨b6, o6, rfl, hb6, hc6⟩ := hR9.at_ (by omega)
          have hcc := hc6 j hlt2
          rw [hc] at hcc
          have HC9 := Lib.hid hcc
          have HDR := Lib.hid hdr
          clear hcm hdr hM hS5 F0 hR9 hc6 hcc hO
          go_wp2_with fail
          refine (read_e c.op c.id c.e c.p (csize c.op) HS5.out F3.out.1 F3.out.2.1 F3.out.2.2.1 F3.out.2.2.2.1 F3.out.2.2.2.2 (by rw [F3.out.2.1])).mono ?_
          rintro en w3 ⟨rfl, hb3⟩
          obtain ⟨N, hN⟩ : ∃ N, csize c.op = N := ⟨_, rfl⟩
          rw [hN]
          have hN1 : N ≤ M := by
            have h1 := HM.out
            rw [HDR.out, List.length_append, enc_len, hN] at h1
            omega
          have hNp : 0 < N := by rw [← hN]; unfold csize; omega
          have hMc : M ≤ c5 := HS5.out.room
          have hct : c5 ≤ 9223372036854775807 := HS5.out.top
          have q1 : (N : Int) ≤ M := by omega
          have q2 : (M : Int) ≤ c5 := by omega
          have q3 : (N : Int) ≤ c5 := by omega
          have q4 : N ≤ c5 := by omega
          have h1' := hb3
          have hbb := hb3.alloc hb3.size (.cells #[.int .i64 c.op, .int .i64 c.id, .int .i64 c.e, .int .i64 c.p] 23)
          have hbx := hBx.trans (hbb.mono hBx.size)
          have z0 := (hbb.cell (p := ⟨b6, o6 + j * 4, none⟩) hb6).trans (HC9.out 0 (.int .i64 c.op) rfl)
          have z1 := (hbb.cell (p := ⟨b6, o6 + j * 4 + 1, none⟩) hb6).trans (HC9.out 1 (.int .i64 c.id) rfl)
          have z2 := (hbb.cell (p := ⟨b6, o6 + j * 4 + 2, none⟩) hb6).trans (HC9.out 2 (.int .i64 c.e) rfl)
          have z3 := (hbb.cell (p := ⟨b6, o6 + j * 4 + 3, none⟩) hb6).trans (HC9.out 3 (.int .i64 c.p) rfl)
          have t0 : (w3.alloc (.cells #[.int .i64 c.op, .int .i64 c.id, .int .i64 c.e, .int .i64 c.p] 23)).cell? ⟨w3.heap.size, 0, none⟩ = some (.int .i64 c.op) := cell_alloc_new w3 _ 23 0
          have t1 : (w3.alloc (.cells #[.int .i64 c.op, .int .i64 c.id, .int .i64 c.e, .int .i64 c.p] 23)).cell? ⟨w3.heap.size, 1, none⟩ = some (.int .i64 c.id) := cell_alloc_new w3 _ 23 1
          have t2 : (w3.alloc (.cells #[.int .i64 c.op, .int .i64 c.id, .int .i64 c.e, .int .i64 c.p] 23)).cell? ⟨w3.heap.size, 2, none⟩ = some (.int .i64 c.e) := cell_alloc_new w3 _ 23 2
          have t3 : (w3.alloc (.cells #[.int .i64 c.op, .int .i64 c.id, .int .i64 c.e, .int .i64 c.p] 23)).cell? ⟨w3.heap.size, 3, none⟩ = some (.int .i64 c.p) := cell_alloc_new w3 _ 23 3
          have HO4 := Lib.hid (HOJ.out.below hbb)
          have HBX := Lib.hid hbx
          have HN := Lib.hid hN
          obtain ⟨T, hT⟩ : ∃ T, w3.heap.size = T := ⟨_, rfl⟩
          go_upto_region 17 with fail
          try rw [hT]
          rw [hT] at t0 t1 t2 t3
          generalize w3.alloc (.cells #[.int .i64 c.op, .int .i64 c.id, .int .i64 c.e, .int .i64 c.p] 23) = w4 at z0 z1 z2 z3 t0 t1 t2 t3 HO4 HBX ⊢
          clear hb3 h1' hbb hbx hN hT HOJ
          go_wp2_with fail
          go_quiet (fail)
          go_wp2_with fail
          have hcut := HO4.out.cutw (k := N) hN1
          rw [HDR.out, drop_len (by rw [enc_len, HN.out])] at hcut
          refine ⟨⟨j + 1, by omega, by go_num, ?_, below_drewN HBX.out _⟩, by simp [intOf]; omega⟩
          exact hcut.below (below_drewN (Below.refl _ _) _)
        · have hjq : j = q := by omega
          have hj1 : decide ((j : Int) < q) = false := by simp; omega
          have hj2 : decide (j < q) = false := by simp; omega
          have hji : (q : Int) ≤ j := by omega
          have hnil : (cs.drop j).flatMap encC = [] := by rw [hjq, ← HQ.out, List.drop_length]; rfl
          rw [hnil] at hO
          have HOE := Lib.hid hO
          obtain ⟨A5, c5, e5, hS5, _⟩ := hO.sl
          subst e5
          have el : ([] : List Int).length = 0 := rfl
          rw [el] at HOE ⊢
          have HBW := Lib.hid (HB.out.trans (hBx.mono HB.out.size))
          clear hjq hO hS5 hnil el hBx
          go_wp2_with fail
          go_loopw [5, 14] (fun b i wx => ∃ j : Nat, j ≤ m ∧ i = .int .i64 j ∧ OV wx w.heap.size b ((rl.take j).flatMap encRr) ∧ (∀ t, t < j → (rl.getD t RpA.zero).x.len ≤ 30) ∧ Below w.heap.size w wx) (fun _ i _ => m - (intOf i).toNat)
          case atStart => exact ⟨0, by omega, rfl, HOE.out, fun t ht => by omega, HBW.out⟩
          case round =>
            obtain ⟨j3, hj3, rfl, hO3, hP3, hB3⟩ := hrel
            have HP3 := Lib.hid hP3
            have HO3 := Lib.hid hO3
            clear hP3 hO3
            by_cases hlt3 : j3 < m
            · have k1 : decide ((j3 : Int) < m) = true := by simp; omega
              have k2 : decide (j3 < m) = true := by simp; omega
              have k3 : (j3 : Int) < m := by omega
              have hR9 := HR.out.below hB3
              obtain ⟨br, orr, rfl, hbr, hc0⟩ := HR.out.at_ (by omega)
              obtain ⟨br', or', e1, hbr9, hc9⟩ := hR9.at_ (by omega)
              injection e1 with e1
              injection e1 with e2 e3
              subst e2 e3
              have hcc := hc9 j3 hlt3
              have hTh := (HT.out j3 hlt3).below hB3
              obtain ⟨r, hr⟩ : ∃ r, rl.getD j3 RpA.zero = r := ⟨_, rfl⟩
              rw [hr] at hcc hTh
              have HRE := Lib.hid hr
              obtain ⟨err, clock, ⟨A7, n7, c7, ps⟩⟩ := r
              have y0 := hcc 0 (.int .i64 err) rfl
              have y1 := hcc 1 (.int .i64 clock) rfl
              have y2 := hcc 2 (.slice A7 n7 c7) rfl
              rw [Nat.add_zero] at y0
              have hRW : Hid (Rw wr A7 n7 c7 ps) := hTh.rw
              clear hcc hc9 hc0 hR9 hTh hr
              by_cases h30 : 30 < n7
              · have g1 : decide ((30 : Int) < n7) = true := by simp; omega
                have g2 : decide (30 < n7) = true := by simp; omega
                have g3 : (30 : Int) < n7 := by omega
                go_wp2_with fail
                go_returns
                exact ⟨rfl, hB3⟩
              · have g1 : decide ((30 : Int) < n7) = false := by simp; omega
                have g2 : decide (30 < n7) = false := by simp; omega
                have g3 : (n7 : Int) ≤ 30 := by omega
                have HB3 := Lib.hid hB3
                clear hB3
                go_wp2_with fail
                refine (reply14 err clock A7 n7 c7 ps _ hRW.out (by omega)).mono ?_
                rintro en w3 ⟨v, rfl, hOb, hb4⟩
                obtain ⟨X, cx, rfl, hX⟩ := hOb.sl (allB_encR _ _ _)
                have hpl : ps.length = n7 := hRW.out.long
                obtain ⟨N, hN⟩ : ∃ N, (encR err clock ps).length = N := ⟨_, rfl⟩
                rw [hN] at hX ⊢
                have hNl : N ≤ 1117 := by rw [← hN, encR_len, hpl]; omega
                have HX := Lib.hid hX
                have hO4 := HO3.out.below hb4
                have hfl := flatR_le rl j3 (fun t ht => by
                  have h1 := (HT.out t (by omega)).rw.long
                  have h2 := HP3.out t ht
                  omega)
                have hfl2 : ((rl.take j3).flatMap encRr).length + N ≤ 1000000000 := by omega
                have hs3 : w.heap.size ≤ wr.heap.size := HB3.out.size
                have HB4 := Lib.hid (HB3.out.trans (hb4.mono hs3))
                have hs4 : w.heap.size ≤ w3.heap.size := HB4.out.size
                have HO4 := Lib.hid hO4
                have hXn := hX_some hX
                clear hX hOb hb4 hN hO4 hfl y0 y1 y2
                go_wp2_with (at_builtin; refine wpList_append_ov rfl _ _ rfl w.heap.size _ ((rl.take j3).flatMap encRr) rfl HO4.out X N cx (encR err clock ps) rfl HX.out ?d1 hfl2 hs4 ?_)
                case d1 => exact hXn
                intro v5 w5 hO5 hG5
                have HB5 := Lib.hid (HB4.out.trans (HO4.out.grb hG5 hs4))
                have htf : (rl.take j3).flatMap encRr ++ encR err clock ps = (rl.take (j3 + 1)).flatMap encRr := by
                  rw [← take_flatG encRr rl j3 RpA.zero (by rw [HR.out.long]; exact hlt3), HRE.out]
                  rfl
                rw [htf] at hO5
                have HO5 := Lib.hid hO5
                clear hG5 htf hO5 hXn
                go_wp2_with fail
                go_roundw
                case rel => exact ⟨j3 + 1, by omega, by go_num, HO5.out, fun t ht => by
                  rcases Nat.lt_or_ge t j3 with h' | h'
                  · exact HP3.out t h'
                  · obtain rfl : t = j3 := by omega
                    rw [HRE.out]
                    show n7 ≤ 30
                    omega, HB5.out⟩
                case measure => simp [intOf]; omega
            · have hjm : j3 = m := by omega
              have k1 : decide ((j3 : Int) < m) = false := by simp; omega
              have k2 : decide (j3 < m) = false := by simp; omega
              have k3 : (m : Int) ≤ j3 := by omega
              have htk : rl.take j3 = rl := by rw [hjm, ← HR.out.long, List.take_length]
              rw [htk] at HO3
              clear htk
              have HP : Hid (∀ t, t < m → (rl.getD t RpA.zero).x.len ≤ 30) := by rw [← hjm]; exact HP3
              have HBS := Lib.hid hB3
              clear hjm HP3 hB3
              go_wp2_with fail
              go_loopw [5, 15] (fun b i wx => ∃ j : Nat, j ≤ m ∧ i = .int .i64 j ∧ OV wx w.heap.size b ((rl.drop j).flatMap encRr) ∧ Below w.heap.size w wx) (fun _ i _ => m - (intOf i).toNat)
              case atStart => exact ⟨0, by omega, rfl, HO3.out, HBS.out⟩
              case round =>
                obtain ⟨j4, hj4, rfl, hO4, hB4⟩ := hrel
                by_cases hlt4 : j4 < m
                · have k1 : decide ((j4 : Int) < m) = true := by simp; omega
                  have k2 : decide (j4 < m) = true := by simp; omega
                  have k3 : (j4 : Int) < m := by omega
                  have k4 : (0 : Int) ≤ j4 := by omega
                  have hP4 := HP.out j4 hlt4
                  have hR9 := HR.out.below hB4
                  obtain ⟨br, orr, rfl, hbr, hc0⟩ := HR.out.at_ (by omega)
                  obtain ⟨br', or', e1, hbr9, hc9⟩ := hR9.at_ (by omega)
                  injection e1 with e1
                  injection e1 with e2 e3
                  subst e2 e3
                  have hcc := hc0 j4 hlt4
                  have hTh := HT.out j4 hlt4
                  have hdr := drop_flat encRr rl j4 RpA.zero (by rw [HR.out.long]; exact hlt4)
                  obtain ⟨r, hr⟩ : ∃ r, rl.getD j4 RpA.zero = r := ⟨_, rfl⟩
                  rw [hr] at hcc hTh hdr hP4
                  obtain ⟨err, clock, ⟨A7, n7, c7, ps⟩⟩ := r
                  have hdr' : (rl.drop j4).flatMap encRr = encR err clock ps ++ (rl.drop (j4 + 1)).flatMap encRr := hdr
                  have h30 : n7 ≤ 30 := hP4
                  have hpl : ps.length = n7 := hTh.rw.long
                  have hok : ∀ t, t < ps.length → (ps.getD t Pc.zero).ok := hTh.ok
                  have y0 := hcc 0 (.int .i64 err) rfl
                  have y1 := hcc 1 (.int .i64 clock) rfl
                  have y2 := hcc 2 (.slice A7 n7 c7) rfl
                  rw [Nat.add_zero] at y0
                  have HRW : Hid (Rw w A7 n7 c7 ps) := hTh.rw
                  have HYS := Lib.hid (And.intro y0 (And.intro y1 y2))
                  obtain ⟨A5, c5, e5, hS5, _⟩ := hO4.sl
                  subst e5
                  obtain ⟨M, hM⟩ : ∃ M, ((rl.drop j4).flatMap encRr).length = M := ⟨_, rfl⟩
                  rw [hM] at hS5 hO4 ⊢
                  have HOJ := Lib.hid hO4
                  rw [hdr'] at hS5
                  have hp := parse_enc (by omega) hok hS5
                  obtain ⟨N, hN⟩ : ∃ N, 7 + ps.length * 37 = N := ⟨_, rfl⟩
                  rw [hN] at hp
                  have hNM : N ≤ M := by rw [← hM, hdr', List.length_append, encR_len]; omega
                  have hMc : M ≤ c5 := hS5.room
                  have hct : c5 ≤ 9223372036854775807 := hS5.top
                  have q1 : (N : Int) ≤ M := by omega
                  have q2 : (M : Int) ≤ c5 := by omega
                  have q3 : (N : Int) ≤ c5 := by omega
                  have q4 : N ≤ c5 := by omega
                  have HP4 := Lib.hid hp
                  have HDR := Lib.hid hdr'
                  have HN := Lib.hid hN
                  have HPL := Lib.hid hpl
                  clear hcc hc9 hc0 hR9 hTh hr hdr hdr' hP4 hok y0 y1 y2 hM hS5 hp hN hpl hO4
                  go_wp2_with fail
                  refine HP4.out.mono ?_
                  rintro en w3 ⟨v7, rfl, hO7, hb3⟩
                  obtain ⟨A8, c8, rfl, hR8⟩ := hO7.read
                  have htl : (trimR ps).length = n7 := by unfold trimR; rw [List.length_map, HPL.out]
                  rw [htl] at hR8 ⊢
                  obtain ⟨e', he'⟩ : ∃ e', err % 256 = e' := ⟨_, rfl⟩
                  obtain ⟨k', hk'⟩ : ∃ k', Ytbanlnacoidccaa.u64 clock % 4294967296 = k' := ⟨_, rfl⟩
                  rw [he', hk']
                  have hbb := hb3.alloc hb3.size (.cells #[.int .i64 e', .int .i64 k', .slice A8 n7 c8] 40)
                  have HB4 := Lib.hid (hB4.trans (hbb.mono hB4.size))
                  have HO4 := Lib.hid (HOJ.out.below hbb)
                  have t2 : (w3.alloc (.cells #[.int .i64 e', .int .i64 k', .slice A8 n7 c8] 40)).cell? ⟨w3.heap.size, 2, none⟩ = some (.slice A8 n7 c8) := cell_alloc_new w3 _ 40 2
                  have hzz : (w3.alloc (.cells #[.int .i64 e', .int .i64 k', .slice A8 n7 c8] 40)).heap.size = w3.heap.size + 1 := by simp
                  obtain ⟨T, hT⟩ : ∃ T, w3.heap.size = T := ⟨_, rfl⟩
                  go_upto_region 32 with fail
                  try rw [hT]
                  rw [hT] at t2 hzz
                  generalize w3.alloc (.cells #[.int .i64 e', .int .i64 k', .slice A8 n7 c8] 40) = w4 at t2 hzz HO4 HB4 ⊢
                  have HTT := Lib.hid t2
                  clear hb3 hbb hT hO7 hR8 htl he' hk' HP4 HOJ hB4 t2
                  have HS := Lib.hid (show ∀ w', Below w4.heap.size w4 w' → (w'.cell? ⟨T, 2, none⟩ = some (.slice A8 n7 c8) ∧ w'.cell? ⟨br, orr + j4 * 3, none⟩ = some (.int .i64 err) ∧ w'.cell? ⟨br, orr + j4 * 3 + 1, none⟩ = some (.int .i64 clock) ∧ w'.cell? ⟨br, orr + j4 * 3 + 2, none⟩ = some (.slice A7 n7 c7)) from fun w' hb' => by
                    have hbw := HB4.out.trans (hb'.mono HB4.out.size)
                    exact ⟨(hb'.cell (p := ⟨T, 2, none⟩) (show T < w4.heap.size by omega)).trans HTT.out, (hbw.cell (p := ⟨br, orr + j4 * 3, none⟩) hbr).trans HYS.out.1, (hbw.cell (p := ⟨br, orr + j4 * 3 + 1, none⟩) hbr).trans HYS.out.2.1, (hbw.cell (p := ⟨br, orr + j4 * 3 + 2, none⟩) hbr).trans HYS.out.2.2⟩)
                  have h14 := reply14 err clock A7 n7 c7 ps w4.drew (HRW.out.below HB4.out.drew) (by omega)
                  have H14 := Lib.hid h14
                  have HBD : Hid (Below w4.heap.size w4 w4.drew) := (Below.refl w4.heap.size w4).drew
                  have HNL := Lib.hid (show (encR err clock ps).length = N by rw [encR_len]; exact HN.out)
                  have HAE := Lib.hid (allB_encR err clock ps)
                  clear h14
                  go_region_held3 (fun w' => w'.cell? ⟨T, 2, none⟩ = some (.slice A8 n7 c8) ∧ w'.cell? ⟨br, orr + j4 * 3, none⟩ = some (.int .i64 err) ∧ w'.cell? ⟨br, orr + j4 * 3 + 1, none⟩ = some (.int .i64 clock) ∧ w'.cell? ⟨br, orr + j4 * 3 + 2, none⟩ = some (.slice A7 n7 c7))
                    (first | assumption | exact HS.out _ HBA.out | exact HS.out _ HBD.out)
                    (first
                      | (go_at_call 14; refine H14.out.mono ?_; rintro e wa ⟨va, rfl, hOa, hba⟩; have HBA := Lib.hid (HBD.out.trans hba); obtain ⟨DD, cD, hva, _⟩ := sl_of HNL HAE hOa; subst hva; clear hba hOa))
                  have HO5 := Lib.hid (HO4.out.below HBA.out)
                  have HB5 := Lib.hid (HB4.out.trans (HBA.out.mono HB4.out.size))
                  go_wp2_with fail
                  have hcut := HO5.out.cutw (k := N) hNM
                  rw [HDR.out, drop_len (by rw [encR_len]; exact HN.out)] at hcut
                  exact ⟨⟨j4 + 1, by omega, by go_num, hcut, HB5.out⟩, by simp [intOf]; omega⟩
                · have hjm : j4 = m := by omega
                  have k1 : decide ((j4 : Int) < m) = false := by simp; omega
                  have k2 : decide (j4 < m) = false := by simp; omega
                  have k3 : (m : Int) ≤ j4 := by omega
                  have hnil : (rl.drop j4).flatMap encRr = [] := by rw [hjm, ← HR.out.long, List.drop_length]; rfl
                  rw [hnil] at hO4
                  obtain ⟨A5, c5, e5, hS5, _⟩ := hO4.sl
                  subst e5
                  have el : ([] : List Int).length = 0 := rfl
                  rw [el]
                  clear hjm hO4 hS5 hnil el
                  go_wp2_with fail
                  go_returns
                  exact ⟨rfl, hB4⟩

theorem rows_law (l : SA Cmd) (r : SA RpA) (w : World) (hL : RG Cmd.cells 4 Cmd.zero w l.a l.len l.cap l.xs) (hR : RG RpA.cells 3 RpA.zero w r.a r.len r.cap r.xs ∧ ∀ k, k < r.len → (r.xs.getD k RpA.zero).There w) :
    Calls Try.prog 9 #[l.V, r.V] w fun e w' => e = .returned (.bool true) ∧ Below w.heap.size w w' := by
  by_cases hx : 100 < l.len ∨ 40 < r.len
  · exact rows_big l r hx w
  · exact rows_yes l r (by omega) (by omega) w hL hR.1 hR.2
end Go.Proofs.Ytbanlnacoidccaa
