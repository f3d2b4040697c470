/- Any reply: its bytes; read, with whatever stands behind, it is the reply. -/
import Derived.Test.YtbanlnacoidccaaO4
namespace Go.Proofs.Ytbanlnacoidccaa
open Go.RowKit
set_option linter.unusedSimpArgs false
set_option linter.unusedVariables false
attribute [local go_sem ↓] Go.wp_at_zero Go.wp_at_succ

set_option maxRecDepth 100000 in
set_option maxHeartbeats 1600000 in
theorem replies_big (r : RpA) (x : ByA) (cut : Int) (hx : 300 < r.x.len ∨ 100 < x.len) (w : World) :
    Calls Try.prog 7 #[r.V, x.V, .int .u16 cut] w fun e w' => e = .returned (.bool true) ∧ Below w.heap.size w w' := by
  obtain ⟨err, clock, A, n, cap, ps⟩ := r
  obtain ⟨a, len, ca, zs⟩ := x
  have hx' : 300 < n ∨ 100 < len := hx
  clear hx
  unfold RpA.V ByA.V
  by_cases h3 : 300 < n
  · have hd : decide ((300 : Int) < n) = true := by simp; omega
    have hd' : decide (300 < n) = true := by simp; omega
    have hi : (300 : Int) < n := by omega
    go_enter Try.func7, Try.ntmps7
    go_wp2_with fail
    refine (awake_any _).mono ?_
    rintro en w1 ⟨rfl, hb1⟩
    have x2 := cells_of_box (hb1.mono (by simp)) 2 (.slice A n cap) rfl
    have hb10 := ((Below.refl w.heap.size w).alloc (Nat.le_refl _) _).trans (hb1.mono (by simp))
    clear hb1
    go_wp2_with fail
    go_returns
    exact ⟨rfl, hb10⟩
  · have h1 : 100 < len := by omega
    have hd : decide ((300 : Int) < n) = false := by simp; omega
    have hd' : decide (300 < n) = false := by simp; omega
    have hi : (n : Int) ≤ 300 := by omega
    have gd : decide ((100 : Int) < len) = true := by simp; omega
    have gd' : decide (100 < len) = true := by simp; omega
    have gi : (100 : Int) < len := by omega
    go_enter Try.func7, Try.ntmps7
    go_wp2_with fail
    refine (awake_any _).mono ?_
    rintro en w1 ⟨rfl, hb1⟩
    have x2 := cells_of_box (hb1.mono (by simp)) 2 (.slice A n cap) rfl
    have hb10 := ((Below.refl w.heap.size w).alloc (Nat.le_refl _) _).trans (hb1.mono (by simp))
    clear hb1
    go_wp2_with fail
    go_returns
    exact ⟨rfl, hb10⟩

/-- Do a reply's error and clock fit. -/
def RFits (err clock : Int) : Prop := 0 ≤ err ∧ err < 256 ∧ 0 ≤ clock ∧ clock < 4294967296
/-- Do a piece's numbers fit. -/
def PFits (p : Pc) : Prop := 0 ≤ p.eng ∧ p.eng < 256 ∧ 0 ≤ p.core ∧ p.core < 256 ∧ 0 ≤ p.id ∧ p.id < 65536

theorem trim_fits {p : Pc} (h : PFits p) : trim p = p := by
  unfold PFits at h
  obtain ⟨p0, p1, p2, p3, p4, p5, p6, p7⟩ := p
  simp only at h
  unfold trim
  simp only
  have e0 : p0 % 256 = p0 := by omega
  have e1 : p1 % 256 = p1 := by omega
  have e2 : u64 p2 % 65536 = p2 := by unfold u64; omega
  rw [e0, e1, e2]
theorem trim_all (ps : List Pc) (h : ∀ j, j < ps.length → PFits (ps.getD j Pc.zero)) : trimR ps = ps := by
  unfold trimR
  refine List.ext_getElem (by simp) fun k h1 h2 => ?_
  rw [List.getElem_map]
  have := h k h2
  simp only [List.getD_eq_getElem?_getD, List.getElem?_eq_getElem h2, Option.getD_some] at this
  exact trim_fits this

theorem fits_succ {err clock : Int} {ps : List Pc} {k : Nat} {p : Pc} (e : ps.getD k Pc.zero = p) (hp : PFits p) (h : RFits err clock ∧ ∀ j, j < k → PFits (ps.getD j Pc.zero)) : RFits err clock ∧ ∀ j, j < k + 1 → PFits (ps.getD j Pc.zero) :=
  ⟨h.1, fun j hj => by
    rcases Nat.lt_or_ge j k with h' | h'
    · exact h.2 j h'
    · obtain rfl : j = k := by omega
      rw [e]
      exact hp⟩

theorem conv_back {w : World} {A : Option Addr} {len cap : Nat} {xs : List Int} {S : ByteArray} (e : Hid (strOf xs = S)) (h : Sl w A len cap xs) : (convert 24 9 (.slice A len cap)).run Try.prog w = .ok (.string S) w := by
  rw [← e.out]; exact conv_sl h
theorem conv_own {w : World} {base n : Nat} {v : Value} {xs : List Int} {S : ByteArray} (e : Hid (strOf xs = S)) (hl : Hid (xs.length = n)) (ha : Hid (AllB xs)) (h : OB w base v xs) : ∃ D cd, v = .slice D n cd ∧ (convert 24 9 (.slice D n cd)).run Try.prog w = .ok (.string S) w := by
  obtain ⟨D, cd, rfl, hT⟩ := h.sl ha.out
  rw [hl.out] at hT ⊢
  exact ⟨D, cd, rfl, conv_back e hT⟩

set_option maxRecDepth 100000 in
set_option maxHeartbeats 12800000 in
theorem replies_yes (r : RpA) (x : ByA) (cut : Nat) (hr : r.x.len ≤ 300) (hx : x.len ≤ 100) (hcut : cut < 65536) (w : World) (hR : r.There w) (hX : Sl w x.a x.len x.cap x.xs) (hn : x.a = none → x.cap = 0) :
    Calls Try.prog 7 #[r.V, x.V, .int .u16 cut] w fun e w' => e = .returned (.bool true) ∧ Below w.heap.size w w' := by
  obtain ⟨i0, hi0, hz0, hz1, hz2⟩ := info_parts info5
  have hE := eqPc
  obtain ⟨err, clock, A, n, cap, ps⟩ := r
  obtain ⟨a, len, ca, zs⟩ := x
  have hr' : n ≤ 300 := hr
  have hx' : len ≤ 100 := hx
  have hn' : a = none → ca = 0 := hn
  have hW : Hid (Rw w A n cap ps) := hR.rw
  have hok : Hid (∀ k, k < ps.length → (ps.getD k Pc.zero).ok) := hR.ok
  have hX' : Hid (Sl w a len ca zs) := hX
  have HL := Lib.hid hW.out.long
  have he : -9223372036854775808 ≤ err ∧ err ≤ 9223372036854775807 := hR.e
  have hc : -9223372036854775808 ≤ clock ∧ clock ≤ 9223372036854775807 := hR.c
  clear hr hx hn hR hX
  unfold RpA.V ByA.V
  have hd : decide ((300 : Int) < n) = false := by simp; omega
  have hd' : decide (300 < n) = false := by simp; omega
  have hi : (n : Int) ≤ 300 := by omega
  have gd : decide ((100 : Int) < len) = false := by simp; omega
  have gd' : decide (100 < len) = false := by simp; omega
  have gi : (len : Int) ≤ 100 := by omega
  go_enter Try.func7, Try.ntmps7
  go_wp2_with fail
  refine (awake_any _).mono ?_
  rintro en w1 ⟨rfl, hb1⟩
  have x0 := cells_of_box (hb1.mono (by simp)) 0 (.int .i64 err) rfl
  have x1 := cells_of_box (hb1.mono (by simp)) 1 (.int .i64 clock) rfl
  have x2 := cells_of_box (hb1.mono (by simp)) 2 (.slice A n cap) rfl
  have hb10 := ((Below.refl w.heap.size w).alloc (Nat.le_refl _) _).trans (hb1.mono (by simp))
  have hlt : w.heap.size < w1.heap.size := by have := hb1.size; simp at this; omega
  clear hb1
  go_wp2_with fail
  refine (reply14 err clock A n cap ps _ (hW.out.below hb10) (by omega)).mono ?_
  rintro en w2 ⟨v, rfl, hO, hb2⟩
  obtain ⟨C, cc, rfl, hS⟩ := hO.sl (allB_encR _ _ _)
  have hb20 := hb10.trans (hb2.mono hb10.size)
  have hlt2 := Nat.lt_of_lt_of_le hlt hb2.size
  replace x0 := (hb2.cell (p := ⟨w.heap.size, 0, none⟩) hlt).trans x0
  replace x1 := (hb2.cell (p := ⟨w.heap.size, 1, none⟩) hlt).trans x1
  replace x2 := (hb2.cell (p := ⟨w.heap.size, 2, none⟩) hlt).trans x2
  have HR2 := Lib.hid (hW.out.below hb20)
  have HX2 := Lib.hid (hX'.out.below hb20)
  obtain ⟨N, hN⟩ : ∃ N : Nat, (encR err clock ps).length = N := ⟨_, rfl⟩
  have hXL : (encR err clock ps).length = N := hN
  have HNN := Lib.hid (show 7 + ps.length * 37 = N by rw [← hN, encR_len])
  have hN0 : 0 < N := by have := HNN.out; omega
  have hN1 : N ≤ 11107 := by have := HNN.out; have := HL.out; omega
  clear hN
  have HA := Lib.hid (allB_encR err clock ps)
  rw [hXL] at hS ⊢
  have HXL := Lib.hid hXL
  have HS2 := Lib.hid hS
  have cA := conv_sl (show Sl w2.drew _ _ _ _ from hS.below ((Below.refl _ _).drew))
  obtain ⟨S, hSS⟩ : ∃ S, strOf (encR err clock ps) = S := ⟨_, rfl⟩
  rw [hSS] at cA
  have HSS := Lib.hid hSS
  obtain ⟨b, o, rfl, hbl, _⟩ := hS.at_ hN0
  have hNi : (0 : Int) < N := by omega
  have hNe : ¬ N = 0 := by omega
  have hroom := hS.room
  have htop := hS.top
  have hcap0 : ¬ cc = 0 := by omega
  obtain ⟨K, hK⟩ : ∃ K : Nat, (cut : Int) % N = K := ⟨cut % N, rfl⟩
  have hKN : K < N := by
    have := Nat.mod_lt cut hN0
    omega
  have q1 : (K : Int) ≤ cc := by omega
  have q2 : K ≤ cc := by omega
  clear hb2 hb10 hO hS hXL hSS hlt hX' hW
  go_wp2_with fail
  have cS := HSS.out
  have cv2 : (convert 24 9 (.slice (some ⟨b, o, none⟩) N cc)).run Try.prog w2.drew = .ok (.string S) w2.drew := cA
  clear cA cS
  have d0 : w2.drew.cell? ⟨w.heap.size, 0, none⟩ = some (.int .i64 err) := x0
  have d1 : w2.drew.cell? ⟨w.heap.size, 1, none⟩ = some (.int .i64 clock) := x1
  have d2 : w2.drew.cell? ⟨w.heap.size, 2, none⟩ = some (.slice A n cap) := x2
  have hltd : w.heap.size < w2.drew.heap.size := hlt2
  have HSd := Lib.hid (HS2.out.below ((Below.refl w2.heap.size w2).drew))
  have HD := Lib.hid (And.intro d0 (And.intro d1 d2))
  clear d0 d1 d2
  have hRd := HR2.out.below ((Below.refl w2.heap.size w2).drew)
  refine wp_region_held_drew (S := (fun w' => w'.cell? ⟨w.heap.size, 0, none⟩ = some (.int .i64 err) ∧ w'.cell? ⟨w.heap.size, 1, none⟩ = some (.int .i64 clock) ∧ w'.cell? ⟨w.heap.size, 2, none⟩ = some (.slice A n cap) ∧ (convert 24 9 (.slice (some ⟨b, o, none⟩) N cc)).run Try.prog w' = .ok (.string S) w')) (by kernel_rfl) ⟨HD.out.1, HD.out.2.1, HD.out.2.2, cv2⟩ (fun hHeld => ?_)
  refine heldTake (i := 0) (v := ?_) rfl (by kernel_rfl) (by kernel_rfl) (by kernel_rfl) (fun _ _ _ h => h) (by rfl) ?_ (by assumption) ?_
  rotate_left 1
  · intro w hSw; (try dsimp only at hSw); go_simp; all_goals with_reducible rfl
  try simp only [Act.put, List.setIfInBounds_toArray, List.set_cons_zero, List.set_cons_succ]
  refine heldTake (i := 1) (v := ?_) rfl (by kernel_rfl) (by kernel_rfl) (by kernel_rfl) (fun _ _ _ h => h) (by rfl) ?_ (by assumption) ?_
  rotate_left 1
  · intro w hSw; (try dsimp only at hSw); go_simp; all_goals with_reducible rfl
  try simp only [Act.put, List.setIfInBounds_toArray, List.set_cons_zero, List.set_cons_succ]
  refine heldTake (i := 2) (v := ?_) rfl (by kernel_rfl) (by kernel_rfl) (by kernel_rfl) (fun _ _ _ h => h) (by rfl) ?_ (by assumption) ?_
  rotate_left 1
  · intro w hSw; (try dsimp only at hSw); go_simp; all_goals with_reducible rfl
  try simp only [Act.put, List.setIfInBounds_toArray, List.set_cons_zero, List.set_cons_succ]
  refine heldRun (i := 3) rfl (by kernel_rfl) (by rfl) (fun K hK => ?_)
  go_simp
  refine (reply15 err clock A n cap ps w2.drew hRd (by omega)).mono ?_
  rintro e w3 ⟨v3, rfl, hO3, hb3⟩
  have s0 := (hb3.cell (p := ⟨w.heap.size, 0, none⟩) hltd).trans HD.out.1
  have s1 := (hb3.cell (p := ⟨w.heap.size, 1, none⟩) hltd).trans HD.out.2.1
  have s2 := (hb3.cell (p := ⟨w.heap.size, 2, none⟩) hltd).trans HD.out.2.2
  have cC := conv_back HSS (HSd.out.below hb3)
  obtain ⟨D, cd, hv3, cB⟩ := conv_own HSS HXL HA hO3
  subst hv3
  go_wp2_with fail
  refine hK.out _ _ ⟨s0, s1, s2, cC⟩ (fun hHeld3 => ?_)
  clear hK K
  try simp only [Act.put, List.setIfInBounds_toArray, List.set_cons_zero, List.set_cons_succ]
  refine heldRun (i := 4) rfl (by kernel_rfl) (by rfl) (fun K hK => ?_)
  go_simp
  refine hK.out _ _ ⟨s0, s1, s2, cC⟩ (fun hHeld4 => ?_)
  clear hK K
  try simp only [Act.put, List.setIfInBounds_toArray, List.set_cons_zero, List.set_cons_succ]
  refine heldTake (i := 5) (v := ?_) rfl (by kernel_rfl) (by kernel_rfl) (by kernel_rfl) (fun _ _ _ h => h) (by rfl) ?_ (by assumption) ?_
  rotate_left 1
  · intro w hSw; (try dsimp only at hSw); go_simp; all_goals with_reducible rfl
  try simp only [Act.put, List.setIfInBounds_toArray, List.set_cons_zero, List.set_cons_succ]
  refine wpAnyH_done (by kernel_rfl) ?_ _
  have HB30 := Lib.hid (hb20.drew.trans (hb3.mono hb20.size))
  have HS3 := Lib.hid (HSd.out.below hb3)
  have HX3 := Lib.hid ((HX2.out.below ((Below.refl w2.heap.size w2).drew)).below hb3)
  have HR3 := Lib.hid (hRd.below hb3)
  have hlt3 : w.heap.size < w3.heap.size := Nat.lt_of_lt_of_le hltd hb3.size
  clear hb3 hO3 cB cC cv2 HSd HX2 HR2 HS2 HD hRd hb20 hltd hlt2 x0 x1 x2
  go_wp2_with fail
  refine (parse_cut (by rw [HL.out]; omega) (HS3.out.take K (by omega)) (by rw [HXL.out]; exact hKN)).mono ?_
  rintro en w4' ⟨rfl, hb4'⟩
  go_upto_region 12 with fail
  have hb4 := hb4'.alloc hb4'.size (.cells #[.int .i64 0, .int .i64 0, .slice none 0 0] 40)
  generalize w4'.alloc (.cells #[.int .i64 0, .int .i64 0, .slice none 0 0] 40) = w4 at hb4 ⊢
  clear hb4'
  have HB43 := Lib.hid hb4
  have HS4 := Lib.hid (HS3.out.below hb4)
  have HX4 := Lib.hid (HX3.out.below hb4)
  have HR4 := Lib.hid (HR3.out.below hb4)
  have hlt4 : w.heap.size < w4.heap.size := Nat.lt_of_lt_of_le hlt3 hb4.size
  replace s0 := (hb4.cell (p := ⟨w.heap.size, 0, none⟩) hlt3).trans s0
  replace s1 := (hb4.cell (p := ⟨w.heap.size, 1, none⟩) hlt3).trans s1
  replace s2 := (hb4.cell (p := ⟨w.heap.size, 2, none⟩) hlt3).trans s2
  clear hb4 HS3 HX3 HR3 hlt3
  go_wp2_with (at_builtin; refine wpList_append_sl rfl _ _ rfl w4.heap.size _ [] rfl (OB_empty w4 _ _ rfl (Nat.le_refl _)) (some ⟨b, o, none⟩) N cc (encR err clock ps) rfl ?c0 ?c1 ?c2 ?c3 ?_)
  case c0 => exact HS4.out.below ((Below.refl _ _).alloc (Nat.le_refl _) _)
  case c1 => intro h; cases h
  case c2 => simp; omega
  case c3 => simp
  intro v5 w5 hO5 hb5
  have hB5 := ((Below.refl w4.heap.size w4).alloc (Nat.le_refl _) (.cells #[] 5)).trans (hb5.mono (by simp))
  have HX5 := Lib.hid (HX4.out.below hB5)
  have hs5 : w4.heap.size ≤ w5.heap.size := hB5.size
  have HB5 := Lib.hid hB5
  clear hb5 hB5
  go_wp2_with (at_builtin; refine wpList_append_sl rfl _ _ rfl w4.heap.size _ (encR err clock ps) rfl hO5 a len ca zs rfl ?d0 ?d1 ?d2 ?d3 ?_)
  case d0 => exact HX5.out
  case d1 => exact hn'
  case d2 => rw [HXL.out]; omega
  case d3 => exact hs5
  intro v6 w6 hO6 hb6
  obtain ⟨D6, c6, rfl, hS6⟩ := hO6.sl (allB_append HA.out HX4.out.all)
  have HB64 := Lib.hid (HB5.out.trans hb6)
  obtain ⟨M, hM⟩ : ∃ M, (encR err clock ps ++ zs).length = M := ⟨_, rfl⟩
  rw [hM] at hS6 ⊢
  have hp := parse_enc (by rw [HL.out]; omega) hok.out hS6
  rw [HNN.out] at hp
  have HR6 := Lib.hid (HR4.out.below HB64.out)
  have HS6 := Lib.hid (HS4.out.below HB64.out)
  have hlt6 : w.heap.size < w6.heap.size := Nat.lt_of_lt_of_le hlt4 HB64.out.size
  replace s0 := (HB64.out.cell (p := ⟨w.heap.size, 0, none⟩) hlt4).trans s0
  replace s1 := (HB64.out.cell (p := ⟨w.heap.size, 1, none⟩) hlt4).trans s1
  replace s2 := (HB64.out.cell (p := ⟨w.heap.size, 2, none⟩) hlt4).trans s2
  have HP := Lib.hid hp
  clear hM hO5 hO6 hb6 hp hS6 HX5 HX4 HR4 HS4 HB5 hs5 hlt4
  go_wp2_with fail
  refine HP.out.mono ?_
  rintro en w7 ⟨v7, rfl, hO7, hb7⟩
  obtain ⟨A7, c7, rfl, hR7⟩ := hO7.read
  have htl : (trimR ps).length = n := by unfold trimR; rw [List.length_map, HL.out]
  rw [htl] at hR7 ⊢
  have HR7 := Lib.hid hR7
  have HRR := Lib.hid (HR6.out.below hb7)
  have HS7 := Lib.hid (HS6.out.below hb7)
  have hlt7 : w.heap.size < w7.heap.size := Nat.lt_of_lt_of_le hlt6 hb7.size
  replace s0 := (hb7.cell (p := ⟨w.heap.size, 0, none⟩) hlt6).trans s0
  replace s1 := (hb7.cell (p := ⟨w.heap.size, 1, none⟩) hlt6).trans s1
  replace s2 := (hb7.cell (p := ⟨w.heap.size, 2, none⟩) hlt6).trans s2
  have HB70 := Lib.hid ((HB30.out.trans (HB43.out.mono HB30.out.size)).trans (((HB64.out.trans (hb7.mono HB64.out.size))).mono (HB30.out.trans (HB43.out.mono HB30.out.size)).size))
  have HTL := Lib.hid htl
  clear HR6 HS6 hb7 hO7 hR7 HB64 HB43 HB30 HP hlt6 htl
  obtain ⟨e', he1⟩ : ∃ e', err % 256 = e' := ⟨_, rfl⟩
  obtain ⟨k', hk1⟩ : ∃ k', u64 clock % 4294967296 = k' := ⟨_, rfl⟩
  rw [he1, hk1]
  have HE1 := Lib.hid he1
  have HK1 := Lib.hid hk1
  clear he1 hk1
  go_upto_region 13 with fail
  go_cut [15] (fun f wx => (∃ fb : Bool, f = .bool fb ∧ (fb = true → RFits err clock)) ∧ wx = w7.alloc (.cells #[.int .i64 e', .int .i64 k', .slice A7 n c7] 40))
  case first =>
    go_wp2_with fail
    all_goals (go_meet; refine ⟨⟨_, rfl, fun hf => ?_⟩, rfl⟩; first | (unfold RFits; simp at hf; omega) | (simp at hf))
  case rest =>
    obtain ⟨⟨fb, rfl, hfb⟩, rfl⟩ := hcut
    have HFB := Lib.hid hfb
    clear hfb
    have hb8 := (Below.refl w7.heap.size w7).alloc (Nat.le_refl _) (.cells #[.int .i64 e', .int .i64 k', .slice A7 n c7] 40)
    have t0 : (w7.alloc (.cells #[.int .i64 e', .int .i64 k', .slice A7 n c7] 40)).cell? ⟨w7.heap.size, 0, none⟩ = some (.int .i64 e') := cell_alloc_new w7 _ 40 0
    have t1 : (w7.alloc (.cells #[.int .i64 e', .int .i64 k', .slice A7 n c7] 40)).cell? ⟨w7.heap.size, 1, none⟩ = some (.int .i64 k') := cell_alloc_new w7 _ 40 1
    have t2 : (w7.alloc (.cells #[.int .i64 e', .int .i64 k', .slice A7 n c7] 40)).cell? ⟨w7.heap.size, 2, none⟩ = some (.slice A7 n c7) := cell_alloc_new w7 _ 40 2
    have hz8 : (w7.alloc (.cells #[.int .i64 e', .int .i64 k', .slice A7 n c7] 40)).heap.size = w7.heap.size + 1 := by simp
    generalize w7.alloc (.cells #[.int .i64 e', .int .i64 k', .slice A7 n c7] 40) = w8 at hb8 t0 t1 t2 hz8 ⊢
    obtain ⟨T, hT⟩ : ∃ T, w7.heap.size = T := ⟨_, rfl⟩
    have hTl : w.heap.size < T := by omega
    have hz9 : w8.heap.size = T + 1 := by omega
    have HR8 := Lib.hid (HRR.out.below hb8)
    have HQ8 := Lib.hid (HR7.out.below hb8)
    have HS8 := Lib.hid (HS7.out.below hb8)
    have HB80 := Lib.hid (HB70.out.trans (hb8.mono HB70.out.size))
    replace s0 := (hb8.cell (p := ⟨w.heap.size, 0, none⟩) hlt7).trans s0
    replace s1 := (hb8.cell (p := ⟨w.heap.size, 1, none⟩) hlt7).trans s1
    replace s2 := (hb8.cell (p := ⟨w.heap.size, 2, none⟩) hlt7).trans s2
    have HC := Lib.hid (And.intro s0 (And.intro s1 (And.intro s2 (And.intro t0 (And.intro t1 t2)))))
    rw [hT] at HC
    simp only [hT]
    have hroomA := HR8.out.room
    have htopA := HR8.out.top
    clear HRR HR7 HS7 HB70 hb8 s0 s1 s2 t0 t1 t2 hz8 hlt7 hT
    go_wp2_with fail
    go_loopw [15, 16] (fun f i wr => ∃ k : Nat, k ≤ n ∧ i = .int .i64 k ∧ (∃ fb : Bool, f = .bool fb ∧ (fb = true → RFits err clock ∧ ∀ j, j < k → PFits (ps.getD j Pc.zero))) ∧ Below w8.heap.size w8 wr) (fun _ i _ => n - (intOf i).toNat)
    case atStart => exact ⟨0, by omega, rfl, ⟨fb, rfl, fun h => ⟨HFB.out h, fun j hj => by omega⟩⟩, Below.refl _ _⟩
    case round =>
      obtain ⟨k, hk, rfl, ⟨gb, rfl, hgb⟩, hB⟩ := hrel
      have HGB := Lib.hid hgb
      clear hgb
      have s0 := (hB.cell (p := ⟨w.heap.size, 0, none⟩) (show w.heap.size < w8.heap.size by omega)).trans HC.out.1
      have s1 := (hB.cell (p := ⟨w.heap.size, 1, none⟩) (show w.heap.size < w8.heap.size by omega)).trans HC.out.2.1
      have s2 := (hB.cell (p := ⟨w.heap.size, 2, none⟩) (show w.heap.size < w8.heap.size by omega)).trans HC.out.2.2.1
      have hltw : T < wr.heap.size := by have := hB.size; omega
      by_cases hlt : k < n
      · have hR9 := HR8.out.below hB
        obtain ⟨bA, oA, rfl, hbl9, hc9⟩ := hR9.at_ (by omega)
        have hcc := hc9 k hlt
        have hd1 : decide ((k : Int) < n) = true := by simp; omega
        have hd2 : decide (k < n) = true := by simp; omega
        have hki : (k : Int) < n := by omega
        obtain ⟨p, hp⟩ : ∃ p, ps.getD k Pc.zero = p := ⟨_, rfl⟩
        rw [hp] at hcc
        have HPE := Lib.hid hp
        clear hp
        obtain ⟨p0, p1, p2, p3, p4, p5, p6, p7⟩ := p
        have y0 := hcc 0 _ rfl
        have y1 := hcc 1 _ rfl
        have y2 := hcc 2 _ rfl
        have y3 := hcc 3 _ rfl
        have y4 := hcc 4 _ rfl
        have y5 := hcc 5 _ rfl
        have y6 := hcc 6 _ rfl
        have y7 := hcc 7 _ rfl
        rw [Nat.add_zero] at y0
        clear hcc hc9 hR9
        go_upto_region 18 with fail
        have hB9 := Lib.hid (hB.alloc hB.size (.cells #[.int .i64 p0, .int .i64 p1, .int .i64 p2, .int .i64 p3, .int .i64 p4, .int .i64 p5, .int .i64 p6, .bool p7] 48))
        cases gb
        · go_wp2_with fail
          go_roundw
          case rel => exact ⟨k + 1, by omega, by go_num, ⟨_, rfl, fun h => by cases h⟩, hB9.out⟩
          case measure => simp [intOf]; omega
        · go_wp2_with fail
          all_goals
            go_roundw
            case rel =>
              refine ⟨k + 1, by omega, by go_num, ⟨_, rfl, fun hf => ?_⟩, hB9.out⟩
              have hp : PFits ⟨p0, p1, p2, p3, p4, p5, p6, p7⟩ := by
                first | (unfold PFits; simp at hf ⊢; omega) | (simp at hf)
              exact fits_succ HPE.out hp (HGB.out rfl)
            case measure => simp [intOf]; omega
      · have hkn : k = n := by omega
        have hd1 : decide ((k : Int) < n) = false := by simp; omega
        have hd2 : decide (k < n) = false := by simp; omega
        have hki : (n : Int) ≤ k := by omega
        have HK := Lib.hid hkn
        clear hkn
        have g0 := (hB.cell (p := ⟨T, 0, none⟩) (show T < w8.heap.size by omega)).trans HC.out.2.2.2.1
        have g1 := (hB.cell (p := ⟨T, 1, none⟩) (show T < w8.heap.size by omega)).trans HC.out.2.2.2.2.1
        have g2 := (hB.cell (p := ⟨T, 2, none⟩) (show T < w8.heap.size by omega)).trans HC.out.2.2.2.2.2
        have hS9 := HS8.out.below hB
        have cb := conv_back HSS hS9
        have HB90 := Lib.hid (HB80.out.trans (hB.mono HB80.out.size))
        have hlw : w.heap.size < wr.heap.size := by omega
        have HD := Lib.hid (show ∀ w', Below wr.heap.size wr w' → (w'.cell? ⟨w.heap.size, 0, none⟩ = some (.int .i64 err) ∧ w'.cell? ⟨w.heap.size, 1, none⟩ = some (.int .i64 clock) ∧ w'.cell? ⟨w.heap.size, 2, none⟩ = some (.slice A n cap) ∧ w'.cell? ⟨T, 0, none⟩ = some (.int .i64 e') ∧ w'.cell? ⟨T, 1, none⟩ = some (.int .i64 k') ∧ w'.cell? ⟨T, 2, none⟩ = some (.slice A7 n c7) ∧ (convert 24 9 (.slice (some ⟨b, o, none⟩) N cc)).run Try.prog w' = .ok (.string S) w') from fun w' hb' =>
          ⟨(hb'.cell (p := ⟨w.heap.size, 0, none⟩) hlw).trans s0, (hb'.cell (p := ⟨w.heap.size, 1, none⟩) hlw).trans s1, (hb'.cell (p := ⟨w.heap.size, 2, none⟩) hlw).trans s2, (hb'.cell (p := ⟨T, 0, none⟩) hltw).trans g0, (hb'.cell (p := ⟨T, 1, none⟩) hltw).trans g1, (hb'.cell (p := ⟨T, 2, none⟩) hltw).trans g2, conv_back HSS (hS9.below hb')⟩)
        have HQ9 := Lib.hid ((HQ8.out.below hB).below ((Below.refl wr.heap.size wr).drew))
        have h14 := reply14 e' k' A7 n c7 (trimR ps) wr.drew HQ9.out (by omega)
        have heq : encR e' k' (trimR ps) = encR err clock ps := by rw [← HE1.out, ← HK1.out, encR_trim]
        rw [heq] at h14
        have H14 := Lib.hid h14
        have HRd := Lib.hid ((HR8.out.below hB).below ((Below.refl wr.heap.size wr).drew))
        clear hS9 cb hB h14 heq
        obtain ⟨d0, d1, d2, d3, d4, d5, d6⟩ := HD.out wr.drew (Below.refl wr.heap.size wr).drew
        have hbd : Below wr.heap.size wr wr.drew := (Below.refl wr.heap.size wr).drew
        have HBD := Lib.hid hbd
        clear hbd s0 s1 g0 g1 g2
        cases gb
        · go_upto_region 19 with fail
          clear s2
          refine wp_region_held_drew (S := (fun w' => w'.cell? ⟨w.heap.size, 0, none⟩ = some (.int .i64 err) ∧ w'.cell? ⟨w.heap.size, 1, none⟩ = some (.int .i64 clock) ∧ w'.cell? ⟨w.heap.size, 2, none⟩ = some (.slice A n cap) ∧ w'.cell? ⟨T, 0, none⟩ = some (.int .i64 e') ∧ w'.cell? ⟨T, 1, none⟩ = some (.int .i64 k') ∧ w'.cell? ⟨T, 2, none⟩ = some (.slice A7 n c7) ∧ (convert 24 9 (.slice (some ⟨b, o, none⟩) N cc)).run Try.prog w' = .ok (.string S) w')) (by kernel_rfl) ⟨d0, d1, d2, d3, d4, d5, d6⟩ (fun hHeld => ?_)
          refine heldTake (i := 0) (v := ?_) rfl (by kernel_rfl) (by kernel_rfl) (by kernel_rfl) (fun _ _ _ h => h) (by rfl) ?_ (by assumption) ?_
          rotate_left 1
          · intro w hSw; (try dsimp only at hSw); go_simp; all_goals with_reducible rfl
          try simp only [Act.put, List.setIfInBounds_toArray, List.set_cons_zero, List.set_cons_succ]
          refine heldTake (i := 1) (v := ?_) rfl (by kernel_rfl) (by kernel_rfl) (by kernel_rfl) (fun _ _ _ h => h) (by rfl) ?_ (by assumption) ?_
          rotate_left 1
          · intro w hSw; (try dsimp only at hSw); go_simp; all_goals with_reducible rfl
          try simp only [Act.put, List.setIfInBounds_toArray, List.set_cons_zero, List.set_cons_succ]
          refine heldTake (i := 2) (v := ?_) rfl (by kernel_rfl) (by kernel_rfl) (by kernel_rfl) (fun _ _ _ h => h) (by rfl) ?_ (by assumption) ?_
          rotate_left 1
          · intro w hSw; (try dsimp only at hSw); go_simp; all_goals with_reducible rfl
          try simp only [Act.put, List.setIfInBounds_toArray, List.set_cons_zero, List.set_cons_succ]
          refine heldTake (i := 3) (v := ?_) rfl (by kernel_rfl) (by kernel_rfl) (by kernel_rfl) (fun _ _ _ h => h) (by rfl) ?_ (by assumption) ?_
          rotate_left 1
          · intro w hSw; (try dsimp only at hSw); go_simp; all_goals with_reducible rfl
          try simp only [Act.put, List.setIfInBounds_toArray, List.set_cons_zero, List.set_cons_succ]
          refine heldTake (i := 4) (v := ?_) rfl (by kernel_rfl) (by kernel_rfl) (by kernel_rfl) (fun _ _ _ h => h) (by rfl) ?_ (by assumption) ?_
          rotate_left 1
          · intro w hSw; (try dsimp only at hSw); go_simp; all_goals with_reducible rfl
          try simp only [Act.put, List.setIfInBounds_toArray, List.set_cons_zero, List.set_cons_succ]
          refine heldTake (i := 5) (v := ?_) rfl (by kernel_rfl) (by kernel_rfl) (by kernel_rfl) (fun _ _ _ h => h) (by rfl) ?_ (by assumption) ?_
          rotate_left 1
          · intro w hSw; (try dsimp only at hSw); go_simp; all_goals with_reducible rfl
          try simp only [Act.put, List.setIfInBounds_toArray, List.set_cons_zero, List.set_cons_succ]
          refine heldTake (i := 6) (v := ?_) rfl (by kernel_rfl) (by kernel_rfl) (by kernel_rfl) (fun _ _ _ h => h) (by rfl) ?_ (by assumption) ?_
          rotate_left 1
          · intro w hSw; (try dsimp only at hSw); go_simp; all_goals with_reducible rfl
          try simp only [Act.put, List.setIfInBounds_toArray, List.set_cons_zero, List.set_cons_succ]
          refine heldTake (i := 7) (v := ?_) rfl (by kernel_rfl) (by kernel_rfl) (by kernel_rfl) (fun _ _ _ h => h) (by rfl) ?_ (by assumption) ?_
          rotate_left 1
          · intro w hSw; (try dsimp only at hSw); go_simp; all_goals with_reducible rfl
          try simp only [Act.put, List.setIfInBounds_toArray, List.set_cons_zero, List.set_cons_succ]
          refine heldTake (i := 8) (v := ?_) rfl (by kernel_rfl) (by kernel_rfl) (by kernel_rfl) (fun _ _ _ h => h) (by rfl) ?_ (by assumption) ?_
          rotate_left 1
          · intro w hSw; (try dsimp only at hSw); go_simp; all_goals with_reducible rfl
          try simp only [Act.put, List.setIfInBounds_toArray, List.set_cons_zero, List.set_cons_succ]
          refine heldTake (i := 9) (v := ?_) rfl (by kernel_rfl) (by kernel_rfl) (by kernel_rfl) (fun _ _ _ h => h) (by rfl) ?_ (by assumption) ?_
          rotate_left 1
          · intro w hSw; (try dsimp only at hSw); go_simp; all_goals with_reducible rfl
          try simp only [Act.put, List.setIfInBounds_toArray, List.set_cons_zero, List.set_cons_succ]
          refine heldTake (i := 10) (v := ?_) rfl (by kernel_rfl) (by kernel_rfl) (by kernel_rfl) (fun _ _ _ h => h) (by rfl) ?_ (by assumption) ?_
          rotate_left 1
          · intro w hSw; (try dsimp only at hSw); go_simp; all_goals with_reducible rfl
          try simp only [Act.put, List.setIfInBounds_toArray, List.set_cons_zero, List.set_cons_succ]
          refine heldTake (i := 11) (v := ?_) rfl (by kernel_rfl) (by kernel_rfl) (by kernel_rfl) (fun _ _ _ h => h) (by rfl) ?_ (by assumption) ?_
          rotate_left 1
          · intro w hSw; (try dsimp only at hSw); go_simp; all_goals with_reducible rfl
          try simp only [Act.put, List.setIfInBounds_toArray, List.set_cons_zero, List.set_cons_succ]
          refine heldTake (i := 12) (v := ?_) rfl (by kernel_rfl) (by kernel_rfl) (by kernel_rfl) (fun _ _ _ h => h) (by rfl) ?_ (by assumption) ?_
          rotate_left 1
          · intro w hSw; (try dsimp only at hSw); go_simp; all_goals with_reducible rfl
          try simp only [Act.put, List.setIfInBounds_toArray, List.set_cons_zero, List.set_cons_succ]
          refine heldTake (i := 13) (v := ?_) rfl (by kernel_rfl) (by kernel_rfl) (by kernel_rfl) (fun _ _ _ h => h) (by rfl) ?_ (by assumption) ?_
          rotate_left 1
          · intro w hSw; (try dsimp only at hSw); go_simp; all_goals with_reducible rfl
          try simp only [Act.put, List.setIfInBounds_toArray, List.set_cons_zero, List.set_cons_succ]
          refine heldTake (i := 14) (v := ?_) rfl (by kernel_rfl) (by kernel_rfl) (by kernel_rfl) (fun _ _ _ h => h) (by rfl) ?_ (by assumption) ?_
          rotate_left 1
          · intro w hSw; (try dsimp only at hSw); go_simp; all_goals with_reducible rfl
          try simp only [Act.put, List.setIfInBounds_toArray, List.set_cons_zero, List.set_cons_succ]
          refine heldTake (i := 15) (v := ?_) rfl (by kernel_rfl) (by kernel_rfl) (by kernel_rfl) (fun _ _ _ h => h) (by rfl) ?_ (by assumption) ?_
          rotate_left 1
          · intro w hSw; (try dsimp only at hSw); go_simp; all_goals with_reducible rfl
          try simp only [Act.put, List.setIfInBounds_toArray, List.set_cons_zero, List.set_cons_succ]
          refine heldTake (i := 16) (v := ?_) rfl (by kernel_rfl) (by kernel_rfl) (by kernel_rfl) (fun _ _ _ h => h) (by rfl) ?_ (by assumption) ?_
          rotate_left 1
          · intro w hSw; (try dsimp only at hSw); go_simp; all_goals with_reducible rfl
          try simp only [Act.put, List.setIfInBounds_toArray, List.set_cons_zero, List.set_cons_succ]
          refine heldTake (i := 17) (v := ?_) rfl (by kernel_rfl) (by kernel_rfl) (by kernel_rfl) (fun _ _ _ h => h) (by rfl) ?_ (by assumption) ?_
          rotate_left 1
          · intro w hSw; (try dsimp only at hSw); go_simp; all_goals with_reducible rfl
          try simp only [Act.put, List.setIfInBounds_toArray, List.set_cons_zero, List.set_cons_succ]
          refine heldTake (i := 18) (v := ?_) rfl (by kernel_rfl) (by kernel_rfl) (by kernel_rfl) (fun _ _ _ h => h) (by rfl) ?_ (by assumption) ?_
          rotate_left 1
          · intro w hSw; (try dsimp only at hSw); go_simp; all_goals with_reducible rfl
          try simp only [Act.put, List.setIfInBounds_toArray, List.set_cons_zero, List.set_cons_succ]
          refine heldTake (i := 21) (v := ?_) rfl (by kernel_rfl) (by kernel_rfl) (by kernel_rfl) (fun _ _ _ h => h) (by rfl) ?_ (by assumption) ?_
          rotate_left 1
          · intro w hSw; (try dsimp only at hSw); go_simp; all_goals with_reducible rfl
          try simp only [Act.put, List.setIfInBounds_toArray, List.set_cons_zero, List.set_cons_succ]
          refine heldTake (i := 22) (v := ?_) rfl (by kernel_rfl) (by kernel_rfl) (by kernel_rfl) (fun _ _ _ h => h) (by rfl) ?_ (by assumption) ?_
          rotate_left 1
          · intro w hSw; (try dsimp only at hSw); go_simp; all_goals with_reducible rfl
          try simp only [Act.put, List.setIfInBounds_toArray, List.set_cons_zero, List.set_cons_succ]
          refine heldRun (i := 19) rfl (by kernel_rfl) (by rfl) (fun K hK => ?_)
          go_simp
          refine H14.out.mono ?_
          rintro e wa ⟨va, rfl, hOa, hba⟩
          have r3 := HD.out _ (HBD.out.trans hba)
          obtain ⟨D1, cd1, hva, cB⟩ := conv_own HSS HXL HA hOa
          subst hva
          have HBa := Lib.hid hba
          clear hba hOa
          go_wp2_with fail
          refine hK.out _ _ r3 (fun hHeld => ?_)
          clear hK K
          try simp only [Act.put, List.setIfInBounds_toArray, List.set_cons_zero, List.set_cons_succ]
          refine heldRun (i := 20) rfl (by kernel_rfl) (by rfl) (fun K hK => ?_)
          go_simp
          refine hK.out _ _ r3 (fun hHeld2 => ?_)
          clear hK K
          try simp only [Act.put, List.setIfInBounds_toArray, List.set_cons_zero, List.set_cons_succ]
          refine heldTake (i := 23) (v := ?_) rfl (by kernel_rfl) (by kernel_rfl) (by kernel_rfl) (fun _ _ _ h => h) (by rfl) ?_ (by assumption) ?_
          rotate_left 1
          · intro w hSw; (try dsimp only at hSw); go_simp; all_goals with_reducible rfl
          try simp only [Act.put, List.setIfInBounds_toArray, List.set_cons_zero, List.set_cons_succ]
          refine heldTake (i := 24) (v := ?_) rfl (by kernel_rfl) (by kernel_rfl) (by kernel_rfl) (fun _ _ _ h => h) (by rfl) ?_ (by assumption) ?_
          rotate_left 1
          · intro w hSw; (try dsimp only at hSw); go_simp; all_goals with_reducible rfl
          try simp only [Act.put, List.setIfInBounds_toArray, List.set_cons_zero, List.set_cons_succ]
          refine heldTake (i := 25) (v := ?_) rfl (by kernel_rfl) (by kernel_rfl) (by kernel_rfl) (fun _ _ _ h => h) (by rfl) ?_ (by assumption) ?_
          rotate_left 1
          · intro w hSw; (try dsimp only at hSw); go_simp; all_goals with_reducible rfl
          try simp only [Act.put, List.setIfInBounds_toArray, List.set_cons_zero, List.set_cons_succ]
          refine heldTake (i := 26) (v := ?_) rfl (by kernel_rfl) (by kernel_rfl) (by kernel_rfl) (fun _ _ _ h => h) (by rfl) ?_ (by assumption) ?_
          rotate_left 1
          · intro w hSw; (try dsimp only at hSw); go_simp; all_goals with_reducible rfl
          try simp only [Act.put, List.setIfInBounds_toArray, List.set_cons_zero, List.set_cons_succ]
          refine heldTake (i := 27) (v := ?_) rfl (by kernel_rfl) (by kernel_rfl) (by kernel_rfl) (fun _ _ _ h => h) (by rfl) ?_ (by assumption) ?_
          rotate_left 1
          · intro w hSw; (try dsimp only at hSw); go_simp; all_goals with_reducible rfl
          try simp only [Act.put, List.setIfInBounds_toArray, List.set_cons_zero, List.set_cons_succ]
          refine heldTake (i := 28) (v := ?_) rfl (by kernel_rfl) (by kernel_rfl) (by kernel_rfl) (fun _ _ _ h => h) (by rfl) ?_ (by assumption) ?_
          rotate_left 1
          · intro w hSw; (try dsimp only at hSw); go_simp; all_goals with_reducible rfl
          try simp only [Act.put, List.setIfInBounds_toArray, List.set_cons_zero, List.set_cons_succ]
          refine heldSkip (i := 29) rfl (by kernel_rfl) (by kernel_rfl) (by kernel_rfl) (fun _ _ _ h => h) (by rfl) (by assumption) ?_
          try simp only [Act.put, List.setIfInBounds_toArray, List.set_cons_zero, List.set_cons_succ]
          refine heldSkip (i := 30) rfl (by kernel_rfl) (by kernel_rfl) (by kernel_rfl) (fun _ _ _ h => h) (by rfl) (by assumption) ?_
          try simp only [Act.put, List.setIfInBounds_toArray, List.set_cons_zero, List.set_cons_succ]
          refine heldSkip (i := 31) rfl (by kernel_rfl) (by kernel_rfl) (by kernel_rfl) (fun _ _ _ h => h) (by rfl) (by assumption) ?_
          try simp only [Act.put, List.setIfInBounds_toArray, List.set_cons_zero, List.set_cons_succ]
          refine heldSkip (i := 32) rfl (by kernel_rfl) (by kernel_rfl) (by kernel_rfl) (fun _ _ _ h => h) (by rfl) (by assumption) ?_
          try simp only [Act.put, List.setIfInBounds_toArray, List.set_cons_zero, List.set_cons_succ]
          refine heldSkip (i := 33) rfl (by kernel_rfl) (by kernel_rfl) (by kernel_rfl) (fun _ _ _ h => h) (by rfl) (by assumption) ?_
          try simp only [Act.put, List.setIfInBounds_toArray, List.set_cons_zero, List.set_cons_succ]
          refine heldSkip (i := 34) rfl (by kernel_rfl) (by kernel_rfl) (by kernel_rfl) (fun _ _ _ h => h) (by rfl) (by assumption) ?_
          try simp only [Act.put, List.setIfInBounds_toArray, List.set_cons_zero, List.set_cons_succ]
          refine heldSkip (i := 35) rfl (by kernel_rfl) (by kernel_rfl) (by kernel_rfl) (fun _ _ _ h => h) (by rfl) (by assumption) ?_
          try simp only [Act.put, List.setIfInBounds_toArray, List.set_cons_zero, List.set_cons_succ]
          refine heldSkip (i := 36) rfl (by kernel_rfl) (by kernel_rfl) (by kernel_rfl) (fun _ _ _ h => h) (by rfl) (by assumption) ?_
          try simp only [Act.put, List.setIfInBounds_toArray, List.set_cons_zero, List.set_cons_succ]
          refine heldSkip (i := 37) rfl (by kernel_rfl) (by kernel_rfl) (by kernel_rfl) (fun _ _ _ h => h) (by rfl) (by assumption) ?_
          try simp only [Act.put, List.setIfInBounds_toArray, List.set_cons_zero, List.set_cons_succ]
          refine heldSkip (i := 38) rfl (by kernel_rfl) (by kernel_rfl) (by kernel_rfl) (fun _ _ _ h => h) (by rfl) (by assumption) ?_
          try simp only [Act.put, List.setIfInBounds_toArray, List.set_cons_zero, List.set_cons_succ]
          refine heldSkip (i := 39) rfl (by kernel_rfl) (by kernel_rfl) (by kernel_rfl) (fun _ _ _ h => h) (by rfl) (by assumption) ?_
          try simp only [Act.put, List.setIfInBounds_toArray, List.set_cons_zero, List.set_cons_succ]
          refine heldSkip (i := 40) rfl (by kernel_rfl) (by kernel_rfl) (by kernel_rfl) (fun _ _ _ h => h) (by rfl) (by assumption) ?_
          try simp only [Act.put, List.setIfInBounds_toArray, List.set_cons_zero, List.set_cons_succ]
          refine heldSkip (i := 41) rfl (by kernel_rfl) (by kernel_rfl) (by kernel_rfl) (fun _ _ _ h => h) (by rfl) (by assumption) ?_
          try simp only [Act.put, List.setIfInBounds_toArray, List.set_cons_zero, List.set_cons_succ]
          refine heldSkip (i := 42) rfl (by kernel_rfl) (by kernel_rfl) (by kernel_rfl) (fun _ _ _ h => h) (by rfl) (by assumption) ?_
          try simp only [Act.put, List.setIfInBounds_toArray, List.set_cons_zero, List.set_cons_succ]
          refine heldSkip (i := 43) rfl (by kernel_rfl) (by kernel_rfl) (by kernel_rfl) (fun _ _ _ h => h) (by rfl) (by assumption) ?_
          try simp only [Act.put, List.setIfInBounds_toArray, List.set_cons_zero, List.set_cons_succ]
          refine heldSkip (i := 44) rfl (by kernel_rfl) (by kernel_rfl) (by kernel_rfl) (fun _ _ _ h => h) (by rfl) (by assumption) ?_
          try simp only [Act.put, List.setIfInBounds_toArray, List.set_cons_zero, List.set_cons_succ]
          refine heldSkip (i := 45) rfl (by kernel_rfl) (by kernel_rfl) (by kernel_rfl) (fun _ _ _ h => h) (by rfl) (by assumption) ?_
          try simp only [Act.put, List.setIfInBounds_toArray, List.set_cons_zero, List.set_cons_succ]
          refine heldSkip (i := 46) rfl (by kernel_rfl) (by kernel_rfl) (by kernel_rfl) (fun _ _ _ h => h) (by rfl) (by assumption) ?_
          try simp only [Act.put, List.setIfInBounds_toArray, List.set_cons_zero, List.set_cons_succ]
          refine heldSkip (i := 47) rfl (by kernel_rfl) (by kernel_rfl) (by kernel_rfl) (fun _ _ _ h => h) (by rfl) (by assumption) ?_
          try simp only [Act.put, List.setIfInBounds_toArray, List.set_cons_zero, List.set_cons_succ]
          refine heldTake (i := 48) (v := ?_) rfl (by kernel_rfl) (by kernel_rfl) (by kernel_rfl) (fun _ _ _ h => h) (by rfl) ?_ (by assumption) ?_
          rotate_left 1
          · intro w hSw; (try dsimp only at hSw); go_simp; all_goals with_reducible rfl
          try simp only [Act.put, List.setIfInBounds_toArray, List.set_cons_zero, List.set_cons_succ]
          refine heldTake (i := 49) (v := ?_) rfl (by kernel_rfl) (by kernel_rfl) (by kernel_rfl) (fun _ _ _ h => h) (by rfl) ?_ (by assumption) ?_
          rotate_left 1
          · intro w hSw; (try dsimp only at hSw); go_simp; all_goals with_reducible rfl
          try simp only [Act.put, List.setIfInBounds_toArray, List.set_cons_zero, List.set_cons_succ]
          refine heldTake (i := 50) (v := ?_) rfl (by kernel_rfl) (by kernel_rfl) (by kernel_rfl) (fun _ _ _ h => h) (by rfl) ?_ (by assumption) ?_
          rotate_left 1
          · intro w hSw; (try dsimp only at hSw); go_simp; all_goals with_reducible rfl
          try simp only [Act.put, List.setIfInBounds_toArray, List.set_cons_zero, List.set_cons_succ]
          refine wpAnyH_done (by kernel_rfl) ?_ _
          go_wp2_with fail
          go_returns
          exact ⟨rfl, HB90.out.trans ((HBD.out.trans HBa.out).mono HB90.out.size)⟩
        · have hfit := HGB.out rfl
          have ee : err = e' := by
            have h1 := HE1.out
            have h2 := hfit.1
            unfold RFits at h2
            omega
          have ek : clock = k' := by
            have h1 := HK1.out
            have h2 := hfit.1
            unfold RFits at h2
            rw [u64_id clock (by omega) (by omega)] at h1
            omega
          have et : trimR ps = ps := trim_all ps fun j hj => hfit.2 j (by rw [HK.out, ← HL.out]; exact hj)
          rw [et] at HQ9
          have HQR := Lib.hid (show ∀ w', Below wr.drew.heap.size wr.drew w' → Rw w' A7 n c7 ps ∧ Rw w' A n cap ps from fun w' hb' => ⟨HQ9.out.below hb', HRd.out.below hb'⟩)
          subst ee ek
          clear hfit et HE1 HK1
          go_upto_region 19 with fail
          clear s2
          refine wp_region_held_drew (S := (fun w' => w'.cell? ⟨w.heap.size, 0, none⟩ = some (.int .i64 err) ∧ w'.cell? ⟨w.heap.size, 1, none⟩ = some (.int .i64 clock) ∧ w'.cell? ⟨w.heap.size, 2, none⟩ = some (.slice A n cap) ∧ w'.cell? ⟨T, 0, none⟩ = some (.int .i64 err) ∧ w'.cell? ⟨T, 1, none⟩ = some (.int .i64 clock) ∧ w'.cell? ⟨T, 2, none⟩ = some (.slice A7 n c7) ∧ (convert 24 9 (.slice (some ⟨b, o, none⟩) N cc)).run Try.prog w' = .ok (.string S) w')) (by kernel_rfl) ⟨d0, d1, d2, d3, d4, d5, d6⟩ (fun hHeld => ?_)
          refine heldTake (i := 0) (v := ?_) rfl (by kernel_rfl) (by kernel_rfl) (by kernel_rfl) (fun _ _ _ h => h) (by rfl) ?_ (by assumption) ?_
          rotate_left 1
          · intro w hSw; (try dsimp only at hSw); go_simp; all_goals with_reducible rfl
          try simp only [Act.put, List.setIfInBounds_toArray, List.set_cons_zero, List.set_cons_succ]
          refine heldTake (i := 1) (v := ?_) rfl (by kernel_rfl) (by kernel_rfl) (by kernel_rfl) (fun _ _ _ h => h) (by rfl) ?_ (by assumption) ?_
          rotate_left 1
          · intro w hSw; (try dsimp only at hSw); go_simp; all_goals with_reducible rfl
          try simp only [Act.put, List.setIfInBounds_toArray, List.set_cons_zero, List.set_cons_succ]
          refine heldTake (i := 2) (v := ?_) rfl (by kernel_rfl) (by kernel_rfl) (by kernel_rfl) (fun _ _ _ h => h) (by rfl) ?_ (by assumption) ?_
          rotate_left 1
          · intro w hSw; (try dsimp only at hSw); go_simp; all_goals with_reducible rfl
          try simp only [Act.put, List.setIfInBounds_toArray, List.set_cons_zero, List.set_cons_succ]
          refine heldTake (i := 3) (v := ?_) rfl (by kernel_rfl) (by kernel_rfl) (by kernel_rfl) (fun _ _ _ h => h) (by rfl) ?_ (by assumption) ?_
          rotate_left 1
          · intro w hSw; (try dsimp only at hSw); go_simp; all_goals with_reducible rfl
          try simp only [Act.put, List.setIfInBounds_toArray, List.set_cons_zero, List.set_cons_succ]
          refine heldTake (i := 4) (v := ?_) rfl (by kernel_rfl) (by kernel_rfl) (by kernel_rfl) (fun _ _ _ h => h) (by rfl) ?_ (by assumption) ?_
          rotate_left 1
          · intro w hSw; (try dsimp only at hSw); go_simp; all_goals with_reducible rfl
          try simp only [Act.put, List.setIfInBounds_toArray, List.set_cons_zero, List.set_cons_succ]
          refine heldTake (i := 5) (v := ?_) rfl (by kernel_rfl) (by kernel_rfl) (by kernel_rfl) (fun _ _ _ h => h) (by rfl) ?_ (by assumption) ?_
          rotate_left 1
          · intro w hSw; (try dsimp only at hSw); go_simp; all_goals with_reducible rfl
          try simp only [Act.put, List.setIfInBounds_toArray, List.set_cons_zero, List.set_cons_succ]
          refine heldTake (i := 6) (v := ?_) rfl (by kernel_rfl) (by kernel_rfl) (by kernel_rfl) (fun _ _ _ h => h) (by rfl) ?_ (by assumption) ?_
          rotate_left 1
          · intro w hSw; (try dsimp only at hSw); go_simp; all_goals with_reducible rfl
          try simp only [Act.put, List.setIfInBounds_toArray, List.set_cons_zero, List.set_cons_succ]
          refine heldTake (i := 7) (v := ?_) rfl (by kernel_rfl) (by kernel_rfl) (by kernel_rfl) (fun _ _ _ h => h) (by rfl) ?_ (by assumption) ?_
          rotate_left 1
          · intro w hSw; (try dsimp only at hSw); go_simp; all_goals with_reducible rfl
          try simp only [Act.put, List.setIfInBounds_toArray, List.set_cons_zero, List.set_cons_succ]
          refine heldTake (i := 8) (v := ?_) rfl (by kernel_rfl) (by kernel_rfl) (by kernel_rfl) (fun _ _ _ h => h) (by rfl) ?_ (by assumption) ?_
          rotate_left 1
          · intro w hSw; (try dsimp only at hSw); go_simp; all_goals with_reducible rfl
          try simp only [Act.put, List.setIfInBounds_toArray, List.set_cons_zero, List.set_cons_succ]
          refine heldTake (i := 9) (v := ?_) rfl (by kernel_rfl) (by kernel_rfl) (by kernel_rfl) (fun _ _ _ h => h) (by rfl) ?_ (by assumption) ?_
          rotate_left 1
          · intro w hSw; (try dsimp only at hSw); go_simp; all_goals with_reducible rfl
          try simp only [Act.put, List.setIfInBounds_toArray, List.set_cons_zero, List.set_cons_succ]
          refine heldTake (i := 10) (v := ?_) rfl (by kernel_rfl) (by kernel_rfl) (by kernel_rfl) (fun _ _ _ h => h) (by rfl) ?_ (by assumption) ?_
          rotate_left 1
          · intro w hSw; (try dsimp only at hSw); go_simp; all_goals with_reducible rfl
          try simp only [Act.put, List.setIfInBounds_toArray, List.set_cons_zero, List.set_cons_succ]
          refine heldTake (i := 11) (v := ?_) rfl (by kernel_rfl) (by kernel_rfl) (by kernel_rfl) (fun _ _ _ h => h) (by rfl) ?_ (by assumption) ?_
          rotate_left 1
          · intro w hSw; (try dsimp only at hSw); go_simp; all_goals with_reducible rfl
          try simp only [Act.put, List.setIfInBounds_toArray, List.set_cons_zero, List.set_cons_succ]
          refine heldTake (i := 12) (v := ?_) rfl (by kernel_rfl) (by kernel_rfl) (by kernel_rfl) (fun _ _ _ h => h) (by rfl) ?_ (by assumption) ?_
          rotate_left 1
          · intro w hSw; (try dsimp only at hSw); go_simp; all_goals with_reducible rfl
          try simp only [Act.put, List.setIfInBounds_toArray, List.set_cons_zero, List.set_cons_succ]
          refine heldTake (i := 13) (v := ?_) rfl (by kernel_rfl) (by kernel_rfl) (by kernel_rfl) (fun _ _ _ h => h) (by rfl) ?_ (by assumption) ?_
          rotate_left 1
          · intro w hSw; (try dsimp only at hSw); go_simp; all_goals with_reducible rfl
          try simp only [Act.put, List.setIfInBounds_toArray, List.set_cons_zero, List.set_cons_succ]
          refine heldTake (i := 14) (v := ?_) rfl (by kernel_rfl) (by kernel_rfl) (by kernel_rfl) (fun _ _ _ h => h) (by rfl) ?_ (by assumption) ?_
          rotate_left 1
          · intro w hSw; (try dsimp only at hSw); go_simp; all_goals with_reducible rfl
          try simp only [Act.put, List.setIfInBounds_toArray, List.set_cons_zero, List.set_cons_succ]
          refine heldTake (i := 15) (v := ?_) rfl (by kernel_rfl) (by kernel_rfl) (by kernel_rfl) (fun _ _ _ h => h) (by rfl) ?_ (by assumption) ?_
          rotate_left 1
          · intro w hSw; (try dsimp only at hSw); go_simp; all_goals with_reducible rfl
          try simp only [Act.put, List.setIfInBounds_toArray, List.set_cons_zero, List.set_cons_succ]
          refine heldTake (i := 16) (v := ?_) rfl (by kernel_rfl) (by kernel_rfl) (by kernel_rfl) (fun _ _ _ h => h) (by rfl) ?_ (by assumption) ?_
          rotate_left 1
          · intro w hSw; (try dsimp only at hSw); go_simp; all_goals with_reducible rfl
          try simp only [Act.put, List.setIfInBounds_toArray, List.set_cons_zero, List.set_cons_succ]
          refine heldTake (i := 17) (v := ?_) rfl (by kernel_rfl) (by kernel_rfl) (by kernel_rfl) (fun _ _ _ h => h) (by rfl) ?_ (by assumption) ?_
          rotate_left 1
          · intro w hSw; (try dsimp only at hSw); go_simp; all_goals with_reducible rfl
          try simp only [Act.put, List.setIfInBounds_toArray, List.set_cons_zero, List.set_cons_succ]
          refine heldTake (i := 18) (v := ?_) rfl (by kernel_rfl) (by kernel_rfl) (by kernel_rfl) (fun _ _ _ h => h) (by rfl) ?_ (by assumption) ?_
          rotate_left 1
          · intro w hSw; (try dsimp only at hSw); go_simp; all_goals with_reducible rfl
          try simp only [Act.put, List.setIfInBounds_toArray, List.set_cons_zero, List.set_cons_succ]
          refine heldTake (i := 21) (v := ?_) rfl (by kernel_rfl) (by kernel_rfl) (by kernel_rfl) (fun _ _ _ h => h) (by rfl) ?_ (by assumption) ?_
          rotate_left 1
          · intro w hSw; (try dsimp only at hSw); go_simp; all_goals with_reducible rfl
          try simp only [Act.put, List.setIfInBounds_toArray, List.set_cons_zero, List.set_cons_succ]
          refine heldTake (i := 22) (v := ?_) rfl (by kernel_rfl) (by kernel_rfl) (by kernel_rfl) (fun _ _ _ h => h) (by rfl) ?_ (by assumption) ?_
          rotate_left 1
          · intro w hSw; (try dsimp only at hSw); go_simp; all_goals with_reducible rfl
          try simp only [Act.put, List.setIfInBounds_toArray, List.set_cons_zero, List.set_cons_succ]
          refine heldRun (i := 19) rfl (by kernel_rfl) (by rfl) (fun K hK => ?_)
          go_simp
          refine H14.out.mono ?_
          rintro e wa ⟨va, rfl, hOa, hba⟩
          have r3 := HD.out _ (HBD.out.trans hba)
          obtain ⟨D1, cd1, hva, cB⟩ := conv_own HSS HXL HA hOa
          subst hva
          have HBa := Lib.hid hba
          have q7 := HQR.out _ hba
          have HQ7 := Lib.hid q7
          clear hba hOa q7
          go_wp2_with fail
          refine hK.out _ _ r3 (fun hHeld19 => ?_)
          clear hK K
          try simp only [Act.put, List.setIfInBounds_toArray, List.set_cons_zero, List.set_cons_succ]
          refine heldRun (i := 20) rfl (by kernel_rfl) (by rfl) (fun K hK => ?_)
          go_simp
          refine hK.out _ _ r3 (fun hHeld20 => ?_)
          clear hK K
          try simp only [Act.put, List.setIfInBounds_toArray, List.set_cons_zero, List.set_cons_succ]
          refine heldTake (i := 23) (v := ?_) rfl (by kernel_rfl) (by kernel_rfl) (by kernel_rfl) (fun _ _ _ h => h) (by rfl) ?_ (by assumption) ?_
          rotate_left 1
          · intro w hSw; (try dsimp only at hSw); go_simp; all_goals with_reducible rfl
          try simp only [Act.put, List.setIfInBounds_toArray, List.set_cons_zero, List.set_cons_succ]
          refine heldTake (i := 24) (v := ?_) rfl (by kernel_rfl) (by kernel_rfl) (by kernel_rfl) (fun _ _ _ h => h) (by rfl) ?_ (by assumption) ?_
          rotate_left 1
          · intro w hSw; (try dsimp only at hSw); go_simp; all_goals with_reducible rfl
          try simp only [Act.put, List.setIfInBounds_toArray, List.set_cons_zero, List.set_cons_succ]
          refine heldTake (i := 25) (v := ?_) rfl (by kernel_rfl) (by kernel_rfl) (by kernel_rfl) (fun _ _ _ h => h) (by rfl) ?_ (by assumption) ?_
          rotate_left 1
          · intro w hSw; (try dsimp only at hSw); go_simp; all_goals with_reducible rfl
          try simp only [Act.put, List.setIfInBounds_toArray, List.set_cons_zero, List.set_cons_succ]
          refine heldTake (i := 26) (v := ?_) rfl (by kernel_rfl) (by kernel_rfl) (by kernel_rfl) (fun _ _ _ h => h) (by rfl) ?_ (by assumption) ?_
          rotate_left 1
          · intro w hSw; (try dsimp only at hSw); go_simp; all_goals with_reducible rfl
          try simp only [Act.put, List.setIfInBounds_toArray, List.set_cons_zero, List.set_cons_succ]
          refine heldTake (i := 27) (v := ?_) rfl (by kernel_rfl) (by kernel_rfl) (by kernel_rfl) (fun _ _ _ h => h) (by rfl) ?_ (by assumption) ?_
          rotate_left 1
          · intro w hSw; (try dsimp only at hSw); go_simp; all_goals with_reducible rfl
          try simp only [Act.put, List.setIfInBounds_toArray, List.set_cons_zero, List.set_cons_succ]
          refine heldTake (i := 28) (v := ?_) rfl (by kernel_rfl) (by kernel_rfl) (by kernel_rfl) (fun _ _ _ h => h) (by rfl) ?_ (by assumption) ?_
          rotate_left 1
          · intro w hSw; (try dsimp only at hSw); go_simp; all_goals with_reducible rfl
          try simp only [Act.put, List.setIfInBounds_toArray, List.set_cons_zero, List.set_cons_succ]
          refine heldTake (i := 29) (v := ?_) rfl (by kernel_rfl) (by kernel_rfl) (by kernel_rfl) (fun _ _ _ h => h) (by rfl) ?_ (by assumption) ?_
          rotate_left 1
          · intro w hSw; (try dsimp only at hSw); go_simp; all_goals with_reducible rfl
          try simp only [Act.put, List.setIfInBounds_toArray, List.set_cons_zero, List.set_cons_succ]
          refine heldTake (i := 30) (v := ?_) rfl (by kernel_rfl) (by kernel_rfl) (by kernel_rfl) (fun _ _ _ h => h) (by rfl) ?_ (by assumption) ?_
          rotate_left 1
          · intro w hSw; (try dsimp only at hSw); go_simp; all_goals with_reducible rfl
          try simp only [Act.put, List.setIfInBounds_toArray, List.set_cons_zero, List.set_cons_succ]
          refine heldTake (i := 31) (v := ?_) rfl (by kernel_rfl) (by kernel_rfl) (by kernel_rfl) (fun _ _ _ h => h) (by rfl) ?_ (by assumption) ?_
          rotate_left 1
          · intro w hSw; (try dsimp only at hSw); go_simp; all_goals with_reducible rfl
          try simp only [Act.put, List.setIfInBounds_toArray, List.set_cons_zero, List.set_cons_succ]
          refine heldTake (i := 32) (v := ?_) rfl (by kernel_rfl) (by kernel_rfl) (by kernel_rfl) (fun _ _ _ h => h) (by rfl) ?_ (by assumption) ?_
          rotate_left 1
          · intro w hSw; (try dsimp only at hSw); go_simp; all_goals with_reducible rfl
          try simp only [Act.put, List.setIfInBounds_toArray, List.set_cons_zero, List.set_cons_succ]
          refine heldTake (i := 33) (v := ?_) rfl (by kernel_rfl) (by kernel_rfl) (by kernel_rfl) (fun _ _ _ h => h) (by rfl) ?_ (by assumption) ?_
          rotate_left 1
          · intro w hSw; (try dsimp only at hSw); go_simp; all_goals with_reducible rfl
          try simp only [Act.put, List.setIfInBounds_toArray, List.set_cons_zero, List.set_cons_succ]
          refine heldTake (i := 34) (v := ?_) rfl (by kernel_rfl) (by kernel_rfl) (by kernel_rfl) (fun _ _ _ h => h) (by rfl) ?_ (by assumption) ?_
          rotate_left 1
          · intro w hSw; (try dsimp only at hSw); go_simp; all_goals with_reducible rfl
          try simp only [Act.put, List.setIfInBounds_toArray, List.set_cons_zero, List.set_cons_succ]
          refine heldTake (i := 35) (v := ?_) rfl (by kernel_rfl) (by kernel_rfl) (by kernel_rfl) (fun _ _ _ h => h) (by rfl) ?_ (by assumption) ?_
          rotate_left 1
          · intro w hSw; (try dsimp only at hSw); go_simp; all_goals with_reducible rfl
          try simp only [Act.put, List.setIfInBounds_toArray, List.set_cons_zero, List.set_cons_succ]
          refine heldTake (i := 36) (v := ?_) rfl (by kernel_rfl) (by kernel_rfl) (by kernel_rfl) (fun _ _ _ h => h) (by rfl) ?_ (by assumption) ?_
          rotate_left 1
          · intro w hSw; (try dsimp only at hSw); go_simp; all_goals with_reducible rfl
          try simp only [Act.put, List.setIfInBounds_toArray, List.set_cons_zero, List.set_cons_succ]
          refine heldTake (i := 37) (v := ?_) rfl (by kernel_rfl) (by kernel_rfl) (by kernel_rfl) (fun _ _ _ h => h) (by rfl) ?_ (by assumption) ?_
          rotate_left 1
          · intro w hSw; (try dsimp only at hSw); go_simp; all_goals with_reducible rfl
          try simp only [Act.put, List.setIfInBounds_toArray, List.set_cons_zero, List.set_cons_succ]
          refine heldTake (i := 38) (v := ?_) rfl (by kernel_rfl) (by kernel_rfl) (by kernel_rfl) (fun _ _ _ h => h) (by rfl) ?_ (by assumption) ?_
          rotate_left 1
          · intro w hSw; (try dsimp only at hSw); go_simp; all_goals with_reducible rfl
          try simp only [Act.put, List.setIfInBounds_toArray, List.set_cons_zero, List.set_cons_succ]
          refine heldTake (i := 39) (v := ?_) rfl (by kernel_rfl) (by kernel_rfl) (by kernel_rfl) (fun _ _ _ h => h) (by rfl) ?_ (by assumption) ?_
          rotate_left 1
          · intro w hSw; (try dsimp only at hSw); go_simp; all_goals with_reducible rfl
          try simp only [Act.put, List.setIfInBounds_toArray, List.set_cons_zero, List.set_cons_succ]
          refine heldTake (i := 40) (v := ?_) rfl (by kernel_rfl) (by kernel_rfl) (by kernel_rfl) (fun _ _ _ h => h) (by rfl) ?_ (by assumption) ?_
          rotate_left 1
          · intro w hSw; (try dsimp only at hSw); go_simp; all_goals with_reducible rfl
          try simp only [Act.put, List.setIfInBounds_toArray, List.set_cons_zero, List.set_cons_succ]
          refine heldTake (i := 41) (v := ?_) rfl (by kernel_rfl) (by kernel_rfl) (by kernel_rfl) (fun _ _ _ h => h) (by rfl) ?_ (by assumption) ?_
          rotate_left 1
          · intro w hSw; (try dsimp only at hSw); go_simp; all_goals with_reducible rfl
          try simp only [Act.put, List.setIfInBounds_toArray, List.set_cons_zero, List.set_cons_succ]
          refine heldTake (i := 42) (v := ?_) rfl (by kernel_rfl) (by kernel_rfl) (by kernel_rfl) (fun _ _ _ h => h) (by rfl) ?_ (by assumption) ?_
          rotate_left 1
          · intro w hSw; (try dsimp only at hSw); go_simp; all_goals with_reducible rfl
          try simp only [Act.put, List.setIfInBounds_toArray, List.set_cons_zero, List.set_cons_succ]
          refine heldTake (i := 43) (v := ?_) rfl (by kernel_rfl) (by kernel_rfl) (by kernel_rfl) (fun _ _ _ h => h) (by rfl) ?_ (by assumption) ?_
          rotate_left 1
          · intro w hSw; (try dsimp only at hSw); go_simp; all_goals with_reducible rfl
          try simp only [Act.put, List.setIfInBounds_toArray, List.set_cons_zero, List.set_cons_succ]
          refine heldTake (i := 44) (v := ?_) rfl (by kernel_rfl) (by kernel_rfl) (by kernel_rfl) (fun _ _ _ h => h) (by rfl) ?_ (by assumption) ?_
          rotate_left 1
          · intro w hSw; (try dsimp only at hSw); go_simp; all_goals with_reducible rfl
          try simp only [Act.put, List.setIfInBounds_toArray, List.set_cons_zero, List.set_cons_succ]
          refine heldTake (i := 45) (v := ?_) rfl (by kernel_rfl) (by kernel_rfl) (by kernel_rfl) (fun _ _ _ h => h) (by rfl) ?_ (by assumption) ?_
          rotate_left 1
          · intro w hSw; (try dsimp only at hSw); go_simp; all_goals with_reducible rfl
          try simp only [Act.put, List.setIfInBounds_toArray, List.set_cons_zero, List.set_cons_succ]
          refine heldRun (i := 46) rfl (by kernel_rfl) (by rfl) (fun K hK => ?_)
          go_simp
          refine (same17 A7 A n c7 cap ps _ HQ7.out.1 HQ7.out.2 (by omega)).mono ?_
          rintro e wc ⟨rfl, qq, rfl⟩
          have r4 := HD.out _ (below_drewN (HBD.out.trans HBa.out) qq)
          go_wp2_with fail
          refine hK.out _ _ r4 (fun hHeld46 => ?_)
          clear hK K
          try simp only [Act.put, List.setIfInBounds_toArray, List.set_cons_zero, List.set_cons_succ]
          refine heldTake (i := 47) (v := ?_) rfl (by kernel_rfl) (by kernel_rfl) (by kernel_rfl) (fun _ _ _ h => h) (by rfl) ?_ (by assumption) ?_
          rotate_left 1
          · intro w hSw; (try dsimp only at hSw); go_simp; all_goals with_reducible rfl
          try simp only [Act.put, List.setIfInBounds_toArray, List.set_cons_zero, List.set_cons_succ]
          refine heldTake (i := 48) (v := ?_) rfl (by kernel_rfl) (by kernel_rfl) (by kernel_rfl) (fun _ _ _ h => h) (by rfl) ?_ (by assumption) ?_
          rotate_left 1
          · intro w hSw; (try dsimp only at hSw); go_simp; all_goals with_reducible rfl
          try simp only [Act.put, List.setIfInBounds_toArray, List.set_cons_zero, List.set_cons_succ]
          refine heldTake (i := 49) (v := ?_) rfl (by kernel_rfl) (by kernel_rfl) (by kernel_rfl) (fun _ _ _ h => h) (by rfl) ?_ (by assumption) ?_
          rotate_left 1
          · intro w hSw; (try dsimp only at hSw); go_simp; all_goals with_reducible rfl
          try simp only [Act.put, List.setIfInBounds_toArray, List.set_cons_zero, List.set_cons_succ]
          refine heldTake (i := 50) (v := ?_) rfl (by kernel_rfl) (by kernel_rfl) (by kernel_rfl) (fun _ _ _ h => h) (by rfl) ?_ (by assumption) ?_
          rotate_left 1
          · intro w hSw; (try dsimp only at hSw); go_simp; all_goals with_reducible rfl
          try simp only [Act.put, List.setIfInBounds_toArray, List.set_cons_zero, List.set_cons_succ]
          refine wpAnyH_done (by kernel_rfl) ?_ _
          go_wp2_with fail
          go_returns
          exact ⟨rfl, HB90.out.trans ((below_drewN (HBD.out.trans HBa.out) _).mono HB90.out.size)⟩

theorem replies_law (r : RpA) (x : ByA) (cut : Int) (w : World) (hR : r.There w) (h : Sl w x.a x.len x.cap x.xs ∧ (x.a = none → x.cap = 0)) (hc : (Lit.int .u16 cut).wf = true) :
    Calls Try.prog 7 #[r.V, x.V, .int .u16 cut] w fun e w' => e = .returned (.bool true) ∧ Below w.heap.size w w' := by
  have h1 := bounds_u16 hc
  by_cases hx : 300 < r.x.len ∨ 100 < x.len
  · exact replies_big r x cut hx w
  · obtain ⟨n, rfl⟩ : ∃ n : Nat, cut = n := ⟨cut.toNat, by omega⟩
    exact replies_yes r x n (by omega) (by omega) (by omega) w hR h.1 h.2
end Go.Proofs.Ytbanlnacoidccaa
