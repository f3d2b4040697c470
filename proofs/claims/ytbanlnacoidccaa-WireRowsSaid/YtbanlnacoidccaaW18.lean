/- A reply's bytes: the law's: a round of its loop. -/
import Derived.Test.YtbanlnacoidccaaW17
import Derived.Deep.RegionHeld3
namespace Go.Proofs.Ytbanlnacoidccaa
open Go.RowKit
set_option linter.unusedSimpArgs false
set_option linter.unusedVariables false

theorem conv_rest (n : Int) : IntKind.u64.wrap n = u64 n := rfl

set_option maxRecDepth 100000 in
set_option maxHeartbeats 6400000 in
theorem reply15 (err clock : Int) (A : Option Addr) (n cap : Nat) (ps : List Pc) (w : World) (hR : Rw w A n cap ps) (hn : n ≤ 1000) :
    Calls Try.prog 15 #[.agg #[.int .i64 err, .int .i64 clock, .slice A n cap]] w fun e w' => ∃ v, e = .returned v ∧ OB w' w.heap.size v (encR err clock ps) ∧ Below w.heap.size w w' := by
  obtain ⟨i0, hi, hz0, hz1, hz2⟩ := info_parts info5
  go_enter Try.func15, Try.ntmps15
  have u1 := u64_range clock
  go_wp2_with fail
  refine (put21 (w.heap.size + 1) _ [err % 256] (u64 clock) 4 _ u1.1 u1.2 (by omega) (by simp) (OB_one _ _ (w.heap.size + 1) _ (by simp) (by omega)) (by simp)).mono ?_
  rintro en w1 ⟨v1, rfl, hO1, hb1⟩
  have hB1 := ((Below.refl _ (w.alloc (.cells #[.int .i64 err, .int .i64 clock, .slice A n cap] 40))).alloc (by simp) (.cells #[.int .u8 (err % 256)] 5)).trans hb1
  have x0 := cells_of_box hB1 0 _ rfl
  have x1 := cells_of_box hB1 1 _ rfl
  have x2 := cells_of_box hB1 2 (.slice A n cap) rfl
  have hs1 : w.heap.size + 1 ≤ w1.heap.size := by have := hB1.size; simp at this; omega
  clear hb1 u1
  go_wp2_with fail
  refine (put21 (w.heap.size + 1) _ ([err % 256] ++ be (u64 clock) 4) n 2 _ (by omega) (by omega) (by omega) (by simp [be_len]) hO1 hs1).mono ?_
  rintro en w2 ⟨v2, rfl, hO2, hb2⟩
  have hB2 := hB1.trans hb2
  clear x0 x1 x2 hO1 hb2 hs1 hB1
  have hO3 : OB w2 (w.heap.size + 1) v2 (encH err clock n) := hO2
  clear hO2
  have hbw : Below w.heap.size w w2 := ((Below.refl _ w).alloc (Nat.le_refl _) (.cells #[.int .i64 err, .int .i64 clock, .slice A n cap] 40)).trans (hB2.mono (by omega))
  have HR := Lib.hid hR
  have hs2 : w.heap.size + 1 ≤ w2.heap.size := by have := hB2.size; simp at this; omega
  have hlH : (encH err clock n).length = 7 := by simp [encH, be_len]
  have hroom := hR.room
  have htop := hR.top
  have HL := Lib.hid hR.long
  obtain ⟨hd, hhd⟩ : ∃ hd, encH err clock n = hd := ⟨_, rfl⟩
  rw [hhd] at hO3 hlH
  have HD := Lib.hid hhd
  clear hhd
  have HB := Lib.hid hB2
  clear hR hB2
  go_wp2_with fail
  go_loopw [3, 4] (fun v i wr => ∃ k : Nat, k ≤ n ∧ i = .int .i64 k ∧ OB wr (w.heap.size + 1) v (hd ++ (ps.take k).flatMap encP) ∧ Below (w.heap.size + 1) w2 wr) (fun _ i _ => n - (intOf i).toNat)
  case atStart => exact ⟨0, by omega, rfl, by simpa using hO3, Below.refl _ _⟩
  case round =>
    obtain ⟨k, hk, rfl, hO, hB⟩ := hrel
    have hwr := hbw.trans (hB.mono (by omega))
    have hsz := hB.size
    have x2 := cells_of_box (HB.out.trans hB) 2 (.slice A n cap) rfl
    by_cases hlt : k < n
    · have hR3 := HR.out.below hwr
      obtain ⟨b, o, rfl, hbl, hc⟩ := hR3.at_ (by omega)
      have hcc := hc k hlt
      have HT := Lib.hid (take_flat ps k (by rw [HL.out]; exact hlt))
      have hll : (hd ++ (ps.take k).flatMap encP).length ≤ 100000 := by
        rw [List.length_append, hlH, flat_len, List.length_take]; omega
      clear hc hR3 hO3
      generalize (ps.take k).flatMap encP = L at hO HT hll
      generalize ps.getD k Pc.zero = p at hcc HT
      obtain ⟨p0, p1, p2, p3, p4, p5, p6, p7⟩ := p
      have y0 := hcc 0 _ rfl
      have y1 := hcc 1 _ rfl
      have y2 := hcc 2 _ rfl
      have y3 := hcc 3 _ rfl
      have y4 := hcc 4 _ rfl
      have y5 := hcc 5 _ rfl
      have y6 := hcc 6 _ rfl
      have y7 := hcc 7 _ rfl
      rw [Nat.add_zero] at y0
      clear hcc
      have hd1 : decide ((k : Int) < n) = true := by simp; omega
      have hd2 : decide (k < n) = true := by simp; omega
      have hki : (k : Int) < n := by omega
      have HO := Lib.hid hO
      have hOa := hO.below ((Below.refl wr.heap.size wr).alloc (Nat.le_refl _) (.cells #[.int .i64 p0, .int .i64 p1, .int .i64 p2, .int .i64 p3, .int .i64 p4, .int .i64 p5, .int .i64 p6, .bool p7] 48))
      obtain ⟨M, hM⟩ : ∃ M, hd ++ L = M := ⟨_, rfl⟩
      rw [hM] at hll hOa
      have HM := Lib.hid hM
      clear hM hO
      go_wp2_with (at_builtin; refine Go.wpList_append_own_at _ rfl _ _ 24 rfl (w.heap.size + 1) 5 i0 _ 1 1 Try.underlying24 hi hz0 hz1 hz2 rfl (by decide) _ _ _ rfl (hOa.alloc _) ⟨wr.heap.size + 1, 0, none⟩ 2 2 [.int .u8 (p0 % 256), .int .u8 (p1 % 256)] rfl rfl ?c1 ?c2 ?c3 ?c4 ?c5 ?_)
      try (case c1 => exact cells_new _ _ _ (by simp))
      case c2 => first | exact bv_one [p0 % 256, p1 % 256] | exact ⟨rfl, rfl⟩
      case c3 => first | omega | (unfold maxLen; omega)
      case c4 => omega
      case c5 => first | omega | (simp; omega)
      intro q1 z1 hown1 hgrow _ hat
      have G1 := Gr.step' (Gr.refl _ u3) _ hgrow hat (by simp)
      have hO2 : OB z1 (w.heap.size + 1) q1 (M ++ [p0 % 256, p1 % 256]) := OB_of_row (k := 2) rfl rfl hown1
      have hs3 : w.heap.size + 1 ≤ z1.heap.size := by
        have h0 := G1.size
        have h1 : (wr.alloc (.cells #[.int .i64 p0, .int .i64 p1, .int .i64 p2, .int .i64 p3, .int .i64 p4, .int .i64 p5, .int .i64 p6, .bool p7] 48)).heap.size = wr.heap.size + 1 := by simp
        omega
      clear hgrow hown1 hat hOa y0 y1 y2 y3 y4 y5 y6 y7 x2
      have y2 := G1.box HO.out (j := 2) rfl
      have GH := Lib.hid G1
      clear G1
      have u := u64_range p2
      go_wp2_with fail
      refine (put21G (w.heap.size + 1) _ _ (Ytbanlnacoidccaa.u64 p2) 2 _ u.1 u.2 (by omega) (by rw [List.length_append]; exact Nat.le_trans (Nat.add_le_add_right hll 2) (by decide)) hO2 hs3).mono ?_
      rintro en z2 ⟨q2, rfl, hO4, G2⟩
      have G02 := Lib.hid (GH.out.trans G2)
      have hs4 : w.heap.size + 1 ≤ z2.heap.size := Nat.le_trans hs3 G2.size
      clear GH G2 hO2 y2 hs3 u
      have y3 : z2.cell? ⟨wr.heap.size, 3, none⟩ = some (.int .i64 p3) := G02.out.box HO.out (j := 3) rfl
      have y4 : z2.cell? ⟨wr.heap.size, 4, none⟩ = some (.int .i64 p4) := G02.out.box HO.out (j := 4) rfl
      go_wp2_with fail
      obtain ⟨M2, hM2⟩ : ∃ M2, M ++ [p0 % 256, p1 % 256] ++ be (Ytbanlnacoidccaa.u64 p2) 2 = M2 := ⟨_, rfl⟩
      rw [hM2] at hO4
      have hl2 : M2.length ≤ 100004 := by
        rw [← hM2, List.length_append, be_len, List.length_append]
        have : [p0 % 256, p1 % 256].length = 2 := rfl
        omega
      have HM2 := Lib.hid hM2
      clear hM2
      have HQ := Lib.hid hO4
      have r3 := u64_range p3
      have r4 := u64_range p4
      have hlt2 : wr.heap.size < z2.heap.size := by
        have h0 := G02.out.size
        have h1 : (wr.alloc (.cells #[.int .i64 p0, .int .i64 p1, .int .i64 p2, .int .i64 p3, .int .i64 p4, .int .i64 p5, .int .i64 p6, .bool p7] 48)).heap.size = wr.heap.size + 1 := by simp
        omega
      have hne2 : q2.ownBlock ≠ some wr.heap.size := G02.out.notown (by simp) (HO.out.lt (Nat.le_refl _))
      have HN2 := Lib.hid hne2
      clear hne2
      have he3 : (M2 ++ be (Ytbanlnacoidccaa.u64 p3) 8).length ≤ 100012 := by rw [List.length_append, be_len]; omega
      go_region_held3 (fun w' => w'.cell? ⟨wr.heap.size, 3, none⟩ = some (.int .i64 p3) ∧ w'.cell? ⟨wr.heap.size, 4, none⟩ = some (.int .i64 p4))
        (first | assumption | go_keep)
        (first
          | (go_at_call 21; refine (put21G (w.heap.size + 1) q3 _ (Ytbanlnacoidccaa.u64 p4) 8 _ r4.1 r4.2 (by omega) (Nat.le_trans he3 (by omega)) (show OB _ _ _ _ from hO5) (show w.heap.size + 1 ≤ _ from hs5)).mono ?_; rintro e w6 ⟨q4, rfl, hO6, G4⟩; have yb3 := (G4.cell (p := ⟨wr.heap.size, 3, none⟩) hlt3 HN3.out).trans ya3; have yb4 := (G4.cell (p := ⟨wr.heap.size, 4, none⟩) hlt3 HN3.out).trans ya4)
          | (go_at_call 21; refine (put21G (w.heap.size + 1) q2 _ (Ytbanlnacoidccaa.u64 p3) 8 _ r3.1 r3.2 (by omega) (Nat.le_trans hl2 (by omega)) (show OB z2.drew _ _ _ from HQ.out) (show w.heap.size + 1 ≤ z2.drew.heap.size from hs4)).mono ?_; rintro e w5 ⟨q3, rfl, hO5, G3⟩; have ya3 := (G3.cell (p := ⟨wr.heap.size, 3, none⟩) hlt2 HN2.out).trans y3; have ya4 := (G3.cell (p := ⟨wr.heap.size, 4, none⟩) hlt2 HN2.out).trans y4; have hlt3 := Nat.lt_of_lt_of_le hlt2 G3.size; have HN3 := Lib.hid (G3.notown hlt2 HN2.out); have hs5 := Nat.le_trans hs4 G3.size))
      have G06 := Lib.hid (G02.out.trans ((⟨G3.os, G3.tape, G3.output, G3.size, G3.block, G3.own⟩ : Gr z2 q2 w5 q3).trans G4))
      have y5 := G06.out.box HO.out (j := 5) (u := .int .i64 p5) rfl
      have y6 := G06.out.box HO.out (j := 6) (u := .int .i64 p6) rfl
      have hs6 := Nat.le_trans hs5 G4.size
      have hlt6 := Nat.lt_of_lt_of_le hlt3 G4.size
      have HN6 := Lib.hid (G4.notown hlt3 HN3.out)
      obtain ⟨M4, hM4⟩ : ∃ M4, M2 ++ be (Ytbanlnacoidccaa.u64 p3) 8 ++ be (Ytbanlnacoidccaa.u64 p4) 8 = M4 := ⟨_, rfl⟩
      rw [hM4] at hO6
      have hl4 : M4.length ≤ 100020 := by
        rw [← hM4, List.length_append, be_len]
        omega
      have HM4 := Lib.hid hM4
      have HQ6 := Lib.hid hO6
      clear hM4 G3 G4 hO5 hO6 ya3 ya4 yb3 yb4 y3 y4 hlt3 HN3 hs5 he3 r3 r4
      have r5 := u64_range p5
      have r6 := u64_range p6
      have he5 : (M4 ++ be (Ytbanlnacoidccaa.u64 p5) 8).length ≤ 100028 := by rw [List.length_append, be_len]; omega
      go_wp2_with fail
      go_region_held3 (fun w' => w'.cell? ⟨wr.heap.size, 5, none⟩ = some (.int .i64 p5) ∧ w'.cell? ⟨wr.heap.size, 6, none⟩ = some (.int .i64 p6))
        (first | assumption | go_keep)
        (first
          | (go_at_call 21; refine (put21G (w.heap.size + 1) q5 _ (Ytbanlnacoidccaa.u64 p6) 8 _ r6.1 r6.2 (by omega) (Nat.le_trans he5 (by omega)) (show OB _ _ _ _ from hO7) (show w.heap.size + 1 ≤ _ from hs7)).mono ?_; rintro e w8 ⟨q6, rfl, hO8, G8⟩; have yb5 := (G8.cell (p := ⟨wr.heap.size, 5, none⟩) hlt7 HN7.out).trans ya5; have yb6 := (G8.cell (p := ⟨wr.heap.size, 6, none⟩) hlt7 HN7.out).trans ya6)
          | (go_at_call 21; refine (put21G (w.heap.size + 1) q4 _ (Ytbanlnacoidccaa.u64 p5) 8 _ r5.1 r5.2 (by omega) (Nat.le_trans hl4 (by omega)) (show OB w6.drew _ _ _ from HQ6.out) (show w.heap.size + 1 ≤ w6.drew.heap.size from hs6)).mono ?_; rintro e w7 ⟨q5, rfl, hO7, G7⟩; have ya5 := (G7.cell (p := ⟨wr.heap.size, 5, none⟩) hlt6 HN6.out).trans y5; have ya6 := (G7.cell (p := ⟨wr.heap.size, 6, none⟩) hlt6 HN6.out).trans y6; have hlt7 := Nat.lt_of_lt_of_le hlt6 G7.size; have HN7 := Lib.hid (G7.notown hlt6 HN6.out); have hs7 := Nat.le_trans hs6 G7.size))
      have G08 := Lib.hid (G06.out.trans ((⟨G7.os, G7.tape, G7.output, G7.size, G7.block, G7.own⟩ : Gr w6 q4 w7 q5).trans G8))
      have y7 := G08.out.box HO.out (j := 7) (u := .bool p7) rfl
      have hs8 := Nat.le_trans hs7 G8.size
      obtain ⟨M6, hM6⟩ : ∃ M6, M4 ++ be (Ytbanlnacoidccaa.u64 p5) 8 ++ be (Ytbanlnacoidccaa.u64 p6) 8 = M6 := ⟨_, rfl⟩
      rw [hM6] at hO8
      have hl6 : M6.length ≤ 100036 := by
        rw [← hM6, List.length_append, be_len]
        omega
      have HM6 := Lib.hid hM6
      have HQ8 := Lib.hid hO8
      clear hM6 G7 G8 hO7 hO8 ya5 ya6 yb5 yb6 y5 y6 hlt7 HN7 hs7 he5 r5 r6
      cases p7
      · go_wp2_with (at_builtin; refine Go.wpList_append_own_at _ rfl _ _ 24 rfl (w.heap.size + 1) 5 i0 _ 1 1 Try.underlying24 hi hz0 hz1 hz2 rfl (by decide) _ _ _ rfl (HQ8.out.alloc _) ⟨w8.heap.size, 0, none⟩ 1 1 [.int .u8 0] rfl rfl ?e1 ?e2 ?e3 ?e4 ?e5 ?_)
        try (case e1 => exact cells_new _ _ _ rfl)
        case e2 => first | exact bv_one [0] | rfl | simp [Value.oneCell']
        case e3 => first | omega | (unfold maxLen; omega)
        case e4 => omega
        case e5 => first | omega | (simp; omega)
        intro q9 w9 hown9 hgrow _ hat
        have G9 := Gr.step' G08.out _ hgrow hat (by simp)
        have hO9 : OB w9 (w.heap.size + 1) q9 (M6 ++ [0]) := OB_of_row (k := 1) rfl rfl hown9
        have hB9 : Below (w.heap.size + 1) w2 w9 := hB.trans ((Gr.of_alloc G9).below HO.out (by omega))
        clear hgrow hown9 hat G9
        go_wp2_with fail
        go_roundw
        case rel => exact ⟨k + 1, by omega, by go_num, by
          rw [← HT.out]
          have e1 := HM6.out
          have e2 := HM4.out
          have e3 := HM2.out
          have e4 := HM.out
          subst e1 e2 e3 e4
          simpa [encP, List.append_assoc] using hO9, hB9⟩
        case measure => simp [intOf]; omega
      · go_wp2_with (at_builtin; refine Go.wpList_append_own_at _ rfl _ _ 24 rfl (w.heap.size + 1) 5 i0 _ 1 1 Try.underlying24 hi hz0 hz1 hz2 rfl (by decide) _ _ _ rfl (HQ8.out.alloc _) ⟨w8.heap.size, 0, none⟩ 1 1 [.int .u8 1] rfl rfl ?f1 ?f2 ?f3 ?f4 ?f5 ?_)
        try (case f1 => exact cells_new _ _ _ rfl)
        case f2 => first | exact bv_one [1] | rfl | simp [Value.oneCell']
        case f3 => first | omega | (unfold maxLen; omega)
        case f4 => omega
        case f5 => first | omega | (simp; omega)
        intro q9 w9 hown9 hgrow _ hat
        have G9 := Gr.step' G08.out _ hgrow hat (by simp)
        have hO9 : OB w9 (w.heap.size + 1) q9 (M6 ++ [1]) := OB_of_row (k := 1) rfl rfl hown9
        have hB9 : Below (w.heap.size + 1) w2 w9 := hB.trans ((Gr.of_alloc G9).below HO.out (by omega))
        clear hgrow hown9 hat G9
        go_wp2_with fail
        go_roundw
        case rel => exact ⟨k + 1, by omega, by go_num, by
          rw [← HT.out]
          have e1 := HM6.out
          have e2 := HM4.out
          have e3 := HM2.out
          have e4 := HM.out
          subst e1 e2 e3 e4
          simpa [encP, List.append_assoc] using hO9, hB9⟩
        case measure => simp [intOf]; omega
    · have hkn : k = n := by omega
      have hd1 : decide ((k : Int) < n) = false := by simp; omega
      have hd2 : decide (k < n) = false := by simp; omega
      have hki : (n : Int) ≤ k := by omega
      have HK := Lib.hid hkn
      clear hkn hO3
      go_wp2_with fail
      go_returns
      refine ⟨u3, rfl, ?_, hwr⟩
      have e : ps.take k = ps := by rw [HK.out, ← HL.out, List.take_length]
      rw [e] at hO
      have := hO.mono (Nat.le_succ w.heap.size)
      unfold encR
      rw [HL.out, HD.out]
      exact this
end Go.Proofs.Ytbanlnacoidccaa
