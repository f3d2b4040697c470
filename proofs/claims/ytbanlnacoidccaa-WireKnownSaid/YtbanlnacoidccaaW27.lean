/- Bytes by hand. -/
import Derived.Test.YtbanlnacoidccaaO4
namespace Go.Proofs.Ytbanlnacoidccaa
open Go.RowKit
set_option linter.unusedSimpArgs false
set_option linter.unusedVariables false

/-- The cells of the nine that are none. -/
def nine : List Int := [0, 0, 0, 0, 9, 0, 0, 0, 8, 1, 0, 0, 3, 1, 1, 0, 7, 1, 1, 1, 1, -1, 1, 1, 1, 65536, 1, 1, 1, 1, -1, 1, 1, 1, 1, 4294967296]
theorem nine_bad (k : Nat) (hk : k < 9) : ∃ op id e p : Int, nine[k * 4]? = some op ∧ nine[k * 4 + 1]? = some id ∧ nine[k * 4 + 2]? = some e ∧ nine[k * 4 + 3]? = some p ∧ valid op id e p = false := by
  have hc : k = 0 ∨ k = 1 ∨ k = 2 ∨ k = 3 ∨ k = 4 ∨ k = 5 ∨ k = 6 ∨ k = 7 ∨ k = 8 := by omega
  rcases hc with rfl | rfl | rfl | rfl | rfl | rfl | rfl | rfl | rfl
  all_goals exact ⟨_, _, _, _, rfl, rfl, rfl, rfl, by rfl⟩

theorem rw_new (w : World) (ps : List Pc) (n : Nat) (t : TypeId) (hn : ps.length = n) (hm : n ≤ 9223372036854775807) : Rw (w.alloc (.cells (ps.flatMap Pc.cells).toArray t)) (some ⟨w.heap.size, 0, none⟩) n n ps := by
  subst hn
  refine ⟨rfl, Nat.le_refl _, hm, fun h0 => ⟨_, _, rfl, by simp, fun k hk j u hu => ?_⟩⟩
  have hj : j < 8 := by
    rcases Nat.lt_or_ge j 8 with h' | h'
    · exact h'
    · rw [List.getElem?_eq_none (by simpa [Pc.cells] using h')] at hu; cases hu
  rw [Nat.zero_add, cell_alloc_new, List.getElem?_toArray, flat_cell ps k j hk hj, hu]

/-- The bytes of a reply with one piece. -/
def two : List Int := encR 0 0 [⟨1, 0, 0, 0, 1, 1, 1, false⟩]
theorem two_len : two.length = 44 := by rfl
theorem two_all : AllB two := allB_encR _ _ _
theorem OB.block_at {w : World} {base : Nat} {v : Value} {xs : List Int} (h : OB w base v xs) (ha : AllB xs) (h0 : 0 < xs.length) : ∃ g cap, v = .slice (some ⟨g, 0, none⟩) xs.length cap ∧ base ≤ g ∧ g < w.heap.size ∧ xs.length ≤ cap ∧ cap ≤ 9223372036854775807 ∧ Bytes w g 0 xs ∧ ∀ j, j < xs.length → w.frozen? ⟨g, j, none⟩ = false := by
  obtain ⟨A, cap, e, hS⟩ := h.sl ha
  rcases h.2 with ⟨e', hl⟩ | ⟨g, cap', cur, e', hg, hh, hn, hc, hsz, htk⟩
  · omega
  · rw [e'] at e
    injection e with e1 e2 e3
    subst e1 e3
    obtain ⟨b, o, e4, hlt, hB⟩ := hS.at_ h0
    cases e4
    refine ⟨g, cap', e', hg, hlt, hn, hS.top, hB, fun j hj => ?_⟩
    unfold World.frozen?
    simp [hh]
theorem Bytes.set_at {w : World} {g o : Nat} {xs : List Int} (h : Bytes w g o xs) (i : Nat) (x : Int) (hi : i < xs.length) (hx : 0 ≤ x ∧ x ≤ 255) : Bytes (w.setCell ⟨g, o + i, none⟩ (.int .u8 x)) g o (xs.set i x) := by
  intro j hj
  rw [List.length_set] at hj
  by_cases e : j = i
  · subst e
    have : (xs.set j x).getD j 0 = x := by simp [List.getD_eq_getElem?_getD, hi]
    rw [this]
    exact ⟨World.cell?_setCell_same _ _ _ (h j hj).1, hx⟩
  · have : (xs.set i x).getD j 0 = xs.getD j 0 := by
      simp only [List.getD_eq_getElem?_getD]
      rw [List.getElem?_set_ne (fun h => e h.symm)]
    rw [this]
    exact ⟨(World.cell?_setCell_other _ _ _ _ (by intro h; injection h with _ h _; omega)).trans (h j hj).1, (h j hj).2⟩

set_option maxRecDepth 100000 in
set_option maxHeartbeats 12800000 in
theorem known_law (w : World) : Calls Try.prog 8 #[] w fun e w' => e = .returned (.bool true) ∧ Below w.heap.size w w' := by
  have hE := eqC
  go_enter Try.func8, Try.ntmps8
  go_wp2_with fail
  refine (awake_any _).mono ?_
  rintro en w1 ⟨rfl, hb1⟩
  go_upto_region 4 with fail
  have hb2 := hb1.alloc hb1.size (.cells (nine.map (Value.int .i64)).toArray 23)
  have hN : Hid (∀ j u, (nine.map (Value.int .i64))[j]? = some u → (w1.alloc (.cells (nine.map (Value.int .i64)).toArray 23)).cell? ⟨w1.heap.size, j, none⟩ = some u) := fun j u h => by
    rw [cell_alloc_new]; simpa using h
  have hz2 : (w1.alloc (.cells (nine.map (Value.int .i64)).toArray 23)).heap.size = w1.heap.size + 1 := by simp
  change Code.wp _ _ _ _ (w1.alloc (.cells (nine.map (Value.int .i64)).toArray 23))
  obtain ⟨B, hB⟩ : ∃ B, w1.heap.size = B := ⟨_, rfl⟩
  have hwB : w.heap.size ≤ B := by have := hb1.size; omega
  rw [hB] at hN hz2 ⊢
  generalize w1.alloc (.cells (nine.map (Value.int .i64)).toArray 23) = w2 at hb2 hN hz2 ⊢
  have HB2 := Lib.hid hb2
  clear hb1 hb2 hB
  go_wp2_with fail
  go_loopw [2] (fun i wr => ∃ k : Nat, k ≤ 9 ∧ i = .int .i64 k ∧ Below w2.heap.size w2 wr) (fun i _ => 9 - (intOf i).toNat)
  case atStart => exact ⟨0, by omega, rfl, Below.refl _ _⟩
  case round =>
    obtain ⟨k, hk, rfl, hb⟩ := hrel
    by_cases hlt : k < 9
    · have hd1 : decide ((k : Int) < 9) = true := by simp; omega
      have hki : (k : Int) < 9 := by omega
      have hd2 : decide (k < 9) = true := by simp; omega
      obtain ⟨op, id, e, p, h0, h1, h2, h3, hv⟩ := nine_bad k hlt
      have HV := Lib.hid hv
      have y0 := (hb.cell (p := ⟨B, k * 4, none⟩) (show B < w2.heap.size by omega)).trans (hN.out (k * 4) (.int .i64 op) (by rw [List.getElem?_map, h0]; rfl))
      have y1 := (hb.cell (p := ⟨B, k * 4 + 1, none⟩) (show B < w2.heap.size by omega)).trans (hN.out (k * 4 + 1) (.int .i64 id) (by rw [List.getElem?_map, h1]; rfl))
      have y2 := (hb.cell (p := ⟨B, k * 4 + 2, none⟩) (show B < w2.heap.size by omega)).trans (hN.out (k * 4 + 2) (.int .i64 e) (by rw [List.getElem?_map, h2]; rfl))
      have y3 := (hb.cell (p := ⟨B, k * 4 + 3, none⟩) (show B < w2.heap.size by omega)).trans (hN.out (k * 4 + 3) (.int .i64 p) (by rw [List.getElem?_map, h3]; rfl))
      clear h0 h1 h2 h3 hv
      go_wp2_with fail
      refine (bytes_no op id e p _ HV.out).mono ?_
      rintro en w3 ⟨v, rfl, hO, hb3⟩
      have HB3 := Lib.hid (hb.trans (hb3.mono hb.size))
      clear hb3 hO y0 y1 y2 y3
      go_wp2_with fail
      go_roundw
      case rel => exact ⟨k + 1, by omega, by go_num, HB3.out⟩
      case measure => simp [intOf]; omega
    · have hkn : k = 9 := by omega
      subst hkn
      have HB9 := Lib.hid (HB2.out.trans (hb.mono (by omega)))
      clear hb
      have L1 : Hid (AllB [7, 1, 2, 255, 255, 255, 255]) := Lib.hid (by unfold AllB; decide)
      have L2 : Hid (AllB [1, 0, 1, 0, 0, 0, 1, 0, 0, 0]) := Lib.hid (by unfold AllB; decide)
      have L3 : Hid (AllB [3, 1, 2, 8]) := Lib.hid (by unfold AllB; decide)
      have L4 : Hid (AllB [8, 0, 0, 1, 2, 0, 0]) := Lib.hid (by unfold AllB; decide)
      go_wp2_with fail
      refine (bytes_e 7 258 4294967295 0 [7, 1, 2, 255, 255, 255, 255] _ (by rfl) (by rfl)).mono ?_
      rintro en w4 ⟨v, rfl, hO, hb4⟩
      obtain ⟨A, cap, rfl, hS⟩ := hO.sl L1.out
      have HS4 := Lib.hid hS
      have HB4 := Lib.hid (HB9.out.trans (hb4.mono HB9.out.size))
      have e7 : [(7 : Int), 1, 2, 255, 255, 255, 255].length = 7 := rfl
      rw [e7] at HS4 ⊢
      clear hb4 hO hS e7
      go_wp2_with fail
      refine (read_empty none 0 w4).mono ?_
      rintro en w5 ⟨rfl, hb5⟩
      have hb6 := hb5.alloc hb5.size (.cells #[.int .i64 0, .int .i64 0, .int .i64 0, .int .i64 0] 23)
      have HS6 := Lib.hid (HS4.out.below hb6)
      have HB6 := Lib.hid (HB4.out.trans (hb6.mono HB4.out.size))
      clear hb5 hb6 HS4 HB4
      go_upto_region 12 with fail
      generalize w5.alloc (.cells #[.int .i64 0, .int .i64 0, .int .i64 0, .int .i64 0] 23) = w6 at HS6 HB6 ⊢
      go_wp2_with fail
      refine (read_no (Sl_new w6 [1, 0, 1, 0, 0, 0, 1, 0, 0, 0] 10 _ _ rfl rfl rfl (by omega) L2.out) (by rfl)).mono ?_
      rintro en w7 ⟨rfl, hb7⟩
      have hb8 := (((Below.refl w6.heap.size w6).alloc (Nat.le_refl _) (.cells (bv [1, 0, 1, 0, 0, 0, 1, 0, 0, 0]).toArray 5)).trans (hb7.mono (by simp))).alloc (by have := hb7.size; simp at this; omega) (.cells #[.int .i64 0, .int .i64 0, .int .i64 0, .int .i64 0] 23)
      have HS8 := Lib.hid (HS6.out.below hb8)
      have HB8 := Lib.hid (HB6.out.trans (hb8.mono HB6.out.size))
      clear hb7 hb8 HS6 HB6
      go_upto_region 13 with fail
      generalize w7.alloc (.cells #[.int .i64 0, .int .i64 0, .int .i64 0, .int .i64 0] 23) = w8 at HS8 HB8 ⊢
      go_wp2_with fail
      refine (read_e 3 258 0 0 3 (Sl_new w8 [3, 1, 2, 8] 4 _ _ rfl rfl rfl (by omega) L3.out) (by rfl) (by rfl) (by rfl) (by rfl) (by rfl) (by rfl)).mono ?_
      rintro en w9 ⟨rfl, hb9⟩
      have hb10 := (((Below.refl w8.heap.size w8).alloc (Nat.le_refl _) (.cells (bv [3, 1, 2, 8]).toArray 5)).trans (hb9.mono (by simp))).alloc (by have := hb9.size; simp at this; omega) (.cells #[.int .i64 3, .int .i64 258, .int .i64 0, .int .i64 0] 23)
      have HS10 := Lib.hid (HS8.out.below hb10)
      have HB10 := Lib.hid (HB8.out.trans (hb10.mono HB8.out.size))
      obtain ⟨T, hT⟩ : ∃ T, w9.heap.size = T := ⟨_, rfl⟩
      have t0 := cell_alloc_new w9 #[.int .i64 3, .int .i64 258, .int .i64 0, .int .i64 0] 23 0
      have t1 := cell_alloc_new w9 #[.int .i64 3, .int .i64 258, .int .i64 0, .int .i64 0] 23 1
      have t2 := cell_alloc_new w9 #[.int .i64 3, .int .i64 258, .int .i64 0, .int .i64 0] 23 2
      have t3 := cell_alloc_new w9 #[.int .i64 3, .int .i64 258, .int .i64 0, .int .i64 0] 23 3
      have hz10 : (w9.alloc (.cells #[.int .i64 3, .int .i64 258, .int .i64 0, .int .i64 0] 23)).heap.size = T + 1 := by simp [hT]
      rw [hT] at t0 t1 t2 t3
      clear hb9 hb10 HS8 HB8
      go_upto_region 14 with fail
      try rw [hT]
      generalize w9.alloc (.cells #[.int .i64 3, .int .i64 258, .int .i64 0, .int .i64 0] 23) = w10 at HS10 HB10 t0 t1 t2 t3 hz10 ⊢
      have HC10 := Lib.hid (And.intro t0 (And.intro t1 (And.intro t2 t3)))
      clear t0 t1 t2 t3 hT
      go_wp2_with fail
      refine (reply14 8 258 none 0 0 [] w10 ⟨rfl, Nat.le_refl _, by omega, fun h => by omega⟩ (by omega)).mono ?_
      rintro en w11 ⟨v, rfl, hO, hb11⟩
      have er : encR 8 258 [] = [8, 0, 0, 1, 2, 0, 0] := by rfl
      rw [er] at hO
      obtain ⟨A2, cap2, rfl, hS2⟩ := hO.sl L4.out
      have e8 : [(8 : Int), 0, 0, 1, 2, 0, 0].length = 7 := rfl
      rw [e8] at hS2 ⊢
      have HS11 := Lib.hid (HS10.out.below hb11)
      have HT11 := Lib.hid hS2
      have HB11 := Lib.hid (HB10.out.trans (hb11.mono HB10.out.size))
      have HC11 := Lib.hid (show w11.cell? ⟨T, 0, none⟩ = some (.int .i64 3) ∧ w11.cell? ⟨T, 1, none⟩ = some (.int .i64 258) ∧ w11.cell? ⟨T, 2, none⟩ = some (.int .i64 0) ∧ w11.cell? ⟨T, 3, none⟩ = some (.int .i64 0) from
        ⟨(hb11.cell (p := ⟨T, 0, none⟩) (show T < w10.heap.size by omega)).trans HC10.out.1, (hb11.cell (p := ⟨T, 1, none⟩) (show T < w10.heap.size by omega)).trans HC10.out.2.1, (hb11.cell (p := ⟨T, 2, none⟩) (show T < w10.heap.size by omega)).trans HC10.out.2.2.1, (hb11.cell (p := ⟨T, 3, none⟩) (show T < w10.heap.size by omega)).trans HC10.out.2.2.2⟩)
      have hlt11 : T < w11.heap.size := by have := hb11.size; omega
      clear hb11 hO hS2 er e8 HS10 HB10 HC10 hz10
      go_wp2_with fail
      refine (parse_tiny _ 6 6 _ (by omega)).mono ?_
      rintro en w12 ⟨rfl, hb12⟩
      have hb13 := (((Below.refl w11.heap.size w11).alloc (Nat.le_refl _) (.cells #[.int .u8 0, .int .u8 0, .int .u8 0, .int .u8 0, .int .u8 0, .int .u8 0] 5)).trans (hb12.mono (by simp))).alloc (by have := hb12.size; simp at this; omega) (.cells #[.int .i64 0, .int .i64 0, .slice none 0 0] 40)
      go_upto_region 16 with fail
      generalize w12.alloc (.cells #[.int .i64 0, .int .i64 0, .slice none 0 0] 40) = w13 at hb13 ⊢
      have HB13 := Lib.hid hb13
      clear hb12 hb13
      go_wp2_with fail
      have hR := rw_new w13 [⟨1, 0, 0, 0, 1, 1, 1, false⟩] 1 48 rfl (by omega)
      refine (reply14 0 0 _ 1 1 [⟨1, 0, 0, 0, 1, 1, 1, false⟩] _ hR (by omega)).mono ?_
      rintro en w14 ⟨v, rfl, hO, hb14⟩
      have hb15 := ((Below.refl w13.heap.size w13).alloc (Nat.le_refl _) (.cells ([(⟨1, 0, 0, 0, 1, 1, 1, false⟩ : Pc)].flatMap Pc.cells).toArray 48)).trans (hb14.mono (by simp))
      obtain ⟨g, c2, rfl, hg, hgl, hgc, hgm, hgB, hgf⟩ := (show OB _ _ _ two from hO).block_at two_all (by rw [two_len]; omega)
      rw [two_len] at hgc ⊢
      have hlast := (hgB 43 (by rw [two_len]; omega)).1
      rw [Nat.zero_add] at hlast
      have hfz := hgf 43 (by rw [two_len]; omega)
      have HB14 := Lib.hid (hb15.trans (Below.refl w14.heap.size w14 |>.mono (by have := hb15.size; omega)))
      have hgw : w13.heap.size < g := by have h1 := hg; simp at h1; omega
      have HGB := Lib.hid hgB
      clear hgB hgf hO hb14 hb15 hR
      go_wp2_with fail
      have HGS := Lib.hid (HGB.out.set_at 43 2 (by rw [two_len]; omega) (by omega))
      have hbs : Below w13.heap.size w13 (w14.setCell ⟨g, 43, none⟩ (.int .u8 2)) := HB14.out.setCell (by simp; omega) _
      have HBS := Lib.hid hbs
      clear hbs
      refine (parse_bad g 0 44 c2 1 (two.set 43 2) _ (by omega) (by rw [List.length_set, two_len]) (by omega) (by omega) HGS (by rfl) (by omega) (by omega) (by decide)).mono ?_
      rintro en w16 ⟨rfl, hb16⟩
      have hb17 := HBS.out.trans ((hb16.alloc hb16.size (.cells #[.int .i64 0, .int .i64 0, .slice none 0 0] 40)).mono HBS.out.size)
      have hb18 := HB13.out.trans (hb17.mono HB13.out.size)
      go_upto_region 19 with fail
      generalize w16.alloc (.cells #[.int .i64 0, .int .i64 0, .slice none 0 0] 40) = w17 at hb17 hb18 ⊢
      have cA := conv_e (S := ⟨#[7, 1, 2, 255, 255, 255, 255]⟩) (HS11.out.below hb18) (by rfl)
      have cB := conv_e (S := ⟨#[8, 0, 0, 1, 2, 0, 0]⟩) (HT11.out.below hb18) (by rfl)
      have y0 := (hb18.cell (p := ⟨T, 0, none⟩) hlt11).trans HC11.out.1
      have y1 := (hb18.cell (p := ⟨T, 1, none⟩) hlt11).trans HC11.out.2.1
      have y2 := (hb18.cell (p := ⟨T, 2, none⟩) hlt11).trans HC11.out.2.2.1
      have y3 := (hb18.cell (p := ⟨T, 3, none⟩) hlt11).trans HC11.out.2.2.2
      have HBZ := Lib.hid (HB11.out.trans (hb18.mono HB11.out.size))
      clear hb16 hb17 hb18
      go_wp2_with fail
      go_returns
      exact ⟨rfl, HBZ.out⟩
end Go.Proofs.Ytbanlnacoidccaa
