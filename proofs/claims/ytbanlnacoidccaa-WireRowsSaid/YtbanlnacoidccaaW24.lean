/- A reply out of its bytes: a piece that is none; bytes that end too soon. -/
import Derived.Test.YtbanlnacoidccaaW23
namespace Go.Proofs.Ytbanlnacoidccaa
open Go.RowKit
set_option linter.unusedSimpArgs false
set_option linter.unusedVariables false
attribute [local go_sem ↓] Go.wp_at_zero Go.wp_at_succ

theorem parse_cut {w : World} {A : Option Addr} {len cap : Nat} {err clock : Int} {ps : List Pc} (hn : ps.length < 65536) (h : Sl w A len cap ((encR err clock ps).take len)) (hlt : len < (encR err clock ps).length) :
    Calls Try.prog 16 #[.slice A len cap] w (NoReply w) := by
  by_cases h7 : len < 7
  · exact parse_tiny A len cap w h7
  · obtain ⟨b, o, rfl, hb, hB⟩ := h.at_ (by omega)
    refine parse_short b o len cap _ w (by omega) h.long h.room h.top (Lib.hid hB) ?_
    obtain ⟨_, _, e⟩ := enc_head err clock ps hn _ (enc_take err clock ps len (by omega))
    rw [e]
    rw [encR_len] at hlt
    omega

theorem parse_enc {w : World} {A : Option Addr} {n cap : Nat} {err clock : Int} {ps : List Pc} {more : List Int} (hn : ps.length < 65536) (hok : ∀ k, k < ps.length → (ps.getD k Pc.zero).ok) (h : Sl w A n cap (encR err clock ps ++ more)) :
    Calls Try.prog 16 #[.slice A n cap] w (AReply (err % 256) (u64 clock % 4294967296) (trimR ps) (7 + ps.length * 37) w) := by
  have hl := h.long
  rw [List.length_append, encR_len] at hl
  obtain ⟨b, o, rfl, hb, hB⟩ := h.at_ (by omega)
  obtain ⟨e1, e2, e3⟩ := enc_head err clock ps hn (encR err clock ps ++ more) ⟨ps.flatMap encP ++ more, by unfold encR; rw [List.append_assoc]⟩
  have := parse_all b o n cap ps.length _ w (by omega) h.long h.room h.top (Lib.hid hB) e3 (by omega) (fun k hk => chunk_ok err clock ps more k hk)
  rw [e1, e2, prs_enc err clock ps more hok] at this
  exact this

set_option maxRecDepth 100000 in
set_option maxHeartbeats 12800000 in
theorem parse_bad (b o len cap N : Nat) (xs : List Int) (w : World) (h7 : 7 ≤ len) (hl : xs.length = len) (hcap : len ≤ cap) (hcm : cap ≤ 9223372036854775807) (hx : Hid (Bytes w b o xs)) (hN : hdMany xs = N) (hs : 7 + N * 37 ≤ len) (hN0 : 0 < N) (hok : ¬ (chunk xs 0).getD 36 0 ≤ 1) :
    Calls Try.prog 16 #[.slice (some ⟨b, o, none⟩) len cap] w (NoReply w) := by
  obtain ⟨i0, hi, hz0, hz1, hz2⟩ := info_parts info48
  have c0 := hx.out 0 (by omega)
  have hb : b < w.heap.size := hx.out.lt (by omega)
  have z0 := c0.1
  rw [Nat.add_zero] at z0
  have g0 := c0.2
  have HL := Lib.hid hl
  have q1 : (5 : Int) ≤ cap := by omega
  have q2 : (7 : Int) ≤ cap := by omega
  have q3 : (7 : Int) ≤ len := by omega
  have q4 : 5 ≤ cap := by omega
  have q5 : 7 ≤ cap := by omega
  have hd : decide ((len : Int) < 7) = false := by simp; omega
  have hd' : decide (len < 7) = false := by simp; omega
  have hs4 := hx.out.sub 1 4
  have hl4 : ((xs.drop 1).take 4).length = 4 := by rw [List.length_take, List.length_drop]; omega
  have hs2 := hx.out.sub 5 2
  have hl2 : ((xs.drop 5).take 2).length = 2 := by rw [List.length_take, List.length_drop]; omega
  have H4 := Lib.hid hs4
  have L4 := Lib.hid hl4
  have H2 := Lib.hid hs2
  have L2 := Lib.hid hl2
  have HOK := Lib.hid hok
  have HN : Hid (num ((xs.drop 5).take 2) = N) := hN
  unfold NoReply
  clear c0 hl hs4 hl4 hs2 hl2 hN hok
  generalize (xs.drop 1).take 4 = ys at H4 L4
  generalize (xs.drop 5).take 2 = zs at H2 L2 HN
  generalize xs.getD 0 0 = x0 at z0 g0
  have n4 := num_top ys 4 L4.out (by omega) (fun i hi => (H4.out i hi).2)
  have n2 := num_top zs 2 L2.out (by omega) (fun i hi => (H2.out i hi).2)
  have hN2 : N < 65536 := by have := HN.out; omega
  have hs' : decide ((len : Int) < 7 + (N : Int) * 37) = false := by simp; omega
  have hs'' : 7 + (N : Int) * 37 ≤ len := by omega
  have e0 : IntKind.i64.wrap x0 = x0 := IntWalk.i64_in _ (by omega)
  have e1 : IntKind.i64.wrap (num ys) = num ys := IntWalk.i64_in _ (by omega)
  have hc1 : ¬ cap = 1 := by omega
  have hl0 : (0 : Int) < len := by omega
  have hl0' : 0 < len := by omega
  clear n4 n2
  have ha1 := H4.out.al hb (.cells #[.int .i64 0, .int .i64 0, .slice none 0 0] 40)
  have ha2 := ha1.al (by simp; omega) (.cells #[.int .i64 0, .int .i64 0, .slice none 0 0] 40)
  have HXa := Lib.hid (show Bytes (w.alloc (.cells #[.int .i64 0, .int .i64 0, .slice none 0 0] 40)).drew b (o + 1) ys from ha1)
  have HXb := Lib.hid (show Bytes ((w.alloc (.cells #[.int .i64 0, .int .i64 0, .slice none 0 0] 40)).alloc (.cells #[.int .i64 0, .int .i64 0, .slice none 0 0] 40)).drew b (o + 1) ys from ha2)
  have z0a : (w.alloc (.cells #[.int .i64 0, .int .i64 0, .slice none 0 0] 40)).drew.cell? ⟨b, o, none⟩ = some (.int .u8 x0) := cell_up (w := w) hb z0
  have z0b : ∀ O : Obj, ((w.alloc (.cells #[.int .i64 0, .int .i64 0, .slice none 0 0] 40)).alloc O).drew.cell? ⟨b, o, none⟩ = some (.int .u8 x0) := fun O => cell_up (by simp; omega) z0a
  have HSS := Lib.hid z0b
  have H2a := Lib.hid (H2.out.al hb (.cells #[.int .i64 0, .int .i64 0, .slice none 0 0] 40))
  have H2b := Lib.hid (fun O : Obj => show Bytes ((w.alloc (.cells #[.int .i64 0, .int .i64 0, .slice none 0 0] 40)).alloc O).drew b (o + 5) zs from H2a.out.al (by simp; omega) O)
  have HW := Lib.hid (fun O : Obj => (((Below.refl w.heap.size w).alloc (Nat.le_refl _) (.cells #[.int .i64 0, .int .i64 0, .slice none 0 0] 40)).alloc (by simp) O).drew)
  clear ha1 ha2 z0a z0b
  go_enter Try.func16, Try.ntmps16
  go_wp2_with fail
  go_region_held3 (fun w' => w'.cell? ⟨b, o, none⟩ = some (.int .u8 x0))
    (first | assumption | exact HSS.out _ | go_keep)
    (first
      | (go_at_call 23; refine (number_n b (o + 1) _ 4 ys _ HXa.out L4.out (by omega) (by omega)).mono ?_; rintro e w5 ⟨rfl, rfl⟩)
      | (go_at_call 23; refine (number_n b (o + 1) _ 4 ys _ HXb.out L4.out (by omega) (by omega)).mono ?_; rintro e w5 ⟨rfl, rfl⟩))
  all_goals go_wp2_with fail
  all_goals
    refine (number_n b (o + 5) _ 2 zs _ (H2b.out _) L2.out (by omega) (by omega)).mono ?_
    rintro en w6 ⟨rfl, rfl⟩
    rw [HN.out]
    go_wp2_with fail
    obtain ⟨W0, hW0⟩ : ∃ W0, ((w.alloc (.cells #[.int .i64 0, .int .i64 0, .slice none 0 0] 40)).alloc (.cells #[.int .i64 x0, .int .i64 (num ys), .slice none 0 0] 40)).drew = W0 := ⟨_, rfl⟩
    have HRC : Hid (RC W0 (w.heap.size + 1) x0 (num ys) (.slice none 0 0)) := by
      subst hW0
      exact ⟨by simp, by simp, by simp, by simp, by simp⟩
    have hr0 : W0.cell? ⟨w.heap.size, 0, none⟩ = some (.int .i64 0) ∧ W0.cell? ⟨w.heap.size, 1, none⟩ = some (.int .i64 0) ∧ W0.cell? ⟨w.heap.size, 2, none⟩ = some (.slice none 0 0) ∧ W0.frozen? ⟨w.heap.size, 0, none⟩ = false ∧ W0.frozen? ⟨w.heap.size, 1, none⟩ = false ∧ W0.frozen? ⟨w.heap.size, 2, none⟩ = false := by
      subst hW0
      exact ⟨by simp, by simp, by simp, by simp, by simp, by simp⟩
    have HR0 := Lib.hid hr0
    have hz : W0.heap.size = w.heap.size + 2 := by subst hW0; simp
    have HWB : Hid (Below w.heap.size w W0) := by subst hW0; exact HW.out _
    rw [hW0]
    have HEQ := Lib.hid hW0
    clear hr0 hW0 HSS H2b HXa HXb H2a H4 H2
    go_loopw [8] (fun i wr => i = .int .i64 7 ∧ wr = W0) (fun i _ => 0)
    case atStart => exact ⟨rfl, rfl⟩
    case round =>
      obtain ⟨rfl, rfl⟩ := hrel
      have hd1 : decide ((7 : Int) < 7 + (N : Int) * 37) = true := by simp; omega
      have hai : (7 : Int) < 7 + (N : Int) * 37 := by omega
      have hca : ¬ cap = 7 := by omega
      have p1 : (7 : Int) + 37 ≤ cap := by omega
      have p2 : 7 + 37 ≤ cap := by omega
      have p3 : (44 : Int) ≤ cap := by omega
      have p4 : 44 ≤ cap := by omega
      have hcx : Hid (Bytes wr b (o + 7) (chunk xs 0)) := by
        have := (hx.out.sub 7 37).below HWB.out hb
        unfold chunk
        exact this
      have hcl : (chunk xs 0).length = 37 := by unfold chunk; rw [List.length_take, List.length_drop, HL.out]; omega
      have hbd : decide ((chunk xs 0).getD 36 0 ≤ 1) = false := by simpa using HOK.out
      have HCL := Lib.hid hcl
      have HBD := Lib.hid hbd
      obtain ⟨r0, r1, r2, r3, r4, r5⟩ := HR0.out
      clear hcl hbd
      go_wp2_with fail
      refine (unpiece25 b (o + 7) _ (chunk xs 0) _ HCL.out (by omega) (by omega) hcx).mono ?_
      rintro en w3 ⟨rfl, hb3⟩
      rw [HBD.out]
      generalize decP (chunk xs 0) = p
      obtain ⟨p0, p1, p2, p3, p4, p5, p6, p7⟩ := p
      unfold Pc.V
      have y0 := (hb3.cell (p := ⟨w.heap.size, 0, none⟩) (show w.heap.size < wr.heap.size by omega)).trans r0
      have y1 := (hb3.cell (p := ⟨w.heap.size, 1, none⟩) (show w.heap.size < wr.heap.size by omega)).trans r1
      have y2 := (hb3.cell (p := ⟨w.heap.size, 2, none⟩) (show w.heap.size < wr.heap.size by omega)).trans r2
      have y3 := (hb3.frozen (p := ⟨w.heap.size, 0, none⟩) (show w.heap.size < wr.heap.size by omega)).trans r3
      have y4 := (hb3.frozen (p := ⟨w.heap.size, 1, none⟩) (show w.heap.size < wr.heap.size by omega)).trans r4
      have y5 := (hb3.frozen (p := ⟨w.heap.size, 2, none⟩) (show w.heap.size < wr.heap.size by omega)).trans r5
      have hlt : w.heap.size < w3.heap.size := by have := hb3.size; omega
      have HB3 := Lib.hid (HWB.out.trans (hb3.mono (by omega)))
      clear r0 r1 r2 r3 r4 r5
      go_wp2_with fail
      have k0 : (w3.setCell ⟨w.heap.size, 0, none⟩ (.int .i64 0)).cell? ⟨w.heap.size, 0, none⟩ = some (.int .i64 0) := World.cell?_setCell_same _ _ _ y0
      have k1 : ((w3.setCell ⟨w.heap.size, 0, none⟩ (.int .i64 0)).setCell ⟨w.heap.size, 1, none⟩ (.int .i64 0)).cell? ⟨w.heap.size, 1, none⟩ = some (.int .i64 0) := World.cell?_setCell_same _ _ _ ((World.cell?_setCell_other _ _ _ _ (by simp)).trans y1)
      have k2 : (((w3.setCell ⟨w.heap.size, 0, none⟩ (.int .i64 0)).setCell ⟨w.heap.size, 1, none⟩ (.int .i64 0)).setCell ⟨w.heap.size, 2, none⟩ (.slice none 0 0)).cell? ⟨w.heap.size, 2, none⟩ = some (.slice none 0 0) := World.cell?_setCell_same _ _ _ ((World.cell?_setCell_other _ _ _ _ (by simp)).trans ((World.cell?_setCell_other _ _ _ _ (by simp)).trans y2))
      have hb1 : Below w.heap.size w (w3.setCell ⟨w.heap.size, 0, none⟩ (.int .i64 0)) := HB3.out.setCell (Nat.le_refl _) _
      have hb2 : Below w.heap.size w ((w3.setCell ⟨w.heap.size, 0, none⟩ (.int .i64 0)).setCell ⟨w.heap.size, 1, none⟩ (.int .i64 0)) := hb1.setCell (Nat.le_refl _) _
      have hb4 : Below w.heap.size w (((w3.setCell ⟨w.heap.size, 0, none⟩ (.int .i64 0)).setCell ⟨w.heap.size, 1, none⟩ (.int .i64 0)).setCell ⟨w.heap.size, 2, none⟩ (.slice none 0 0)) := hb2.setCell (Nat.le_refl _) _
      have hb5 := hb4.alloc hb4.size (.cells #[.int .i64 p0, .int .i64 p1, .int .i64 p2, .int .i64 p3, .int .i64 p4, .int .i64 p5, .int .i64 p6, .bool p7] 48)
      refine bodyPost_ret (v := .tuple #[.agg #[.int .i64 0, .int .i64 0, .slice none 0 0], .int .i64 0, .int .i64 1]) (by simp [results, Try.results16, go_sem, hlt, k0, k1, k2]) rfl ⟨rfl, hb5⟩
end Go.Proofs.Ytbanlnacoidccaa
