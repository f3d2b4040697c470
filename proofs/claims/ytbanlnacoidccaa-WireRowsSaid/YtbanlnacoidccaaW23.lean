/- A reply out of its bytes. -/
import Derived.Test.YtbanlnacoidccaaW22
namespace Go.Proofs.Ytbanlnacoidccaa
open Go.RowKit
set_option linter.unusedSimpArgs false
set_option linter.unusedVariables false
attribute [local go_sem ↓] Go.wp_at_zero Go.wp_at_succ

theorem info48 : (Try.prog.info? 48).map (fun i => (i.zero, i.size, i.bytes)) = some (some Pc.zero.V, 8, 64) := by kernel_rfl

/-- v is a slice of pieces of the call's own (in blocks from base on) that holds ps. -/
def OP (w : World) (base : Nat) (v : Value) (ps : List Pc) : Prop := w.ownsRow base 48 8 v ps.length (ps.flatMap Pc.cells)

/-- A reply that was read: its error, clock, pieces, and how long it is. -/
def AReply (err clock : Int) (ps : List Pc) (n : Nat) (w : World) (e : Ending) (w' : World) : Prop :=
  ∃ v, e = .returned (.tuple #[.agg #[.int .i64 err, .int .i64 clock, v], .int .i64 n, .int .i64 0]) ∧ OP w' w.heap.size v ps ∧ Below w.heap.size w w'

/-- The reply's cells: its error, its clock, its pieces. -/
structure RC (w : World) (B : Nat) (err clock : Int) (v : Value) : Prop where
  c0 : w.cell? ⟨B, 0, none⟩ = some (.int .i64 err)
  c1 : w.cell? ⟨B, 1, none⟩ = some (.int .i64 clock)
  c2 : w.cell? ⟨B, 2, none⟩ = some v
  f2 : w.frozen? ⟨B, 2, none⟩ = false
  lt : B < w.heap.size

theorem RC.below {w w' : World} {B B' : Nat} {err clock : Int} {v : Value} (h : RC w B err clock v) (hb : Below B' w w') (hB : B < B') : RC w' B err clock v :=
  ⟨(hb.cell (p := ⟨B, 0, none⟩) hB).trans h.c0, (hb.cell (p := ⟨B, 1, none⟩) hB).trans h.c1, (hb.cell (p := ⟨B, 2, none⟩) hB).trans h.c2, (hb.frozen (p := ⟨B, 2, none⟩) hB).trans h.f2, Nat.lt_of_lt_of_le h.lt hb.size⟩

theorem OP.form {w : World} {base : Nat} {v : Value} {ps : List Pc} (h : OP w base v ps) : ∃ A n c, v = .slice A n c := by
  rcases h.2 with ⟨e, _⟩ | ⟨g, cap, cur, e, _⟩
  · exact ⟨_, _, _, e⟩
  · exact ⟨_, _, _, e⟩
theorem OP.block {w : World} {base : Nat} {v : Value} {ps : List Pc} (h : OP w base v ps) {w' : World} (hb : ∀ g, base ≤ g → w'.heap[g]? = w.heap[g]?) : OP w' base v ps := by
  refine ⟨h.1, ?_⟩
  rcases h.2 with h' | ⟨g, cap, cur, e, hg, hh, r⟩
  · exact Or.inl h'
  · exact Or.inr ⟨g, cap, cur, e, hg, (hb g hg).trans hh, r⟩
theorem RC.set {w : World} {B : Nat} {err clock : Int} {v : Value} (h : RC w B err clock v) (v' : Value) : RC (w.setCell ⟨B, 2, none⟩ v') B err clock v' :=
  ⟨(World.cell?_setCell_other _ _ _ _ (by simp)).trans h.c0, (World.cell?_setCell_other _ _ _ _ (by simp)).trans h.c1, World.cell?_setCell_same _ _ _ h.c2, by rw [World.frozen?_setCell]; exact h.f2, by simp [World.setCell]; exact h.lt⟩

theorem OP.mono {w : World} {base base' : Nat} {v : Value} {ps : List Pc} (h : OP w base v ps) (hb : base' ≤ base) : OP w base' v ps := by
  refine ⟨h.1, ?_⟩
  rcases h.2 with h' | ⟨g, cap, cur, e, hg, r⟩
  · exact Or.inl h'
  · exact Or.inr ⟨g, cap, cur, e, by omega, r⟩
theorem OP.below {w w' : World} {base : Nat} {v : Value} {ps : List Pc} (h : OP w base v ps) (hb : Below w.heap.size w w') : OP w' base v ps := by
  refine ⟨h.1, ?_⟩
  rcases h.2 with h' | ⟨g, cap, cur, e, hg, hh, r⟩
  · exact Or.inl h'
  · exact Or.inr ⟨g, cap, cur, e, hg, (hb.block g (lt_of_block hh)).trans hh, r⟩

set_option maxRecDepth 100000 in
set_option maxHeartbeats 12800000 in
theorem parse_all (b o len cap N : Nat) (xs : List Int) (w : World) (h7 : 7 ≤ len) (hl : xs.length = len) (hcap : len ≤ cap) (hcm : cap ≤ 9223372036854775807) (hx : Hid (Bytes w b o xs)) (hN : hdMany xs = N) (hs : 7 + N * 37 ≤ len) (hok : ∀ k, k < N → (chunk xs k).getD 36 0 ≤ 1) :
    Calls Try.prog 16 #[.slice (some ⟨b, o, none⟩) len cap] w (AReply (hdErr xs) (hdClock xs) (prs xs N) (7 + N * 37) w) := by
  obtain ⟨i0, hi, hz0, hz1, hz2⟩ := info_parts info48
  have c0 := hx.out 0 (by omega)
  have hb : b < w.heap.size := hx.out.lt (by omega)
  have z0 := c0.1
  rw [Nat.add_zero] at z0
  have g0 := c0.2
  have HL := Lib.hid hl
  have q1 : (5 : Int) ≤ cap := by omega
  have q2 : (7 : Int) ≤ cap := by omega
  have q3 : (7 : Int) ≤ len := by omega
  have q4 : 5 ≤ cap := by omega
  have q5 : 7 ≤ cap := by omega
  have hd : decide ((len : Int) < 7) = false := by simp; omega
  have hd' : decide (len < 7) = false := by simp; omega
  have hs4 := hx.out.sub 1 4
  have hl4 : ((xs.drop 1).take 4).length = 4 := by rw [List.length_take, List.length_drop]; omega
  have hs2 := hx.out.sub 5 2
  have hl2 : ((xs.drop 5).take 2).length = 2 := by rw [List.length_take, List.length_drop]; omega
  have H4 := Lib.hid hs4
  have L4 := Lib.hid hl4
  have H2 := Lib.hid hs2
  have L2 := Lib.hid hl2
  have HOK := Lib.hid hok
  have HN : Hid (num ((xs.drop 5).take 2) = N) := hN
  unfold hdErr hdClock
  clear c0 hl hs4 hl4 hs2 hl2 hN hok
  generalize (xs.drop 1).take 4 = ys at H4 L4 ⊢
  generalize (xs.drop 5).take 2 = zs at H2 L2 HN
  generalize xs.getD 0 0 = x0 at z0 g0 ⊢
  have n4 := num_top ys 4 L4.out (by omega) (fun i hi => (H4.out i hi).2)
  have n2 := num_top zs 2 L2.out (by omega) (fun i hi => (H2.out i hi).2)
  have hN2 : N < 65536 := by have := HN.out; omega
  have hs' : decide ((len : Int) < 7 + (N : Int) * 37) = false := by simp; omega
  have hs'' : 7 + (N : Int) * 37 ≤ len := by omega
  have e0 : IntKind.i64.wrap x0 = x0 := IntWalk.i64_in _ (by omega)
  have e1 : IntKind.i64.wrap (num ys) = num ys := IntWalk.i64_in _ (by omega)
  have hc1 : ¬ cap = 1 := by omega
  have hl0 : (0 : Int) < len := by omega
  have hl0' : 0 < len := by omega
  clear n4 n2
  have ha1 := H4.out.al hb (.cells #[.int .i64 0, .int .i64 0, .slice none 0 0] 40)
  have ha2 := ha1.al (by simp; omega) (.cells #[.int .i64 0, .int .i64 0, .slice none 0 0] 40)
  have HXa := Lib.hid (show Bytes (w.alloc (.cells #[.int .i64 0, .int .i64 0, .slice none 0 0] 40)).drew b (o + 1) ys from ha1)
  have HXb := Lib.hid (show Bytes ((w.alloc (.cells #[.int .i64 0, .int .i64 0, .slice none 0 0] 40)).alloc (.cells #[.int .i64 0, .int .i64 0, .slice none 0 0] 40)).drew b (o + 1) ys from ha2)
  have z0a : (w.alloc (.cells #[.int .i64 0, .int .i64 0, .slice none 0 0] 40)).drew.cell? ⟨b, o, none⟩ = some (.int .u8 x0) := cell_up (w := w) hb z0
  have z0b : ∀ O : Obj, ((w.alloc (.cells #[.int .i64 0, .int .i64 0, .slice none 0 0] 40)).alloc O).drew.cell? ⟨b, o, none⟩ = some (.int .u8 x0) := fun O => cell_up (by simp; omega) z0a
  have HSS := Lib.hid z0b
  have H2a := Lib.hid (H2.out.al hb (.cells #[.int .i64 0, .int .i64 0, .slice none 0 0] 40))
  have H2b := Lib.hid (fun O : Obj => show Bytes ((w.alloc (.cells #[.int .i64 0, .int .i64 0, .slice none 0 0] 40)).alloc O).drew b (o + 5) zs from H2a.out.al (by simp; omega) O)
  have HW := Lib.hid (fun O : Obj => (((Below.refl w.heap.size w).alloc (Nat.le_refl _) (.cells #[.int .i64 0, .int .i64 0, .slice none 0 0] 40)).alloc (by simp) O).drew)
  clear ha1 ha2 z0a z0b
  go_enter Try.func16, Try.ntmps16
  go_wp2_with fail
  go_region_held3 (fun w' => w'.cell? ⟨b, o, none⟩ = some (.int .u8 x0))
    (first | assumption | exact HSS.out _ | go_keep)
    (first
      | (go_at_call 23; refine (number_n b (o + 1) _ 4 ys _ HXa.out L4.out (by omega) (by omega)).mono ?_; rintro e w5 ⟨rfl, rfl⟩)
      | (go_at_call 23; refine (number_n b (o + 1) _ 4 ys _ HXb.out L4.out (by omega) (by omega)).mono ?_; rintro e w5 ⟨rfl, rfl⟩))
  all_goals go_wp2_with fail
  all_goals
    refine (number_n b (o + 5) _ 2 zs _ (H2b.out _) L2.out (by omega) (by omega)).mono ?_
    rintro en w6 ⟨rfl, rfl⟩
    rw [HN.out]
    go_wp2_with fail
    obtain ⟨W0, hW0⟩ : ∃ W0, ((w.alloc (.cells #[.int .i64 0, .int .i64 0, .slice none 0 0] 40)).alloc (.cells #[.int .i64 x0, .int .i64 (num ys), .slice none 0 0] 40)).drew = W0 := ⟨_, rfl⟩
    have HRC : Hid (RC W0 (w.heap.size + 1) x0 (num ys) (.slice none 0 0)) := by
      subst hW0
      exact ⟨by simp, by simp, by simp, by simp, by simp⟩
    have hr0 : W0.cell? ⟨w.heap.size, 0, none⟩ = some (.int .i64 0) ∧ W0.cell? ⟨w.heap.size, 1, none⟩ = some (.int .i64 0) ∧ W0.cell? ⟨w.heap.size, 2, none⟩ = some (.slice none 0 0) ∧ W0.frozen? ⟨w.heap.size, 0, none⟩ = false ∧ W0.frozen? ⟨w.heap.size, 1, none⟩ = false ∧ W0.frozen? ⟨w.heap.size, 2, none⟩ = false := by
      subst hW0
      exact ⟨by simp, by simp, by simp, by simp, by simp, by simp⟩
    have HR0 := Lib.hid hr0
    have hz : W0.heap.size = w.heap.size + 2 := by subst hW0; simp
    have HWB : Hid (Below w.heap.size w W0) := by subst hW0; exact HW.out _
    rw [hW0]
    have HEQ := Lib.hid hW0
    clear hr0 hW0 HSS H2b HXa HXb H2a H4 H2
    go_loopw [8] (fun i wr => ∃ k : Nat, k ≤ N ∧ i = .int .i64 ((7 + k * 37 : Nat) : Int) ∧ ∃ v, OP wr (w.heap.size + 2) v (prs xs k) ∧ RC wr (w.heap.size + 1) x0 (num ys) v ∧ Below (w.heap.size + 1) W0 wr) (fun i _ => (7 + N * 37 - intOf i).toNat)
    case atStart => exact ⟨0, by omega, rfl, .slice none 0 0, ⟨rfl, Or.inl ⟨rfl, rfl⟩⟩, HRC.out, Below.refl _ _⟩
    case round =>
      obtain ⟨k, hk, rfl, v, hO, hR, hB⟩ := hrel
      obtain ⟨a, ha⟩ : ∃ a : Nat, 7 + k * 37 = a := ⟨_, rfl⟩
      rw [ha]
      by_cases hlt : k < N
      · have hd1 : decide ((a : Int) < 7 + (N : Int) * 37) = true := by simp; omega
        have hai : (a : Int) < 7 + (N : Int) * 37 := by omega
        have hca : ¬ cap = a := by omega
        have p1 : (a : Int) + 37 ≤ cap := by omega
        have p2 : a + 37 ≤ cap := by omega
        have HA := Lib.hid ha
        have hwr : Below w.heap.size w wr := HWB.out.trans (hB.mono (by omega))
        have hcx : Hid (Bytes wr b (o + a) (chunk xs k)) := by
          have := (hx.out.sub a 37).below hwr hb
          unfold chunk
          rw [ha]
          exact this
        have hcl : (chunk xs k).length = 37 := by unfold chunk; rw [List.length_take, List.length_drop, HL.out]; omega
        have hbd : decide ((chunk xs k).getD 36 0 ≤ 1) = true := by simpa using HOK.out k hlt
        have HCL := Lib.hid hcl
        have HBD := Lib.hid hbd
        have HP := Lib.hid (prs_succ xs k)
        clear ha hcl hbd
        go_wp2_with fail
        refine (unpiece25 b (o + a) _ (chunk xs k) _ HCL.out (by omega) (by omega) hcx).mono ?_
        rintro en w3 ⟨rfl, hb3⟩
        rw [HBD.out]
        have hR3 := hR.below hb3 hR.lt
        generalize decP (chunk xs k) = p at HP ⊢
        obtain ⟨p0, p1, p2, p3, p4, p5, p6, p7⟩ := p
        unfold Pc.V
        have y0 := hR3.c0
        have y1 := hR3.c1
        have y2 := hR3.c2
        have y3 := hR3.f2
        have hlt3 := hR3.lt
        have hO3 := (hO.below hb3).alloc (.cells #[.int .i64 p0, .int .i64 p1, .int .i64 p2, .int .i64 p3, .int .i64 p4, .int .i64 p5, .int .i64 p6, .bool p7] 48)
        have hll : (prs xs k).length = k := prs_len xs k
        have hll' : (prs xs k).length ≤ 65536 := by omega
        have hBB : w.heap.size + 2 ≤ w3.heap.size := by omega
        clear hll
        go_wp2_with (at_builtin; refine Go.wpList_append_own_at _ rfl _ _ 38 rfl (w.heap.size + 2) 48 i0 _ 8 64 Try.underlying38 hi hz0 hz1 hz2 rfl (by decide) _ _ _ rfl (hO3.alloc _) ⟨w3.heap.size + 1, 0, none⟩ 1 1 (Pc.cells ⟨p0, p1, p2, p3, p4, p5, p6, p7⟩) rfl rfl ?c1 ?c2 ?c3 ?c4 ?c5 ?_)
        case c1 => exact cells_new _ _ _ (by simp)
        case c2 => intro u hu; simp [Pc.cells] at hu; rcases hu with rfl | rfl | rfl | rfl | rfl | rfl | rfl | rfl <;> rfl
        case c3 => unfold maxLen; omega
        case c4 => omega
        case c5 => simp; omega
        intro v' w4 hown4 hgrow _ hat
        have hB4 : Below (w.heap.size + 2) w3 w4 := (((Below.refl w3.heap.size w3).alloc (Nat.le_refl _) (.cells #[.int .i64 p0, .int .i64 p1, .int .i64 p2, .int .i64 p3, .int .i64 p4, .int .i64 p5, .int .i64 p6, .bool p7] 48)).alloc (by simp) (.cells #[.int .i64 p0, .int .i64 p1, .int .i64 p2, .int .i64 p3, .int .i64 p4, .int .i64 p5, .int .i64 p6, .bool p7] 48) |>.mono hBB).grown hgrow (by simp; omega) (fun j hj => ownBlock_ge hO3 hj)
        have hR4 := hR3.below hB4 (by omega)
        have z0 := hR4.c0
        have z1 := hR4.c1
        have z2 := hR4.c2
        have z3 := hR4.f2
        have hO4 : OP w4 (w.heap.size + 2) v' (prs xs (k + 1)) := by
          rw [HP.out]
          unfold OP
          rw [List.flatMap_append, List.length_append]
          simpa using hown4
        obtain ⟨A', n', c', rfl⟩ := hO4.form
        have hltr := hR.lt
        have hlt4 := hR4.lt
        have hB5 : Below (w.heap.size + 1) W0 (w4.setCell ⟨w.heap.size + 1, 2, none⟩ (.slice A' n' c')) := (hB.trans ((hb3.mono (by omega)).trans (hB4.mono (by omega)))).setCell (by simp) _
        have HB5 := Lib.hid hB5
        have HR5 := Lib.hid (hR4.set (.slice A' n' c'))
        have HO5 := Lib.hid (hO4.block (w' := w4.setCell ⟨w.heap.size + 1, 2, none⟩ (.slice A' n' c')) (fun g hg => Below.heap_setCell _ _ _ _ (show g ≠ w.heap.size + 1 by omega)))
        clear hgrow hat hO3 hown4 y0 y1 y2 y3 hB5
        go_wp2_with fail
        go_roundw
        case rel => exact ⟨k + 1, by omega, by rw [← HA.out]; go_num, _, HO5.out, HR5.out, HB5.out⟩
        case measure => simp [intOf]; omega
      · have hkN : k = N := by omega
        have hd1 : decide ((a : Int) < 7 + (N : Int) * 37) = false := by simp; omega
        have hai : 7 + (N : Int) * 37 ≤ (a : Int) := by omega
        have y0 := hR.c0
        have y1 := hR.c1
        have y2 := hR.c2
        have s0 := HR0.out.1
        have hA0 := hB.cell (p := ⟨w.heap.size, 0, none⟩) (by simp)
        have hA1 := hB.cell (p := ⟨w.heap.size, 1, none⟩) (by simp)
        have hA2 := hB.cell (p := ⟨w.heap.size, 2, none⟩) (by simp)
        have hF0 := hB.frozen (p := ⟨w.heap.size, 0, none⟩) (by simp)
        have hF1 := hB.frozen (p := ⟨w.heap.size, 1, none⟩) (by simp)
        have hF2 := hB.frozen (p := ⟨w.heap.size, 2, none⟩) (by simp)
        obtain ⟨r0, r1, r2, r3, r4, r5⟩ := HR0.out
        rw [r0] at hA0
        rw [r1] at hA1
        rw [r2] at hA2
        rw [r3] at hF0
        rw [r4] at hF1
        rw [r5] at hF2
        obtain ⟨A', n', c', rfl⟩ := hO.form
        have HK := Lib.hid hkN
        have hltB := hR.lt
        clear hkN ha r0 r1 r2 r3 r4 r5 s0
        have hBW : Below w.heap.size w wr := HWB.out.trans (hB.mono (by omega))
        have hb1 : Below w.heap.size w (wr.setCell ⟨w.heap.size, 0, none⟩ (.int .i64 x0)) := hBW.setCell (Nat.le_refl _) _
        have hb2 : Below w.heap.size w ((wr.setCell ⟨w.heap.size, 0, none⟩ (.int .i64 x0)).setCell ⟨w.heap.size, 1, none⟩ (.int .i64 (num ys))) := hb1.setCell (Nat.le_refl _) _
        have hb3 : Below w.heap.size w (((wr.setCell ⟨w.heap.size, 0, none⟩ (.int .i64 x0)).setCell ⟨w.heap.size, 1, none⟩ (.int .i64 (num ys))).setCell ⟨w.heap.size, 2, none⟩ (.slice A' n' c')) := hb2.setCell (Nat.le_refl _) _
        have HBW := Lib.hid hb3
        clear hb1 hb2 hb3
        have HO5 := Lib.hid (((hO.block (w' := wr.setCell ⟨w.heap.size, 0, none⟩ (.int .i64 x0)) (fun g hg => Below.heap_setCell _ _ _ _ (show g ≠ w.heap.size by omega))).block (w' := (wr.setCell ⟨w.heap.size, 0, none⟩ (.int .i64 x0)).setCell ⟨w.heap.size, 1, none⟩ (.int .i64 (num ys))) (fun g hg => Below.heap_setCell _ _ _ _ (show g ≠ w.heap.size by omega))).block (w' := ((wr.setCell ⟨w.heap.size, 0, none⟩ (.int .i64 x0)).setCell ⟨w.heap.size, 1, none⟩ (.int .i64 (num ys))).setCell ⟨w.heap.size, 2, none⟩ (.slice A' n' c')) (fun g hg => Below.heap_setCell _ _ _ _ (show g ≠ w.heap.size by omega)))
        clear hBW
        go_wp2_with fail
        have k0 : (wr.setCell ⟨w.heap.size, 0, none⟩ (.int .i64 x0)).cell? ⟨w.heap.size, 0, none⟩ = some (.int .i64 x0) := World.cell?_setCell_same _ _ _ hA0
        have k1 : ((wr.setCell ⟨w.heap.size, 0, none⟩ (.int .i64 x0)).setCell ⟨w.heap.size, 1, none⟩ (.int .i64 (num ys))).cell? ⟨w.heap.size, 1, none⟩ = some (.int .i64 (num ys)) := World.cell?_setCell_same _ _ _ ((World.cell?_setCell_other _ _ _ _ (by simp)).trans hA1)
        have k2 : (((wr.setCell ⟨w.heap.size, 0, none⟩ (.int .i64 x0)).setCell ⟨w.heap.size, 1, none⟩ (.int .i64 (num ys))).setCell ⟨w.heap.size, 2, none⟩ (.slice A' n' c')).cell? ⟨w.heap.size, 2, none⟩ = some (.slice A' n' c') := World.cell?_setCell_same _ _ _ ((World.cell?_setCell_other _ _ _ _ (by simp)).trans ((World.cell?_setCell_other _ _ _ _ (by simp)).trans hA2))
        refine bodyPost_ret (v := .tuple #[.agg #[.int .i64 x0, .int .i64 (num ys), .slice A' n' c'], .int .i64 (7 + (N : Int) * 37), .int .i64 0]) (by simp [results, Try.results16, go_sem, k0, k1, k2]) rfl ?_
        refine ⟨_, by rw [show ((7 + N * 37 : Nat) : Int) = 7 + (N : Int) * 37 by omega], ?_, HBW.out⟩
        rw [← HK.out]
        exact HO5.out.mono (by omega)
end Go.Proofs.Ytbanlnacoidccaa
