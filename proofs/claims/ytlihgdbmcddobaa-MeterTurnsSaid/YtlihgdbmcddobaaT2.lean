/- What is added and taken away again: the walk. -/
import Derived.Test.YtlihgdbmcddobaaT1
import Derived.StillTailTactics
namespace Go.Proofs.Ytlihgdbmcddobaa
open Go.RowKit
set_option linter.unusedSimpArgs false
set_option linter.unusedVariables false

theorem cells_below {W wr : World} {A : Option Addr} {len : Nat} {k : IntKind} {xs : Nat → Nat → Int} (hb : Below W.heap.size W wr)
    (h : ∀ i, i < len → ∃ b o, A = some ⟨b, o, none⟩ ∧ b < W.heap.size ∧ ∀ j, j < 2 → W.cell? ⟨b, o + (i * 2 + j), none⟩ = some (.int k (xs i j)) ∧ (Lit.int k (xs i j)).wf = true) {i : Nat} (hi : i < len) :
    ∃ b o, A = some ⟨b, o, none⟩ ∧ wr.cell? ⟨b, o + i * 2, none⟩ = some (.int k (xs i 0)) ∧ wr.cell? ⟨b, o + i * 2 + 1, none⟩ = some (.int k (xs i 1)) := by
  obtain ⟨b, o, e, hlt, hc⟩ := h i hi
  refine ⟨b, o, e, ?_, ?_⟩
  · rw [hb.cell (p := ⟨b, _, none⟩) hlt]; exact (hc 0 (by omega)).1
  · rw [hb.cell (p := ⟨b, _, none⟩) hlt]; exact (hc 1 (by omega)).1

theorem argk (x : Int) : (wrap64 (x.tmod 5 + 5)).tmod 5 = (x.tmod 5 + 5) % 5 := by
  have t := tmod5 x
  have e2 : wrap64 (x.tmod 5 + 5) = x.tmod 5 + 5 := by unfold wrap64; omega
  rw [e2, Int.tmod_eq_emod_of_nonneg (by omega)]

theorem TRel.drew {W : World} {X : Nat} {g : Nat → Int} {wr : World} (h : TRel W X g wr) : TRel W X g wr.drew := ⟨h.1.kept rfl, h.2.drew⟩

set_option maxHeartbeats 800000 in
theorem turns_few (A : Option Addr) (len cap : Nat) (xs : Nat → Nat → Int) (hl : len ≤ 200) (w : World)
    (H : Hid (∀ i, i < len → ∃ b o, A = some ⟨b, o, none⟩ ∧ b < w.heap.size ∧ ∀ j, j < 2 → w.cell? ⟨b, o + (i * 2 + j), none⟩ = some (.int .i16 (xs i j)) ∧ (Lit.int .i16 (xs i j)).wf = true))
    (HB : Hid (∀ i, i < len → (-32768 ≤ xs i 0 ∧ xs i 0 ≤ 32767) ∧ (-32768 ≤ xs i 1 ∧ xs i 1 ≤ 32767))) :
    Calls Try.prog 6 #[.slice A len cap] w fun e w' => e = .returned (.bool true) ∧ Below w.heap.size w w' := by
  have hl' : decide (200 < (len : Int)) = false := by simp; omega
  have he := eqarr
  go_enter Try.func6, Try.ntmps6
  go_wp2_with fail
  refine (awake_any _).mono ?_
  rintro e w0 ⟨rfl, hb0⟩
  go_wp2_with fail
  refine (new_m _).mono ?_
  rintro e w1 ⟨rfl, hm, hb1, hs⟩
  clear hs
  have hX : w.heap.size ≤ w0.heap.size := hb0.size
  have hR : TRel w w0.heap.size (F xs 0) w1 := ⟨hm, hb0.trans (hb1.mono hX)⟩
  clear hm hb0 hb1
  go_wp2_with fail
  go_loopw [4] (fun i wr => ∃ n : Nat, n ≤ len ∧ i = .int .i64 n ∧ TRel w w0.heap.size (F xs n) wr) (fun i _ => len - (intOf i).toNat)
  case atStart => exact ⟨0, by omega, rfl, hR⟩
  case round =>
    obtain ⟨n, hn, rfl, hr⟩ := hrel
    clear hR
    by_cases hlt : n < len
    · obtain ⟨b, o, rfl, hc0, hc1⟩ := cells_below hr.2 H.out hlt
      have hbd := F_bound xs n (fun i hi => (HB.out i (by omega)).2) (kOf (xs n 0))
      have hbn := (HB.out n hlt).2
      have hb0l := (HB.out n hlt).1.1
      have hb0r := (HB.out n hlt).1.2
      go_wp2_with fail
      go_still_tail 16, (by kernel_rfl)
      go_wp2_with fail
      rw [argk]
      refine (hr.drew.add (g' := F xs (n + 1)) hX _ _ (by omega) (by omega) (fun j hj => rfl)).mono ?_
      rintro e w5 ⟨⟨s, rfl⟩, hr5⟩
      go_wp2_with fail
      go_roundw
      case rel => exact ⟨n + 1, by omega, by go_num, hr5⟩
      case measure => simp [intOf]; omega
    · have : n = len := by omega
      subst this
      go_wp2_with fail
      refine hr.all.mono ?_
      rintro e w5 ⟨rfl, hr5⟩
      clear hr
      go_wp2_with fail
      have hne : w5.heap.size ≠ w0.heap.size := by have := hr5.1.lt; omega
      have hT : T2 w w0.heap.size w5.heap.size (fun j => F xs n j - F xs 0 j) (F xs n) (w5.alloc (.cells #[.int .i64 (F xs n 0), .int .i64 (F xs n 1), .int .i64 (F xs n 2), .int .i64 (F xs n 3), .int .i64 (F xs n 4)] 26)) :=
        ⟨(hr5.1.below ((Below.refl _ _).alloc (Nat.le_refl _) _)).congr (fun j hj => by simp [F]), isM_new w5 _ _ _ _ _ (F xs n) 26 rfl rfl rfl rfl rfl, hr5.2.alloc hr5.2.size _⟩
      clear hr5
      generalize hw6 : (w5.alloc (.cells #[.int .i64 (F xs n 0), .int .i64 (F xs n 1), .int .i64 (F xs n 2), .int .i64 (F xs n 3), .int .i64 (F xs n 4)] 26)) = w6 at hT ⊢
      clear hw6
      go_loopw [6] (fun i wr => ∃ m : Nat, m ≤ n ∧ i = .int .i64 m ∧ T2 w w0.heap.size w5.heap.size (fun j => F xs n j - F xs m j) (F xs n) wr) (fun i _ => n - (intOf i).toNat)
      case atStart => exact ⟨0, by omega, rfl, hT⟩
      case round =>
        obtain ⟨m, hm, rfl, hr⟩ := hrel
        clear hT
        by_cases hlt : m < n
        · obtain ⟨b, o, rfl, hc0, hc1⟩ := cells_below hr.2.2 H.out hlt
          have hbd := F_bound xs m (fun i hi => (HB.out i (by omega)).2) (kOf (xs m 0))
          have hbd2 := F_bound xs n (fun i hi => (HB.out i (by omega)).2) (kOf (xs m 0))
          have hbn := (HB.out m hlt).2
          have hb0l := (HB.out m hlt).1.1
          have hb0r := (HB.out m hlt).1.2
          go_wp2_with fail
          go_still_tail 17, (by kernel_rfl)
          go_wp2_with fail
          rw [argk]
          refine (hr.drew.add (g' := fun j => F xs n j - F xs (m + 1) j) hX hne _ _ (by show _ ≤ (F xs n _ - F xs m _ : Int) + _; omega) (by show (F xs n _ - F xs m _ : Int) + _ ≤ _; omega) (fun j hj => by simp only [F]; split <;> omega)).mono ?_
          rintro e w7 ⟨⟨s, rfl⟩, hr7⟩
          go_wp2_with fail
          go_roundw
          case rel => exact ⟨m + 1, by omega, by go_num, hr7⟩
          case measure => simp [intOf]; omega
        · have : m = n := by omega
          subst this
          go_wp2_with fail
          go_loop [7, 8] (fun s i => ∃ k : Nat, k ≤ m ∧ i = .int .i64 k ∧ s = .int .i64 (S xs k)) (fun _ i => m - (intOf i).toNat)
          case atStart => exact ⟨0, by omega, rfl, rfl⟩
          case round =>
            obtain ⟨k, hk, rfl, rfl⟩ := hrel
            by_cases hlt : k < m
            · obtain ⟨b, o, rfl, hc0, hc1⟩ := cells_below hr.2.2 H.out hlt
              have hsb := S_bound xs k (fun i hi => (HB.out i (by omega)).2)
              have hsl := hsb.1
              have hsr := hsb.2
              have hbl := (HB.out k hlt).2.1
              have hbr := (HB.out k hlt).2.2
              clear hsb
              go_wp2_with fail
              go_round
              case rel => exact ⟨k + 1, by omega, by go_num, rfl⟩
              case measure => simp [intOf]; omega
            · have : k = m := by omega
              subst this
              go_wp2_with fail
              have c0 := (hr.2.1 0 (by omega)).1
              have c1 := (hr.2.1 1 (by omega)).1
              have c2 := (hr.2.1 2 (by omega)).1
              have c3 := (hr.2.1 3 (by omega)).1
              have c4 := (hr.2.1 4 (by omega)).1
              have b0 := F_bound xs k (fun i hi => (HB.out i (by omega)).2) 0
              have b1 := F_bound xs k (fun i hi => (HB.out i (by omega)).2) 1
              have b2 := F_bound xs k (fun i hi => (HB.out i (by omega)).2) 2
              have b3 := F_bound xs k (fun i hi => (HB.out i (by omega)).2) 3
              have b4 := F_bound xs k (fun i hi => (HB.out i (by omega)).2) 4
              have b0l : -6553600 ≤ F xs k 0 := by omega
              have b0r : F xs k 0 ≤ 6553600 := by omega
              have b1l : -6553600 ≤ F xs k 1 := by omega
              have b1r : F xs k 1 ≤ 6553600 := by omega
              have b2l : -6553600 ≤ F xs k 2 := by omega
              have b2r : F xs k 2 ≤ 6553600 := by omega
              have b3l : -6553600 ≤ F xs k 3 := by omega
              have b3r : F xs k 3 ≤ 6553600 := by omega
              have b4l : -6553600 ≤ F xs k 4 := by omega
              have b4r : F xs k 4 ≤ 6553600 := by omega
              clear b0 b1 b2 b3 b4
              have HE : (F xs k 0 + F xs k 1 + F xs k 2 + F xs k 3 + F xs k 4 == S xs k) = true := beq_iff_eq.2 (F_sum xs k)
              refine wp_loop_rounds 6 ?_
              rw [rounds_succ]
              go_wp2_with fail
              rw [rounds_succ]
              go_wp2_with fail
              rw [rounds_succ]
              go_wp2_with fail
              rw [rounds_succ]
              go_wp2_with fail
              rw [rounds_succ]
              go_wp2_with fail
              rw [rounds_succ]
              go_wp2_with fail
              refine (hr.zeros (fun j hj => by omega)).mono ?_
              rintro e w9 ⟨rfl, hb9⟩
              clear HE c0 c1 c2 c3 c4
              go_wp2_with fail
              go_returns
              exact ⟨rfl, hb9⟩

theorem turns_more (A : Option Addr) (len cap : Nat) (hl : 200 < len) (hm : len ≤ 9223372036854775807) (w : World) :
    Calls Try.prog 6 #[.slice A len cap] w fun e w' => e = .returned (.bool true) ∧ Below w.heap.size w w' := by
  have hl' : decide (200 < (len : Int)) = true := by simp; omega
  go_enter Try.func6, Try.ntmps6
  go_wp2_with fail
  refine (awake_any _).mono ?_
  rintro e w0 ⟨rfl, hb0⟩
  go_wp2_with fail
  refine (new_m _).mono ?_
  rintro e w1 ⟨rfl, hm, hb1, hs⟩
  clear hs
  go_wp2_with fail
  go_returns
  exact ⟨rfl, hb0.trans (hb1.mono hb0.size)⟩

theorem turns_law (x : Sl2) (w : World) (hx : x.ok .i16 w) :
    Calls Try.prog 6 #[x.V] w fun e w' => e = .returned (.bool true) ∧ Below w.heap.size w w' := by
  by_cases hl : x.len ≤ 200
  · refine turns_few x.a x.len x.cap x.xs hl w hx.2 fun i hi => ?_
    obtain ⟨b, o, _, _, h⟩ := hx.2 i hi
    exact ⟨bounds_i16 (h 0 (by omega)).2, bounds_i16 (h 1 (by omega)).2⟩
  · exact turns_more x.a x.len x.cap (by omega) hx.1 w
end Go.Proofs.Ytlihgdbmcddobaa
