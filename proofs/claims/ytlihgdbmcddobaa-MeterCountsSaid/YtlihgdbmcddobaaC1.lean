/- Whatever is added to whichever counter: the walk. -/
import Derived.Test.YtlihgdbmcddobaaT1
import Derived.StillTailTactics
import Derived.Deep.RegionHeld3
import Derived.BigRegion
namespace Go.Proofs.Ytlihgdbmcddobaa
open Go.RowKit
set_option linter.unusedSimpArgs false
set_option linter.unusedVariables false

theorem cellsw_below {W wr : World} {A : Option Addr} {len : Nat} {k : IntKind} {xs : Nat → Nat → Int} (hb : Below W.heap.size W wr)
    (h : ∀ i, i < len → ∃ b o, A = some ⟨b, o, none⟩ ∧ b < W.heap.size ∧ ∀ j, j < 2 → W.cell? ⟨b, o + (i * 2 + j), none⟩ = some (.int k (xs i j)) ∧ (Lit.int k (xs i j)).wf = true) {i : Nat} (hi : i < len) :
    ∃ b o, A = some ⟨b, o, none⟩ ∧ b < W.heap.size ∧ wr.cell? ⟨b, o + i * 2, none⟩ = some (.int k (xs i 0)) ∧ wr.cell? ⟨b, o + i * 2 + 1, none⟩ = some (.int k (xs i 1)) := by
  obtain ⟨b, o, e, hlt, hc⟩ := h i hi
  refine ⟨b, o, e, hlt, ?_, ?_⟩
  · rw [hb.cell (p := ⟨b, _, none⟩) hlt]; exact (hc 0 (by omega)).1
  · rw [hb.cell (p := ⟨b, _, none⟩) hlt]; exact (hc 1 (by omega)).1

/-- The sums behind n of the rows: they run round. -/
def G (xs : Nat → Nat → Int) : Nat → Nat → Int
  | 0 => fun _ => 0
  | n + 1 => fun j => if 0 ≤ xs n 0 ∧ xs n 0 < 5 ∧ j = (xs n 0).toNat then wrap64 (G xs n j + xs n 1) else G xs n j

theorem T2.addW {W : World} {X B k : Nat} {g f : Nat → Int} {wr : World} (h : T2 W X B g f wr) (hX : W.heap.size ≤ X) (hne : B ≠ X) (d : Int) (hk : k < 5) :
    Calls Try.prog 10 #[.pointer (some ⟨X, 0, none⟩), .int .i64 k, .int .i64 d] wr fun e w' => e = .returned (.int .i64 (wrap64 (g k + d))) ∧ T2 W X B (upd g k (wrap64 (g k + d))) f w' := by
  refine (add_m X k d _ g wr hk h.1 rfl).mono ?_
  rintro e w' ⟨rfl, hm', ho⟩
  exact ⟨rfl, hm', h.2.1.only ho hne, h.2.2.trans (ho.below hX h.2.2.size)⟩

/-- What the law's last look holds on to. -/
def Look (W : World) (X B k : Nat) (g : Nat → Int) (s : Int) (w' : World) : Prop :=
  w'.cell? ⟨B, k, none⟩ = some (.int .i64 s) ∧ w'.cell? ⟨B, 0, none⟩ = some (.int .i64 (g 0)) ∧ w'.cell? ⟨B, 1, none⟩ = some (.int .i64 (g 1)) ∧ w'.cell? ⟨B, 2, none⟩ = some (.int .i64 (g 2)) ∧
    w'.cell? ⟨B, 3, none⟩ = some (.int .i64 (g 3)) ∧ w'.cell? ⟨B, 4, none⟩ = some (.int .i64 (g 4)) ∧ T2 W X B g g w'

theorem T2.look {W : World} {X B k : Nat} {g : Nat → Int} {s : Int} {w' : World} (hk : k < 5) (hs : Hid (g k = s)) (h : T2 W X B g g w') :
    w'.cell? ⟨B, k, none⟩ = some (.int .i64 s) ∧ w'.cell? ⟨B, 0, none⟩ = some (.int .i64 (g 0)) ∧ w'.cell? ⟨B, 1, none⟩ = some (.int .i64 (g 1)) ∧ w'.cell? ⟨B, 2, none⟩ = some (.int .i64 (g 2)) ∧
    w'.cell? ⟨B, 3, none⟩ = some (.int .i64 (g 3)) ∧ w'.cell? ⟨B, 4, none⟩ = some (.int .i64 (g 4)) ∧ T2 W X B g g w' :=
  ⟨by rw [← hs.out]; exact (h.2.1 k hk).1, (h.2.1 0 (by omega)).1, (h.2.1 1 (by omega)).1, (h.2.1 2 (by omega)).1, (h.2.1 3 (by omega)).1, (h.2.1 4 (by omega)).1, h⟩

theorem T2.of_look {W : World} {X B k : Nat} {g : Nat → Int} {s : Int} {w' : World}
    (h : w'.cell? ⟨B, k, none⟩ = some (.int .i64 s) ∧ w'.cell? ⟨B, 0, none⟩ = some (.int .i64 (g 0)) ∧ w'.cell? ⟨B, 1, none⟩ = some (.int .i64 (g 1)) ∧ w'.cell? ⟨B, 2, none⟩ = some (.int .i64 (g 2)) ∧
    w'.cell? ⟨B, 3, none⟩ = some (.int .i64 (g 3)) ∧ w'.cell? ⟨B, 4, none⟩ = some (.int .i64 (g 4)) ∧ T2 W X B g g w') : T2 W X B g g w' := h.2.2.2.2.2.2

theorem T2.congr {W : World} {X B : Nat} {g f : Nat → Int} {w' : World} (h : T2 W X B g g w') (e : ∀ j, j < 5 → g j = f j) : T2 W X B f f w' := ⟨h.1.congr e, h.2.1.congr e, h.2.2⟩

theorem T2.getk {W : World} {X B k : Nat} {g : Nat → Int} {s : Int} {w' : World} (hk : k < 5) (hs : Hid (g k = s)) (h : T2 W X B g g w') :
    Calls Try.prog 11 #[.pointer (some ⟨X, 0, none⟩), .int .i64 k] w' fun e w'' => e = .returned (.int .i64 s) ∧ w' = w'' :=
  get_m X k s g w' hk h.1 hs.out

theorem T2.all {W : World} {X B : Nat} {g : Nat → Int} {w' : World} (h : T2 W X B g g w') :
    Calls Try.prog 12 #[.pointer (some ⟨X, 0, none⟩)] w' fun e w'' => e = .returned (.agg #[.int .i64 (g 0), .int .i64 (g 1), .int .i64 (g 2), .int .i64 (g 3), .int .i64 (g 4)]) ∧ T2 W X B g g w'' := by
  refine (all_m X _ _ _ _ _ g w' h.1 rfl rfl rfl rfl rfl).mono ?_
  rintro e w'' ⟨rfl, hm', ho⟩
  exact ⟨rfl, hm', h.2.1.below ho, h.2.2.trans (ho.mono h.2.2.size)⟩

set_option maxHeartbeats 800000 in
theorem counts_few (A : Option Addr) (len cap : Nat) (xs : Nat → Nat → Int) (hl : len ≤ 200) (w : World)
    (H : Hid (∀ i, i < len → ∃ b o, A = some ⟨b, o, none⟩ ∧ b < w.heap.size ∧ ∀ j, j < 2 → w.cell? ⟨b, o + (i * 2 + j), none⟩ = some (.int .i64 (xs i j)) ∧ (Lit.int .i64 (xs i j)).wf = true)) :
    Calls Try.prog 3 #[.slice A len cap] w fun e w' => e = .returned (.bool true) ∧ Below w.heap.size w w' := by
  have hl' : decide (200 < (len : Int)) = false := by simp; omega
  go_enter Try.func3, Try.ntmps3
  go_wp2_with fail
  refine (awake_any _).mono ?_
  rintro e w0 ⟨rfl, hb0⟩
  go_wp2_with fail
  refine (new_m _).mono ?_
  rintro e w1 ⟨rfl, hm, hb1, hs⟩
  clear hs
  have hX : w.heap.size ≤ w0.heap.size := hb0.size
  have hR : T2 w w0.heap.size w1.heap.size (G xs 0) (G xs 0) (w1.alloc (.cells #[.int .i64 0, .int .i64 0, .int .i64 0, .int .i64 0, .int .i64 0] 26)) :=
    ⟨hm.below ((Below.refl _ _).alloc (Nat.le_refl _) _), isM_new w1 _ _ _ _ _ (G xs 0) 26 rfl rfl rfl rfl rfl, (hb0.trans (hb1.mono hX)).alloc (by have := hb1.size; omega) _⟩
  have hne : w1.heap.size ≠ w0.heap.size := by have := hm.lt; omega
  have hB : w.heap.size ≤ w1.heap.size := by have := hb1.size; omega
  clear hm hb0 hb1
  go_wp2_with fail
  generalize hw6 : (w1.alloc (.cells #[.int .i64 0, .int .i64 0, .int .i64 0, .int .i64 0, .int .i64 0] 26)) = w6 at hR ⊢
  clear hw6
  go_loopw [5] (fun i wr => ∃ n : Nat, n ≤ len ∧ i = .int .i64 n ∧ T2 w w0.heap.size w1.heap.size (G xs n) (G xs n) wr) (fun i _ => len - (intOf i).toNat)
  case atStart => exact ⟨0, by omega, rfl, hR⟩
  case round =>
    obtain ⟨n, hn, rfl, hr⟩ := hrel
    clear hR
    by_cases hlt : n < len
    · obtain ⟨b, o, rfl, hblt, hc0, hc1⟩ := cellsw_below hr.2.2 H.out hlt
      by_cases hk : 0 ≤ xs n 0 ∧ xs n 0 < 5
      · obtain ⟨k, hke⟩ : ∃ k : Nat, xs n 0 = k := ⟨(xs n 0).toNat, by omega⟩
        have hk5 : k < 5 := by omega
        rw [hke] at hc0
        have HK := Lib.hid hke
        clear hke hk
        have hd1 : decide ((k : Int) < 0) = false := by simp
        have hd2 : decide (5 ≤ (k : Int)) = false := by simp; omega
        go_wp2_with fail
        refine (hr.addW hX hne _ hk5).mono ?_
        rintro e w7 ⟨rfl, hr7⟩
        clear hr
        have cs := hr7.2.1 k hk5
        have csc := cs.1
        have csf := cs.2
        clear cs
        obtain ⟨b', o', hbo, _, _, hc1'⟩ := cellsw_below hr7.2.2 H.out hlt
        obtain ⟨rfl, rfl⟩ : b = b' ∧ o = o' := by simpa using hbo
        clear hbo hc0 hc1
        go_wp2_with fail
        have hk5i : (k : Int) < 5 := by omega
        go_still_tail 11, (by kernel_rfl)
        go_wp2_with fail
        have hT : T2 w w0.heap.size w1.heap.size (upd (G xs n) k (wrap64 (G xs n k + xs n 1))) (upd (G xs n) k (wrap64 (G xs n k + xs n 1))) (w7.setCell ⟨w1.heap.size, k, none⟩ (.int .i64 (wrap64 (G xs n k + xs n 1)))).drew :=
          ⟨hr7.1.kept (Below.heap_setCell _ _ _ _ (fun e => hne e.symm)), hr7.2.1.set hk5, (hr7.2.2.setCell hB _).drew⟩
        have hG : ∀ j, j < 5 → upd (G xs n) k (wrap64 (G xs n k + xs n 1)) j = G xs (n + 1) j := by
          intro j hj
          have e := HK.out
          simp only [G, upd, e]
          by_cases e : j = k
          · subst e; rw [if_pos rfl, if_pos ⟨by omega, by omega, by omega⟩]
          · rw [if_neg e, if_neg (by omega)]
        have hgk : upd (G xs n) k (wrap64 (G xs n k + xs n 1)) k = wrap64 (G xs n k + xs n 1) := by simp [upd]
        clear hr7 csc csf hc1'
        generalize (w7.setCell ⟨w1.heap.size, k, none⟩ (.int .i64 (wrap64 (G xs n k + xs n 1)))).drew = w8 at hT ⊢
        generalize upd (G xs n) k (wrap64 (G xs n k + xs n 1)) = g at hT hG hgk
        generalize wrap64 (G xs n k + xs n 1) = s at hgk ⊢
        have HG := Lib.hid hG
        have HGK : Hid (g k = s) := hgk
        clear hG hgk
        have he := eqarr
        go_region_held3 (fun w' => w'.cell? ⟨w1.heap.size, k, none⟩ = some (.int .i64 s) ∧ w'.cell? ⟨w1.heap.size, 0, none⟩ = some (.int .i64 (g 0)) ∧ w'.cell? ⟨w1.heap.size, 1, none⟩ = some (.int .i64 (g 1)) ∧ w'.cell? ⟨w1.heap.size, 2, none⟩ = some (.int .i64 (g 2)) ∧ w'.cell? ⟨w1.heap.size, 3, none⟩ = some (.int .i64 (g 3)) ∧ w'.cell? ⟨w1.heap.size, 4, none⟩ = some (.int .i64 (g 4)) ∧ T2 w w0.heap.size w1.heap.size g g w')
          (first | assumption | exact T2.look hk5 HGK (by assumption) | exact T2.look hk5 HGK (T2.drew (by assumption)))
          (first | (go_at_call 11; refine (T2.getk (W := w) (B := w1.heap.size) hk5 HGK ?_).mono ?_; (exact T2.of_look (k := k) (s := s) (by assumption)); rintro e w' ⟨rfl, rfl⟩) | (go_at_call 12; refine (T2.all (W := w) (B := w1.heap.size) (g := g) ?_).mono ?_; (exact T2.of_look (k := k) (s := s) (by assumption)); rintro e w' ⟨rfl, hr9⟩))
        go_wp2_with fail
        go_roundw
        case rel => exact ⟨n + 1, by omega, by go_num, (T2.congr (T2.of_look (k := k) (s := s) (by assumption)) HG.out)⟩
        case measure => simp [intOf]; omega
      · have hd1 : (decide (xs n 0 < 0) || decide (5 ≤ xs n 0)) = true := by simp; omega
        have hG : ∀ j, G xs n j = G xs (n + 1) j := by
          intro j
          simp only [G]
          rw [if_neg (by omega)]
        have HG := Lib.hid hG
        clear hG
        by_cases hneg : xs n 0 < 0
        · go_wp2_with fail
          refine (add_out _ _ _ _ (by omega)).mono ?_
          rintro e w7 ⟨rfl, rfl⟩
          go_wp2_with fail
          refine (get_out _ _ _ (by omega)).mono ?_
          rintro e w7 ⟨rfl, rfl⟩
          go_wp2_with fail
          go_roundw
          case rel => exact ⟨n + 1, by omega, by go_num, hr.congr (fun j _ => HG.out j)⟩
          case measure => simp [intOf]; omega
        · have hge : 5 ≤ xs n 0 := by omega
          go_wp2_with fail
          refine (add_out _ _ _ _ (by omega)).mono ?_
          rintro e w7 ⟨rfl, rfl⟩
          go_wp2_with fail
          refine (get_out _ _ _ (by omega)).mono ?_
          rintro e w7 ⟨rfl, rfl⟩
          go_wp2_with fail
          go_roundw
          case rel => exact ⟨n + 1, by omega, by go_num, hr.congr (fun j _ => HG.out j)⟩
          case measure => simp [intOf]; omega
    · have : n = len := by omega
      subst this
      go_wp2_with fail
      go_returns
      exact ⟨rfl, hr.2.2⟩

theorem counts_more (A : Option Addr) (len cap : Nat) (hl : 200 < len) (hm : len ≤ 9223372036854775807) (w : World) :
    Calls Try.prog 3 #[.slice A len cap] w fun e w' => e = .returned (.bool true) ∧ Below w.heap.size w w' := by
  have hl' : decide (200 < (len : Int)) = true := by simp; omega
  go_enter Try.func3, Try.ntmps3
  go_wp2_with fail
  refine (awake_any _).mono ?_
  rintro e w0 ⟨rfl, hb0⟩
  go_wp2_with fail
  go_returns
  exact ⟨rfl, hb0⟩

theorem counts_law (x : Sl2) (w : World) (hx : x.ok .i64 w) :
    Calls Try.prog 3 #[x.V] w fun e w' => e = .returned (.bool true) ∧ Below w.heap.size w w' := by
  by_cases hl : x.len ≤ 200
  · exact counts_few x.a x.len x.cap x.xs hl w hx.2
  · exact counts_more x.a x.len x.cap (by omega) hx.1 w
end Go.Proofs.Ytlihgdbmcddobaa
