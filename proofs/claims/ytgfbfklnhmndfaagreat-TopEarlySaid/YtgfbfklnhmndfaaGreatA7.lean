/- The parts of the top that the law of early release walks through: part 7 of 52. -/
import Derived.Test.YtgfbfklnhmndfaaGreatA1
import Derived.Test.YtgfbfklnhmndfaaGreatA4
namespace Go.Proofs.YtgfbfklnhmndfaaGreat
open Go.RowKit
set_option linter.unusedSimpArgs false
set_option linter.unusedVariables false
section
attribute [local go_sem ↓] setCell_drewN alloc_drewN grow_cell grow_frozen setCell_grow grow_size cell_alloc_grow frozen_alloc_grow setCell_alloc_grow cell_grow_alloc_grow frozen_grow_alloc_grow setCell_grow_alloc_grow grow_grow
attribute [local go_sem] lt_len
/-- -1, 0 or 1. -/
def cmpI (a b : Int) : Int := if a < b then -1 else if b < a then 1 else 0
theorem nan134 (a : Int) (w : World) : Calls Tryz.prog 134 #[.int .i64 a] w fun e w' => e = .returned (.bool false) ∧ w = w' := by
  go_enter Tryz.func134, Tryz.ntmps134
  go_wp2_with fail
  go_returns
  exact ⟨by simp, rfl⟩
theorem cmp92 (a b : Int) (w : World) : Calls Tryz.prog 92 #[.int .i64 a, .int .i64 b] w fun e w' => e = .returned (.int .i64 (cmpI a b)) ∧ w = w' := by
  unfold cmpI
  by_cases h : a < b
  · have h1 : decide (a < b) = true := by simpa using h
    rw [if_pos h]
    go_enter Tryz.func92, Tryz.ntmps92
    go_wp2_with fail
    refine (nan134 a _).mono ?_
    rintro e w' ⟨rfl, rfl⟩
    go_wp2_with fail
    refine (nan134 b _).mono ?_
    rintro e w' ⟨rfl, rfl⟩
    go_wp2_with fail
    go_returns
    exact ⟨rfl, rfl⟩
  · have h1 : decide (a < b) = false := by simpa using h
    rw [if_neg h]
    by_cases k : b < a
    · have k1 : decide (b < a) = true := by simpa using k
      rw [if_pos k]
      go_enter Tryz.func92, Tryz.ntmps92
      go_wp2_with fail
      refine (nan134 a _).mono ?_
      rintro e w' ⟨rfl, rfl⟩
      go_wp2_with fail
      refine (nan134 b _).mono ?_
      rintro e w' ⟨rfl, rfl⟩
      go_wp2_with fail
      go_returns
      exact ⟨rfl, rfl⟩
    · have k1 : decide (b < a) = false := by simpa using k
      rw [if_neg k]
      go_enter Tryz.func92, Tryz.ntmps92
      go_wp2_with fail
      refine (nan134 a _).mono ?_
      rintro e w' ⟨rfl, rfl⟩
      go_wp2_with fail
      refine (nan134 b _).mono ?_
      rintro e w' ⟨rfl, rfl⟩
      go_wp2_with fail
      go_returns
      exact ⟨rfl, rfl⟩
theorem nan243 (a : Int) (w : World) : Calls Tryz.prog 243 #[.int .i64 a] w fun e w' => e = .returned (.bool false) ∧ w = w' := by
  go_enter Tryz.func243, Tryz.ntmps243
  go_wp2_with fail
  go_returns
  exact ⟨by simp, rfl⟩
theorem cmp222 (a b : Int) (w : World) : Calls Tryz.prog 222 #[.int .i64 a, .int .i64 b] w fun e w' => e = .returned (.int .i64 (cmpI a b)) ∧ w = w' := by
  unfold cmpI
  by_cases h : a < b
  · have h1 : decide (a < b) = true := by simpa using h
    rw [if_pos h]
    go_enter Tryz.func222, Tryz.ntmps222
    go_wp2_with fail
    refine (nan243 a _).mono ?_
    rintro e w' ⟨rfl, rfl⟩
    go_wp2_with fail
    refine (nan243 b _).mono ?_
    rintro e w' ⟨rfl, rfl⟩
    go_wp2_with fail
    go_returns
    exact ⟨rfl, rfl⟩
  · have h1 : decide (a < b) = false := by simpa using h
    rw [if_neg h]
    by_cases k : b < a
    · have k1 : decide (b < a) = true := by simpa using k
      rw [if_pos k]
      go_enter Tryz.func222, Tryz.ntmps222
      go_wp2_with fail
      refine (nan243 a _).mono ?_
      rintro e w' ⟨rfl, rfl⟩
      go_wp2_with fail
      refine (nan243 b _).mono ?_
      rintro e w' ⟨rfl, rfl⟩
      go_wp2_with fail
      go_returns
      exact ⟨rfl, rfl⟩
    · have k1 : decide (b < a) = false := by simpa using k
      rw [if_neg k]
      go_enter Tryz.func222, Tryz.ntmps222
      go_wp2_with fail
      refine (nan243 a _).mono ?_
      rintro e w' ⟨rfl, rfl⟩
      go_wp2_with fail
      refine (nan243 b _).mono ?_
      rintro e w' ⟨rfl, rfl⟩
      go_wp2_with fail
      go_returns
      exact ⟨rfl, rfl⟩
theorem nan223 (a : Int) (w : World) : Calls Tryz.prog 223 #[.int .u64 a] w fun e w' => e = .returned (.bool false) ∧ w = w' := by
  go_enter Tryz.func223, Tryz.ntmps223
  go_wp2_with fail
  go_returns
  exact ⟨by simp, rfl⟩
theorem cmp187 (a b : Int) (w : World) : Calls Tryz.prog 187 #[.int .u64 a, .int .u64 b] w fun e w' => e = .returned (.int .i64 (cmpI a b)) ∧ w = w' := by
  unfold cmpI
  by_cases h : a < b
  · have h1 : decide (a < b) = true := by simpa using h
    rw [if_pos h]
    go_enter Tryz.func187, Tryz.ntmps187
    go_wp2_with fail
    refine (nan223 a _).mono ?_
    rintro e w' ⟨rfl, rfl⟩
    go_wp2_with fail
    refine (nan223 b _).mono ?_
    rintro e w' ⟨rfl, rfl⟩
    go_wp2_with fail
    go_returns
    exact ⟨rfl, rfl⟩
  · have h1 : decide (a < b) = false := by simpa using h
    rw [if_neg h]
    by_cases k : b < a
    · have k1 : decide (b < a) = true := by simpa using k
      rw [if_pos k]
      go_enter Tryz.func187, Tryz.ntmps187
      go_wp2_with fail
      refine (nan223 a _).mono ?_
      rintro e w' ⟨rfl, rfl⟩
      go_wp2_with fail
      refine (nan223 b _).mono ?_
      rintro e w' ⟨rfl, rfl⟩
      go_wp2_with fail
      go_returns
      exact ⟨rfl, rfl⟩
    · have k1 : decide (b < a) = false := by simpa using k
      rw [if_neg k]
      go_enter Tryz.func187, Tryz.ntmps187
      go_wp2_with fail
      refine (nan223 a _).mono ?_
      rintro e w' ⟨rfl, rfl⟩
      go_wp2_with fail
      refine (nan223 b _).mono ?_
      rintro e w' ⟨rfl, rfl⟩
      go_wp2_with fail
      go_returns
      exact ⟨rfl, rfl⟩
end
section
attribute [local go_sem ↓] setCell_drewN alloc_drewN grow_cell grow_frozen setCell_grow grow_size cell_alloc_grow frozen_alloc_grow setCell_alloc_grow cell_grow_alloc_grow frozen_grow_alloc_grow setCell_grow_alloc_grow grow_grow
attribute [local go_sem] lt_len
theorem cmpI_range (a b : Int) : -1 ≤ cmpI a b ∧ cmpI a b ≤ 1 := by
  unfold cmpI
  split <;> (try split) <;> omega
theorem cmpI_mul (a b c d : Int) : -1 ≤ cmpI a b * cmpI c d ∧ cmpI a b * cmpI c d ≤ 1 := by
  unfold cmpI
  split <;> (try split) <;> (try split) <;> (try split) <;> (try split) <;> simp
theorem sign185 (a b : Int) (w : World) : Calls Tryz.prog 185 #[.int .i64 a, .int .i64 b] w fun e w' => e = .returned (.int .i64 (cmpI a 0 * cmpI b 0)) ∧ w = w' := by
  have hr := cmpI_mul a 0 b 0
  have hw : IntKind.i64.wrap (cmpI a 0 * cmpI b 0) = cmpI a 0 * cmpI b 0 := IntWalk.i64_in _ (by omega)
  obtain ⟨x, hx⟩ : ∃ x, cmpI a 0 = x := ⟨_, rfl⟩
  obtain ⟨y, hy⟩ : ∃ y, cmpI b 0 = y := ⟨_, rfl⟩
  have C1 := fun w => cmp222 a 0 w
  have C2 := fun w => cmp222 b 0 w
  rw [hx] at C1
  rw [hy] at C2
  rw [hx, hy] at hr hw ⊢
  clear hx hy
  go_enter Tryz.func185, Tryz.ntmps185
  go_wp2_with fail
  refine (C1 _).mono ?_
  rintro e w' ⟨rfl, rfl⟩
  go_wp2_with fail
  refine (C2 _).mono ?_
  rintro e w' ⟨rfl, rfl⟩
  go_wp2_with fail
  go_returns
  exact ⟨by first | rfl | (rw [hw]) | (simp [*]; done), rfl⟩
/-- The first that is not nought of two. -/
theorem Or96_two (x y : Int) (w : World) (g : Nat) (hg : g < w.heap.size) (h0 : w.cell? ⟨g, 0, none⟩ = some (.int .i64 x)) (h1 : w.cell? ⟨g, 1, none⟩ = some (.int .i64 y)) (c : Nat) :
    Calls Tryz.prog 96 #[.slice (some ⟨g, 0, none⟩) 2 c] w fun e w' => e = .returned (.int .i64 (if x ≠ 0 then x else y)) ∧ w = w' := by
  obtain ⟨R, hR⟩ : ∃ R, (if x ≠ 0 then x else y) = R := ⟨_, rfl⟩
  rw [hR]
  have HR := Lib.hid hR
  clear hR
  go_enter Tryz.func96, Tryz.ntmps96
  go_wp2_with fail
  go_loopw [5, 8] (fun _ v8 wr => w = wr ∧ ∃ i : Nat, v8 = .int .i64 i ∧ i ≤ 2 ∧ (0 < i → x = 0) ∧ (1 < i → y = 0)) (fun _ v8 _ => (2 - intOf v8).toNat)
  case atStart => exact ⟨rfl, 0, rfl, by omega, by omega, by omega⟩
  case round =>
    obtain ⟨rfl, i, rfl, hi, hx, hy⟩ := hrel
    have HX := Lib.hid hx
    have HY := Lib.hid hy
    clear hx hy
    rcases (show i = 0 ∨ i = 1 ∨ i = 2 by omega) with rfl | rfl | rfl
    · clear hi
      by_cases hx : x = 0
      · subst hx
        go_wp2_with fail
        go_roundw
        case rel => exact ⟨trivial, 1, rfl, by omega, fun _ => trivial, by omega⟩
        case measure => show (2 - (1 : Int)).toNat < (2 - ((0 : Nat) : Int)).toNat; decide
      · have hb : (x == 0) = false := by simpa using hx
        have hr := HR.out
        rw [if_pos hx] at hr
        subst hr
        clear HR
        go_wp2_with fail
        go_returns
        exact ⟨rfl, rfl⟩
    · clear hi
      have hx := HX.out (by omega)
      subst hx
      have hr := HR.out
      rw [if_neg (by simp)] at hr
      subst hr
      clear HR HX
      by_cases hy : y = 0
      · subst hy
        go_wp2_with fail
        go_roundw
        case rel => exact ⟨trivial, 2, rfl, by omega, fun _ => trivial, fun _ => trivial⟩
        case measure => show (2 - (2 : Int)).toNat < (2 - ((1 : Nat) : Int)).toNat; decide
      · have hb : (y == 0) = false := by simpa using hy
        go_wp2_with fail
        go_returns
        exact ⟨rfl, rfl⟩
    · clear hi
      have hx := HX.out (by omega)
      have hy := HY.out (by omega)
      subst hx
      subst hy
      have hr := HR.out
      rw [if_neg (by simp)] at hr
      subst hr
      clear HR HX HY
      go_wp2_with fail
      go_returns
      exact ⟨rfl, rfl⟩
end
section
attribute [local go_sem ↓] setCell_drewN alloc_drewN grow_cell grow_frozen setCell_grow grow_size cell_alloc_grow frozen_alloc_grow setCell_alloc_grow cell_grow_alloc_grow frozen_grow_alloc_grow setCell_grow_alloc_grow grow_grow
attribute [local go_sem] lt_len
/-- Where the signs differ, or are nought. -/
theorem Cross136_signs (a b c d s t : Int) (hs : cmpI a 0 * cmpI b 0 = s) (ht : cmpI c 0 * cmpI d 0 = t) (h : s ≠ t ∨ s = 0) (w : World) : Calls Tryz.prog 136 #[.int .i64 a, .int .i64 b, .int .i64 c, .int .i64 d] w (RetG (.int .i64 (cmpI s t)) w) := by
  unfold RetG
  have C1 := fun w => sign185 a b w
  have C2 := fun w => sign185 c d w
  rw [hs] at C1
  rw [ht] at C2
  by_cases hst : s = t
  · subst hst
    have h0 : s = 0 := by rcases h with h | h; exact absurd rfl h; exact h
    subst h0
    clear h hs ht
    go_enter Tryz.func136, Tryz.ntmps136
    go_wp2_with fail
    refine (C1 _).mono ?_
    rintro e w' ⟨rfl, rfl⟩
    go_wp2_with fail
    refine (C2 _).mono ?_
    rintro e w' ⟨rfl, rfl⟩
    go_wp2_with fail
    refine (cmp92 0 0 _).mono ?_
    rintro e w' ⟨rfl, rfl⟩
    go_wp2_with fail
    go_returns
    exact ⟨rfl, gr_refl _⟩
  · have hb : (s == t) = false := by simpa using hst
    clear h hs ht
    go_enter Tryz.func136, Tryz.ntmps136
    go_wp2_with fail
    refine (C1 _).mono ?_
    rintro e w' ⟨rfl, rfl⟩
    go_wp2_with fail
    refine (C2 _).mono ?_
    rintro e w' ⟨rfl, rfl⟩
    go_wp2_with fail
    refine (cmp92 s t _).mono ?_
    rintro e w' ⟨rfl, rfl⟩
    go_wp2_with fail
    go_returns
    exact ⟨rfl, gr_refl _⟩
/-- Where the signs are one, and not nought. -/
theorem Cross136_same (a b c d s : Int) (m1 m2 m3 m4 : Nat) (h1 : a.natAbs = m1) (h2 : b.natAbs = m2) (h3 : c.natAbs = m3) (h4 : d.natAbs = m4) (l1 : m1 < 4294967296) (l2 : m2 < 4294967296) (l3 : m3 < 4294967296) (l4 : m4 < 4294967296)
    (hs : cmpI a 0 * cmpI b 0 = s) (ht : cmpI c 0 * cmpI d 0 = s) (h : s = 1 ∨ s = -1) (w : World) : Calls Tryz.prog 136 #[.int .i64 a, .int .i64 b, .int .i64 c, .int .i64 d] w (RetG (.int .i64 (s * cmpI ((m1 * m2 : Nat) : Int) ((m3 * m4 : Nat) : Int))) w) := by
  unfold RetG
  have C1 := fun w => sign185 a b w
  have C2 := fun w => sign185 c d w
  rw [hs] at C1
  rw [ht] at C2
  have A1 := fun w => size186 a (by omega) (by omega) w
  have A2 := fun w => size186 b (by omega) (by omega) w
  have A3 := fun w => size186 c (by omega) (by omega) w
  have A4 := fun w => size186 d (by omega) (by omega) w
  rw [h1] at A1
  rw [h2] at A2
  rw [h3] at A3
  rw [h4] at A4
  have P1 := fun w => mul_n m1 m2 l1 l2 w
  have P2 := fun w => mul_n m3 m4 l3 l4 w
  obtain ⟨p, hp⟩ : ∃ p, m1 * m2 = p := ⟨_, rfl⟩
  obtain ⟨q, hq⟩ : ∃ q, m3 * m4 = q := ⟨_, rfl⟩
  rw [hp] at P1
  rw [hq] at P2
  rw [hp, hq]
  have hr := cmpI_range (p : Int) (q : Int)
  have D1 := fun w => cmp187 0 0 w
  have D2 := fun w => cmp187 (p : Int) (q : Int) w
  have z0 : cmpI 0 0 = 0 := by decide
  rw [z0] at D1
  obtain ⟨x, hx⟩ : ∃ x, cmpI (p : Int) (q : Int) = x := ⟨_, rfl⟩
  rw [hx] at D2 hr ⊢
  have hw : IntKind.i64.wrap (s * x) = s * x := by
    rcases h with rfl | rfl
    · exact IntWalk.i64_in _ (by omega)
    · exact IntWalk.i64_in _ (by omega)
  have hb : (s == 0) = false := by rcases h with rfl | rfl <;> decide
  have hb2 : (s == s) = true := by simp
  have hs0 : ¬ s = 0 := by rcases h with rfl | rfl <;> decide
  clear hr z0 h hs ht h1 h2 h3 h4 l1 l2 l3 l4 hp hq hx
  go_enter Tryz.func136, Tryz.ntmps136
  go_wp2_with fail
  refine (C1 _).mono ?_
  rintro e w' ⟨rfl, rfl⟩
  go_wp2_with fail
  refine (C2 _).mono ?_
  rintro e w' ⟨rfl, rfl⟩
  go_wp2_with fail
  refine (A1 _).mono ?_
  rintro e w' ⟨rfl, rfl⟩
  go_wp2_with fail
  refine (A2 _).mono ?_
  rintro e w' ⟨rfl, rfl⟩
  go_wp2_with fail
  refine (P1 _).mono ?_
  rintro e w' ⟨rfl, rfl⟩
  go_wp2_with fail
  refine (A3 _).mono ?_
  rintro e w' ⟨rfl, rfl⟩
  go_wp2_with fail
  refine (A4 _).mono ?_
  rintro e w' ⟨rfl, rfl⟩
  go_wp2_with fail
  refine (P2 _).mono ?_
  rintro e w' ⟨rfl, rfl⟩
  go_wp2_with fail
  refine (D1 _).mono ?_
  rintro e w' ⟨rfl, rfl⟩
  go_wp2_with fail
  refine (D2 _).mono ?_
  rintro e w' ⟨rfl, rfl⟩
  go_wp2_with fail
  refine (Or96_two 0 x _ w.heap.size (by simp) (by rw [World.cell?_alloc_at _ _ _ _ rfl]; rfl) (by rw [World.cell?_alloc_at _ _ _ _ rfl]; rfl) 2).mono ?_
  rintro e w' ⟨rfl, rfl⟩
  rw [if_neg (by simp)]
  go_wp2_with fail
  go_returns
  exact ⟨by first | rfl | (rw [hw]) | (simp [*]; done), by repeat (first | exact gr_refl _ | apply gr_alloc | apply gr_grow | apply gr_drewN | apply gr_drew)⟩
theorem cross_sign (a b : Int) : cmpI a 0 * cmpI b 0 = cmpI (a * b) 0 := by
  have key : ∀ x : Int, cmpI x 0 = Int.sign x := fun x => by
    unfold cmpI
    rcases Int.lt_trichotomy x 0 with h | h | h
    · rw [if_pos h, Int.sign_eq_neg_one_of_neg h]
    · subst h; decide
    · rw [if_neg (by omega), if_pos h, Int.sign_eq_one_of_pos h]
  rw [key, key, key, Int.sign_mul]
end
end Go.Proofs.YtgfbfklnhmndfaaGreat
