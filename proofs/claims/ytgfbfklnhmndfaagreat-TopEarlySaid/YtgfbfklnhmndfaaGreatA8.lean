/- The parts of the top that the law of early release walks through: part 8 of 52. -/
import Derived.Test.YtgfbfklnhmndfaaGreatA1
import Derived.Test.YtgfbfklnhmndfaaGreatA2
import Derived.Test.YtgfbfklnhmndfaaGreatA4
import Derived.Test.YtgfbfklnhmndfaaGreatA6
import Derived.Test.YtgfbfklnhmndfaaGreatA7
namespace Go.Proofs.YtgfbfklnhmndfaaGreat
open Go.RowKit
set_option linter.unusedSimpArgs false
set_option linter.unusedVariables false
section
attribute [local go_sem ↓] setCell_drewN alloc_drewN grow_cell grow_frozen setCell_grow grow_size cell_alloc_grow frozen_alloc_grow setCell_alloc_grow cell_grow_alloc_grow frozen_grow_alloc_grow setCell_grow_alloc_grow grow_grow
attribute [local go_sem] lt_len
theorem cmpI_zero (x : Int) : cmpI x 0 = 1 ∧ 0 < x ∨ cmpI x 0 = -1 ∧ x < 0 ∨ cmpI x 0 = 0 ∧ x = 0 := by
  unfold cmpI
  split
  · omega
  · split <;> omega
/-- Two products compared. -/
theorem Cross136 (a b c d : Int) (l1 : a.natAbs < 4294967296) (l2 : b.natAbs < 4294967296) (l3 : c.natAbs < 4294967296) (l4 : d.natAbs < 4294967296) (w : World) : Calls Tryz.prog 136 #[.int .i64 a, .int .i64 b, .int .i64 c, .int .i64 d] w (RetG (.int .i64 (cmpI (a * b) (c * d))) w) := by
  have hs := cross_sign a b
  have ht := cross_sign c d
  have hm1 : ((a.natAbs * b.natAbs : Nat) : Int) = (a * b).natAbs := by rw [Int.natAbs_mul]
  have hm2 : ((c.natAbs * d.natAbs : Nat) : Int) = (c * d).natAbs := by rw [Int.natAbs_mul]
  have R1 := fun h => Cross136_signs a b c d _ _ hs ht h w
  have R2 := fun s h1 h2 h3 => Cross136_same a b c d s _ _ _ _ rfl rfl rfl rfl l1 l2 l3 l4 h1 h2 h3 w
  rw [hs, ht, hm1, hm2] at R2
  clear hs ht hm1 hm2
  generalize a * b = x at *
  generalize c * d = y at *
  rcases cmpI_zero x with ⟨hx, h1⟩ | ⟨hx, h1⟩ | ⟨hx, h1⟩ <;> rcases cmpI_zero y with ⟨hy, h2⟩ | ⟨hy, h2⟩ | ⟨hy, h2⟩ <;> rw [hx, hy] at R1 R2
  · have e : 1 * cmpI (x.natAbs : Int) (y.natAbs : Int) = cmpI x y := by
      rw [show ((x.natAbs : Nat) : Int) = x by omega, show ((y.natAbs : Nat) : Int) = y by omega, Int.one_mul]
    rw [← e]; exact R2 1 rfl rfl (Or.inl rfl)
  · have e : cmpI 1 (-1) = cmpI x y := by unfold cmpI; rw [if_neg (by decide), if_pos (by decide), if_neg (by omega), if_pos (by omega)]
    rw [← e]; exact R1 (Or.inl (by decide))
  · have e : cmpI 1 0 = cmpI x y := by unfold cmpI; rw [if_neg (by decide), if_pos (by decide), if_neg (by omega), if_pos (by omega)]
    rw [← e]; exact R1 (Or.inl (by decide))
  · have e : cmpI (-1) 1 = cmpI x y := by unfold cmpI; rw [if_pos (by decide), if_pos (by omega)]
    rw [← e]; exact R1 (Or.inl (by decide))
  · have e : -1 * cmpI (x.natAbs : Int) (y.natAbs : Int) = cmpI x y := by
      unfold cmpI
      rw [show ((x.natAbs : Nat) : Int) = -x by omega, show ((y.natAbs : Nat) : Int) = -y by omega]
      split <;> (try split) <;> (try split) <;> (try split) <;> omega
    rw [← e]; exact R2 (-1) rfl rfl (Or.inr rfl)
  · have e : cmpI (-1) 0 = cmpI x y := by unfold cmpI; rw [if_pos (by decide), if_pos (by omega)]
    rw [← e]; exact R1 (Or.inl (by decide))
  · have e : cmpI 0 1 = cmpI x y := by unfold cmpI; rw [if_pos (by decide), if_pos (by omega)]
    rw [← e]; exact R1 (Or.inl (by decide))
  · have e : cmpI 0 (-1) = cmpI x y := by unfold cmpI; rw [if_neg (by decide), if_pos (by decide), if_neg (by omega), if_pos (by omega)]
    rw [← e]; exact R1 (Or.inl (by decide))
  · have e : cmpI 0 0 = cmpI x y := by rw [h1, h2]
    rw [← e]; exact R1 (Or.inr rfl)
/-- Two rational numbers compared. -/
def cmpR (a b : Rat) : Int := if a < b then -1 else if b < a then 1 else 0
theorem cmpR_eq (a b : Rat) : cmpI (a.num * b.den) (b.num * a.den) = cmpR a b := by
  unfold cmpI cmpR
  by_cases h : a < b
  · rw [if_pos h, if_pos ((Rat.lt_iff a b).1 h)]
  · rw [if_neg h, if_neg (fun k => h ((Rat.lt_iff a b).2 k))]
    by_cases k : b < a
    · rw [if_pos k, if_pos ((Rat.lt_iff b a).1 k)]
    · rw [if_neg k, if_neg (fun l => k ((Rat.lt_iff b a).2 l))]
theorem Cmp97' (n1 n2 : Int) (d1 d2 : Nat) (x : Int) (M1 : ∀ W, Calls Tryz.prog 114 #[.agg #[.int .i64 n1, .int .i64 d1]] W (RetG (.bool true) W)) (M2 : ∀ W, Calls Tryz.prog 114 #[.agg #[.int .i64 n2, .int .i64 d2]] W (RetG (.bool true) W))
    (C : ∀ W, Calls Tryz.prog 136 #[.int .i64 n1, .int .i64 d2, .int .i64 n2, .int .i64 d1] W (RetG (.int .i64 x) W)) (w : World) :
    Calls Tryz.prog 97 #[.agg #[.int .i64 n1, .int .i64 d1], .agg #[.int .i64 n2, .int .i64 d2]] w (RetG (.int .i64 x) w) := by
  unfold RetG
  go_enter Tryz.func97, Tryz.ntmps97
  go_wp2_with fail
  refine (M1 _).mono ?_
  rintro e w1 ⟨rfl, os, q, rfl⟩
  go_wp2_with fail
  refine (RetG.grow M2).mono ?_
  rintro e w1 ⟨rfl, os2, q2, rfl⟩
  go_wp2_with fail
  refine (RetG.grow C).mono ?_
  rintro e w1 ⟨rfl, os3, q3, rfl⟩
  go_wp2_with fail
  go_returns
  exact ⟨rfl, by repeat (first | exact gr_refl _ | apply gr_alloc | apply gr_grow | apply gr_drewN | apply gr_drew)⟩
theorem Cmp97 (a b : Rat) (ha : Sm30 a) (hb : Sm30 b) (w : World) : Calls Tryz.prog 97 #[rv a, rv b] w (RetG (.int .i64 (cmpR a b)) w) := by
  obtain ⟨a1, a2⟩ := ha
  obtain ⟨b1, b2⟩ := hb
  rw [← cmpR_eq]
  exact Cmp97' a.num b.num a.den b.den _ (May114 a ⟨by omega, by omega⟩) (May114 b ⟨by omega, by omega⟩) (Cross136 a.num b.den b.num a.den (by omega) (by omega) (by omega) (by omega)) w
end
section
attribute [local go_sem ↓] setCell_drewN alloc_drewN grow_cell grow_frozen setCell_grow grow_size cell_alloc_grow frozen_alloc_grow setCell_alloc_grow cell_grow_alloc_grow frozen_grow_alloc_grow setCell_grow_alloc_grow grow_grow
attribute [local go_sem] lt_len
theorem signed189 (m : Nat) (hm : m < 4611686018427387904) (w : World) : Calls Tryz.prog 189 #[.int .u64 m, .bool false] w fun e w' => e = .returned (.tuple #[.int .i64 m, .int .i64 0]) ∧ w = w' := by
  have h1 : decide ((m : Int) < 9223372036854775808) = true := by simp; omega
  have h2 : IntKind.i64.wrap (m : Int) = m := IntWalk.i64_in _ (by omega)
  clear hm
  go_enter Tryz.func189, Tryz.ntmps189
  go_wp2_with fail
  go_returns
  exact ⟨by first | rfl | (simp [*]; done), rfl⟩
theorem parted188 (n d : Nat) (hn : n < 2147483648) (hd : 0 < d) (hd1 : d < 2147483648) (w : World) : Calls Tryz.prog 188 #[.int .i64 n, .int .i64 d] w fun e w' => ∃ r, e = .returned (.tuple #[.int .u64 (n / d : Nat), .bool r, .bool false]) ∧ ∃ q, w' = w.drewN q := by
  have A1 := fun w => size_n n n (by omega) (by omega) w
  have S1 := fun w => size186 n (by omega) (by omega) w
  have S2 := fun w => size186 d (by omega) (by omega) w
  rw [show ((n : Int)).natAbs = n by omega] at S1
  rw [show ((d : Int)).natAbs = d by omega] at S2
  clear A1
  have h1 : ¬ d = 0 := by omega
  have h2 : ¬ (d : Int) = 0 := by omega
  have h3 : ((d : Int) == 0) = false := by simp; omega
  have h4 : decide ((n : Int) < 0) = false := by simp
  have h5 : decide ((d : Int) < 0) = false := by simp
  obtain ⟨k, hk⟩ : ∃ k, n / d = k := ⟨_, rfl⟩
  have hkn : k ≤ n := by rw [← hk]; exact Nat.div_le_self _ _
  have hdiv : ((n : Int) / (d : Int)) = k := by rw [← hk]; exact (Int.natCast_ediv n d).symm
  have hw : IntKind.u64.wrap ((n : Int) / (d : Int)) = k := by rw [hdiv, IntKind.wrap_u64]; omega
  rw [hk]
  have HK := Lib.hid (And.intro hdiv hw)
  clear hk hkn hn hd hd1 hdiv hw
  go_enter Tryz.func188, Tryz.ntmps188
  go_wp2_with fail
  refine (S1 _).mono ?_
  rintro e w' ⟨rfl, rfl⟩
  go_wp2_with fail
  refine (S2 _).mono ?_
  rintro e w' ⟨rfl, rfl⟩
  go_wp2_with fail
  go_quiet (fail)
  go_wp2_with fail
  go_returns
  rw [HK.out.2]
  exact ⟨_, rfl, _, rfl⟩
theorem Floor139 (n d : Nat) (hn : n < 2147483648) (hd : 0 < d) (hd1 : d < 2147483648) (w : World) : Calls Tryz.prog 139 #[.int .i64 n, .int .i64 d] w fun e w' => e = .returned (.tuple #[.int .i64 (n / d : Nat), .int .i64 0]) ∧ ∃ q, w' = w.drewN q := by
  have h3 : ((d : Int) == 0) = false := by simp; omega
  have hkn : n / d ≤ n := Nat.div_le_self _ _
  have C1 := fun w => parted188 n d hn hd hd1 w
  have C2 := fun w => signed189 (n / d) (by omega) w
  obtain ⟨k, hk⟩ : ∃ k, n / d = k := ⟨_, rfl⟩
  rw [hk] at C1 C2 ⊢
  clear hk hkn hn hd hd1
  go_enter Tryz.func139, Tryz.ntmps139
  go_wp2_with fail
  refine (C1 _).mono ?_
  rintro e w' ⟨r, rfl, q, rfl⟩
  cases r
  · go_wp2_with fail
    refine (C2 _).mono ?_
    rintro e w' ⟨rfl, rfl⟩
    go_wp2_with fail
    go_returns
    exact ⟨rfl, _, rfl⟩
  · go_wp2_with fail
    refine (C2 _).mono ?_
    rintro e w' ⟨rfl, rfl⟩
    go_wp2_with fail
    go_returns
    exact ⟨rfl, _, rfl⟩
theorem Floor99' (n d : Nat) (M1 : ∀ W, Calls Tryz.prog 114 #[.agg #[.int .i64 n, .int .i64 d]] W (RetG (.bool true) W)) (hn : n < 2147483648) (hd : 0 < d) (hd1 : d < 2147483648) (w : World) : Calls Tryz.prog 99 #[.agg #[.int .i64 n, .int .i64 d]] w (RetG (.int .i64 (n / d : Nat)) w) := by
  unfold RetG
  have C1 := fun w => Floor139 n d hn hd hd1 w
  obtain ⟨k, hk⟩ : ∃ k, n / d = k := ⟨_, rfl⟩
  rw [hk] at C1 ⊢
  clear hk hn hd hd1
  go_enter Tryz.func99, Tryz.ntmps99
  go_wp2_with fail
  refine (M1 _).mono ?_
  rintro e w1 ⟨rfl, os, q, rfl⟩
  go_wp2_with fail
  refine (C1 _).mono ?_
  rintro e w' ⟨rfl, q1, rfl⟩
  go_wp2_with fail
  go_returns
  exact ⟨rfl, by repeat (first | exact gr_refl _ | apply gr_alloc | apply gr_grow | apply gr_drewN | apply gr_drew)⟩
end
end Go.Proofs.YtgfbfklnhmndfaaGreat
