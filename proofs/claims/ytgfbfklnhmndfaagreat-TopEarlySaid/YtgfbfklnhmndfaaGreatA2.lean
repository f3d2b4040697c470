/- The parts of the top that the law of early release walks through: part 2 of 52. -/
import Derived.Test.YtgfbfklnhmndfaaGreatA1
namespace Go.Proofs.YtgfbfklnhmndfaaGreat
open Go.RowKit
set_option linter.unusedSimpArgs false
set_option linter.unusedVariables false
section
attribute [local go_sem ↓] setCell_drewN alloc_drewN grow_cell grow_frozen setCell_grow grow_size cell_alloc_grow frozen_alloc_grow setCell_alloc_grow cell_grow_alloc_grow frozen_grow_alloc_grow setCell_grow_alloc_grow
attribute [local go_sem] lt_len
theorem ret_two {a b c d : Int} (h : a = b) (k : c = d) : Ending.returned (.tuple #[.int .u64 a, .int .u64 c]) = .returned (.tuple #[.int .u64 b, .int .u64 d]) := by rw [h, k]
/-- One number by another one, above which nothing stands. -/
theorem div202 (a b : Nat) (hb : 0 < b) (ha : a < 18446744073709551616) (hb2 : b < 18446744073709551616) (w : World) : Calls Tryz.prog 202 #[.int .u64 0, .int .u64 a, .int .u64 b] w fun e w' => e = .returned (.tuple #[.int .u64 (a / b : Nat), .int .u64 (a % b : Nat)]) ∧ ∃ q, w' = w.drewN q := by
  have hb0 : ((b : Int) == 0) = false := by simp; omega
  have hb1 : ¬ b = 0 := by omega
  have hb3 : decide ((b : Int) ≤ 0) = false := by simp; omega
  have hb4 : (0 : Int) < b := by omega
  have hb5 : ¬ (b : Int) = 0 := by omega
  go_enter Tryz.func202, Tryz.ntmps202
  go_wp2_with fail
  go_quiet (fail)
  go_wp2_with fail
  go_returns
  refine ⟨ret_two ?_ ?_, nq, rfl⟩
  · have h1 : a / b ≤ a := Nat.div_le_self _ _
    have h2 : ((a : Int) / (b : Int)) = ((a / b : Nat) : Int) := (Int.natCast_ediv a b).symm
    rw [h2]
    rw [IntKind.wrap_u64]
    generalize a / b = c at h1
    omega
  · exact (Int.natCast_emod a b).symm
/-- A remainder of sizes. -/
theorem mod201 (a b : Nat) (s t : Bool) (hb : 0 < b) (ha : a < 18446744073709551616) (hb2 : b < 18446744073709551616) (w : World) : Calls Tryz.prog 201 #[.agg #[.int .u64 0, .int .u64 a, .bool s], .agg #[.int .u64 0, .int .u64 b, .bool t]] w (RetG (.agg #[.int .u64 0, .int .u64 (a % b : Nat), .bool false]) w) := by
  unfold RetG
  have hb1 : ¬ b = 0 := by omega
  have hb5 : ¬ (b : Int) = 0 := by omega
  have hb6 : ((b : Int) == 0) = false := by simp; omega
  go_enter Tryz.func201, Tryz.ntmps201
  go_wp2_with fail
  go_quiet ((go_at_call 202; exact Calls.quiet_of (div202 a b hb ha hb2 _)))
  go_wp2_with fail
  go_returns
  exact ⟨by rw [Int.natCast_emod], grow3 ..⟩
theorem zero_yesG (s : Bool) (w : World) : Calls Tryz.prog 150 #[.agg #[.int .u64 0, .int .u64 0, .bool s]] w (RetG (.bool true) w) := by
  unfold RetG
  go_enter Tryz.func150, Tryz.ntmps150
  go_wp2_with fail
  go_returns
  exact ⟨rfl, grow1n ..⟩
theorem zero_noG (a : Nat) (ha : 0 < a) (s : Bool) (w : World) : Calls Tryz.prog 150 #[.agg #[.int .u64 0, .int .u64 a, .bool s]] w (RetG (.bool false) w) := by
  unfold RetG
  have hb : ((a : Int) == 0) = false := by simp; omega
  go_enter Tryz.func150, Tryz.ntmps150
  go_wp2_with fail
  go_returns
  exact ⟨rfl, grow1n ..⟩
theorem cells3 (w : World) (A C : Obj) (a0 a1 a2 : Value) (t : TypeId) (os : List Obj) (q : Nat) : (grow (((w.alloc A).alloc (.cells #[a0, a1, a2] t)).alloc C) os q).cell? ⟨w.heap.size + 1, 1, none⟩ = some a1 := by
  rw [grow_cell _ _ _ _ _ (by simp), World.cell?_alloc_past _ _ _ (by simp), World.cell?_alloc_at _ _ _ _ (by simp)]
  rfl
theorem gcd_meas (w : World) (A A' C : Obj) (s s' : Bool) (x y : Nat) (hy : 0 < y) (os os' : List Obj) (q q' : Nat) :
    (intOf (((grow (((w.alloc A).alloc (.cells #[.int .u64 0, .int .u64 ((x : Int) % (y : Int)), .bool s] 218)).alloc C) os q).cell? ⟨w.heap.size + 1, 1, none⟩).getD undef)).toNat <
    (intOf (((grow (((w.alloc A').alloc (.cells #[.int .u64 0, .int .u64 y, .bool s'] 218)).alloc C) os' q').cell? ⟨w.heap.size + 1, 1, none⟩).getD undef)).toNat := by
  rw [cells3, cells3]
  have := Nat.mod_lt x hy
  have h2 : ((x : Int) % (y : Int)) = ((x % y : Nat) : Int) := (Int.natCast_emod x y).symm
  show ((x : Int) % (y : Int)).toNat < ((y : Int)).toNat
  rw [h2]
  omega
theorem gcd_world (w : World) (x y : Nat) (s t : Bool) (C : Obj) (os : List Obj) (q : Nat) : grow (((w.alloc (.cells #[.int .u64 0, .int .u64 y, .bool t] 218)).alloc (.cells #[.int .u64 0, .int .u64 (x % y : Nat), .bool s] 218)).alloc C) os q = grow (((w.alloc (.cells #[.int .u64 0, .int .u64 y, .bool t] 218)).alloc (.cells #[.int .u64 0, .int .u64 ((x : Int) % (y : Int)), .bool s] 218)).alloc C) os q := by
  rw [Int.natCast_emod]
theorem gcd_step {x y G : Nat} (hy : 0 < y) (h : Nat.gcd x y = G) : Nat.gcd y (x % y) = G := by
  rw [← h, Nat.gcd_comm x y, Nat.gcd_rec y x, Nat.gcd_comm]
set_option maxHeartbeats 4000000 in
/-- The greatest size that divides both. -/
theorem gcd151 (a b : Nat) (s t : Bool) (ha : a < 18446744073709551616) (hb : b < 18446744073709551616) (w : World) : Calls Tryz.prog 151 #[.agg #[.int .u64 0, .int .u64 a, .bool s], .agg #[.int .u64 0, .int .u64 b, .bool t]] w (RetG (.agg #[.int .u64 0, .int .u64 (Nat.gcd a b : Nat), .bool false]) w) := by
  unfold RetG
  obtain ⟨G, hG⟩ : ∃ G, Nat.gcd a b = G := ⟨_, rfl⟩
  rw [hG]
  have HG := Lib.hid hG
  clear hG
  go_enter Tryz.func151, Tryz.ntmps151
  go_wp2_with fail
  go_loopw [7] (fun _ wr => ∃ (x y : Nat) (s t : Bool) (os : List Obj) (q : Nat), grow (((w.alloc (.cells #[.int .u64 0, .int .u64 x, .bool s] 218)).alloc (.cells #[.int .u64 0, .int .u64 y, .bool t] 218)).alloc (.cells #[.int .u64 0, .int .u64 0, .bool false] 218)) os q = wr ∧ x < 18446744073709551616 ∧ y < 18446744073709551616 ∧ Nat.gcd x y = G) (fun _ wr => (intOf ((wr.cell? ⟨w.heap.size + 1, 1, none⟩).getD undef)).toNat)
  case atStart => exact ⟨a, b, s, t, [], 0, grow_zero _, ha, hb, HG.out⟩
  case round =>
    obtain ⟨x, y, s', t', os, q, rfl, hx, hy, hg⟩ := hrel
    have HGG := Lib.hid hg
    clear hg HG
    by_cases h0 : 0 < y
    · go_wp2_with fail
      refine (RetG.grow (zero_noG y h0 t')).mono ?_
      rintro en w1 ⟨rfl, os1, q1, rfl⟩
      go_wp2_with fail
      go_region_with (first | (go_at_call 201; refine (RetG.drew (mod201 x y s' t' h0 hx hy)).mono ?_; rintro en w2 ⟨rfl, os2, q2, rfl⟩))
      all_goals go_roundw
      all_goals first
        | exact gcd_meas _ _ _ _ _ _ _ _ h0 _ _ _ _
        | exact ⟨_, _, _, _, _, _, _, ⟨y, x % y, t', false, os2, q2, gcd_world .., hy, Nat.lt_trans (Nat.mod_lt x h0) hy, gcd_step h0 HGG.out⟩, rfl⟩
    · have hy0 : y = 0 := by omega
      subst hy0
      go_wp2_with fail
      refine (RetG.grow (zero_yesG t')).mono ?_
      rintro en w1 ⟨rfl, os1, q1, rfl⟩
      go_wp2_with fail
      go_returns
      have hx0 := HGG.out
      rw [Nat.gcd_zero_right] at hx0
      subst hx0
      exact ⟨rfl, grow3g ..⟩
end
section
attribute [local go_sem ↓] setCell_drewN alloc_drewN grow_cell grow_frozen setCell_grow grow_size cell_alloc_grow frozen_alloc_grow setCell_alloc_grow cell_grow_alloc_grow frozen_grow_alloc_grow setCell_grow_alloc_grow
attribute [local go_sem] lt_len
/-- A rational number as a value. -/
def rv (q : Rat) : Value := .agg #[.int .i64 q.num, .int .i64 q.den]
theorem ret_tup {a b : Int} {v : Value} (h : a = b) : Ending.returned (.tuple #[.int .u64 a, v]) = .returned (.tuple #[.int .u64 b, v]) := by rw [h]
/-- A size by one. -/
theorem by152 (a b : Nat) (s t : Bool) (hb : 0 < b) (ha : a < 18446744073709551616) (hb2 : b < 18446744073709551616) (w : World) : Calls Tryz.prog 152 #[.agg #[.int .u64 0, .int .u64 a, .bool s], .agg #[.int .u64 0, .int .u64 b, .bool t]] w (RetG (.tuple #[.int .u64 (a / b : Nat), .bool true]) w) := by
  unfold RetG
  have hb4 : (0 : Int) < b := by omega
  have hd : decide ((0 : Int) < b) = true := by simpa using hb4
  go_enter Tryz.func152, Tryz.ntmps152
  go_wp2_with fail
  refine (div202 a b hb ha hb2 _).mono ?_
  rintro e w1 ⟨rfl, q1, rfl⟩
  go_wp2_with fail
  go_returns
  exact ⟨ret_tup (Int.natCast_ediv a b).symm, grow2 ..⟩
theorem Gcd149 (a b : Int) (h0 : -4611686018427387904 ≤ a) (h1 : a ≤ 4611686018427387904) (h2 : -4611686018427387904 ≤ b) (h3 : b ≤ 4611686018427387904) (w : World) : Calls Tryz.prog 149 #[.int .i64 a, .int .i64 b] w fun e w' => e = .returned (.int .i64 (Nat.gcd a.natAbs b.natAbs : Nat)) ∧ ∃ q, w' = w.drewN q := by
  obtain ⟨G, hG⟩ : ∃ G, Nat.gcd a.natAbs b.natAbs = G := ⟨_, rfl⟩
  rw [hG]
  have HG := Lib.hid hG
  obtain ⟨A, hA⟩ : ∃ A, a.natAbs = A := ⟨_, rfl⟩
  obtain ⟨B, hB⟩ : ∃ B, b.natAbs = B := ⟨_, rfl⟩
  have HA := Lib.hid hA
  have HB := Lib.hid hB
  have hAl : A ≤ 4611686018427387904 := by omega
  have hBl : B ≤ 4611686018427387904 := by omega
  have HBa := Lib.hid (And.intro (And.intro h0 h1) (And.intro h2 h3))
  clear hG hA hB h0 h1 h2 h3
  go_enter Tryz.func149, Tryz.ntmps149
  go_wp2_with fail
  refine (size186 a HBa.out.1.1 HBa.out.1.2 _).mono ?_
  rintro e w' ⟨rfl, rfl⟩
  rw [HA.out]
  go_wp2_with fail
  refine (size186 b HBa.out.2.1 HBa.out.2.2 _).mono ?_
  rintro e w' ⟨rfl, rfl⟩
  rw [HB.out]
  go_wp2_with fail
  go_loopw [5, 6] (fun v5 v6 wr => ∃ (x y : Nat), v5 = .int .u64 x ∧ v6 = .int .u64 y ∧ x ≤ 4611686018427387904 ∧ y ≤ 4611686018427387904 ∧ Nat.gcd x y = G ∧ ∃ q, wr = w.drewN q) (fun _ v6 _ => (intOf v6).toNat)
  case atStart => exact ⟨A, B, rfl, rfl, hAl, hBl, by rw [← HA.out, ← HB.out]; exact HG.out, 0, rfl⟩
  case round =>
    obtain ⟨x, y, rfl, rfl, hx, hy, hg, q, rfl⟩ := hrel
    have HGG := Lib.hid hg
    clear hg HG HA HB HBa hAl hBl
    by_cases h0 : 0 < y
    · have hy1 : ¬ y = 0 := by omega
      have hy2 : ¬ (y : Int) = 0 := by omega
      have hb : ((y : Int) == 0) = false := by simp; omega
      have HX := Lib.hid (And.intro hx hy)
      clear hx hy
      go_wp2_with fail
      go_quiet (fail)
      go_wp2_with fail
      go_roundw
      case rel =>
        exact ⟨y, x % y, rfl, by rw [Int.natCast_emod], HX.out.2, Nat.le_trans (Nat.le_of_lt (Nat.mod_lt x h0)) HX.out.2, gcd_step h0 HGG.out, _, World.drewN_drewN ..⟩
      case measure =>
        have h1 := Nat.mod_lt x h0
        have h2 : ((x : Int) % (y : Int)) = ((x % y : Nat) : Int) := (Int.natCast_emod x y).symm
        show ((x : Int) % (y : Int)).toNat < ((y : Int)).toNat
        rw [h2]
        omega
    · have hy0 : y = 0 := by omega
      subst hy0
      have hd : decide ((9223372036854775807 : Int) < x) = false := by simp; omega
      go_wp2_with fail
      go_returns
      have hx0 := HGG.out
      rw [Nat.gcd_zero_right] at hx0
      subst hx0
      refine ⟨?_, _, rfl⟩
      first | rfl | (simp; done) | (rw [show wrap64 ((x : Nat) : Int) = (x : Int) from by unfold wrap64; omega])
theorem May114' (n : Int) (d : Nat) (hd0 : 0 < d) (h0 : -4611686018427387904 ≤ n) (h1 : n ≤ 4611686018427387904) (h3 : d ≤ 4611686018427387904) (hg : Nat.gcd n.natAbs d = 1) (w : World) : Calls Tryz.prog 114 #[.agg #[.int .i64 n, .int .i64 d]] w (RetG (.bool true) w) := by
  unfold RetG
  have hd2 : decide ((0 : Int) < d) = true := by simp; omega
  have hd3 : (0 : Int) < d := by omega
  have C := fun w => Gcd149 n d h0 h1 (by omega) (by omega) w
  rw [show Nat.gcd n.natAbs ((d : Int).natAbs) = 1 from hg] at C
  clear hg h0 h1 h3
  go_enter Tryz.func114, Tryz.ntmps114
  go_wp2_with fail
  refine (C _).mono ?_
  rintro e w1 ⟨rfl, q, rfl⟩
  go_wp2_with fail
  go_returns
  exact ⟨rfl, grow1 ..⟩
/-- A rational number that is small. -/
def Sml (a : Rat) : Prop := a.num.natAbs < 2147483648 ∧ a.den < 2147483648
theorem May114 (a : Rat) (h : Sml a) (w : World) : Calls Tryz.prog 114 #[rv a] w (RetG (.bool true) w) := by
  obtain ⟨h1, h2⟩ := h
  exact May114' a.num a.den a.den_pos (by omega) (by omega) (by omega) a.reduced w
/-- A fraction in lowest terms. -/
def mkN (s t : Bool) (x : Nat) : Int := if s = t then x else -x
theorem rv_mk (i : Int) (y : Nat) (hy : 0 < y) : rv (mkRat i y) = .agg #[.int .i64 (i / (Nat.gcd i.natAbs y : Nat)), .int .i64 ((y / Nat.gcd i.natAbs y : Nat) : Int)] := by
  rw [← Rat.normalize_eq_mkRat (by omega), Rat.normalize_eq]
  rfl
theorem made115_zero (y : Nat) (s t : Bool) (w : World) : Calls Tryz.prog 115 #[.agg #[.int .u64 0, .int .u64 0, .bool s], .agg #[.int .u64 0, .int .u64 y, .bool t]] w (RetG (.tuple #[rv 0, .int .i64 0]) w) := by
  unfold RetG
  go_enter Tryz.func115, Tryz.ntmps115
  go_wp2_with fail
  refine (zero_yesG s _).mono ?_
  rintro e w1 ⟨rfl, os, q, rfl⟩
  go_wp2_with fail
  go_returns
  exact ⟨rfl, grow3g ..⟩
theorem neg_u64 (x : Int) (h0 : 0 < x) (h1 : x ≤ 4611686018427387904) : IntKind.i64.wrap (IntKind.u64.wrap (-x)) = -x := by
  rw [IntKind.wrap_u64, IntKind.wrap_i64]
  omega
theorem made115_some (x y : Nat) (s t : Bool) (hx : 0 < x) (hy : 0 < y) (hx1 : x ≤ 4611686018427387904) (hy1 : y ≤ 4611686018427387904) (w : World) : Calls Tryz.prog 115 #[.agg #[.int .u64 0, .int .u64 x, .bool s], .agg #[.int .u64 0, .int .u64 y, .bool t]] w (RetG (.tuple #[rv (mkRat (mkN s t x) y), .int .i64 0]) w) := by
  have hR := rv_mk (mkN s t x) y hy
  have hA : (mkN s t x).natAbs = x := by unfold mkN; split <;> omega
  rw [hA] at hR
  rw [hR]
  unfold RetG
  have hG0 : 0 < Nat.gcd x y := Nat.gcd_pos_of_pos_left _ hx
  have hGx : Nat.gcd x y ≤ x := Nat.gcd_le_left _ hx
  obtain ⟨G, hG⟩ : ∃ G, Nat.gcd x y = G := ⟨_, rfl⟩
  rw [hG] at hG0 hGx ⊢
  obtain ⟨X, hX⟩ : ∃ X, x / G = X := ⟨_, rfl⟩
  obtain ⟨D, hD⟩ : ∃ D, y / G = D := ⟨_, rfl⟩
  have hXx : X ≤ x := by rw [← hX]; exact Nat.div_le_self _ _
  have hDy : D ≤ y := by rw [← hD]; exact Nat.div_le_self _ _
  have hX0 : 0 < X := by rw [← hX]; exact Nat.div_pos hGx hG0
  have hdvd : G ∣ x := by rw [← hG]; exact Nat.gcd_dvd_left _ _
  have hN : mkN s t x / (G : Nat) = mkN s t X := by
    unfold mkN
    split
    · rw [← hX]; exact (Int.natCast_ediv x G).symm
    · rw [← hX, Int.neg_ediv_of_dvd (Int.natCast_dvd_natCast.2 hdvd), Int.natCast_ediv]
  rw [hN, hD]
  have CG : ∀ W, Calls Tryz.prog 151 #[.agg #[.int .u64 0, .int .u64 x, .bool s], .agg #[.int .u64 0, .int .u64 y, .bool t]] W (RetG (.agg #[.int .u64 0, .int .u64 (G : Nat), .bool false]) W) := fun W => by
    rw [← hG]; exact gcd151 x y s t (by omega) (by omega) W
  have CX : ∀ W, Calls Tryz.prog 152 #[.agg #[.int .u64 0, .int .u64 x, .bool s], .agg #[.int .u64 0, .int .u64 G, .bool false]] W (RetG (.tuple #[.int .u64 (X : Nat), .bool true]) W) := fun W => by
    rw [← hX]; exact by152 x G s false hG0 (by omega) (by omega) W
  have CD : ∀ W, Calls Tryz.prog 152 #[.agg #[.int .u64 0, .int .u64 y, .bool t], .agg #[.int .u64 0, .int .u64 G, .bool false]] W (RetG (.tuple #[.int .u64 (D : Nat), .bool true]) W) := fun W => by
    rw [← hD]; exact by152 y G t false hG0 (by omega) (by omega) W
  have d1 : decide ((9223372036854775807 : Int) < D) = false := by simp; omega
  have d2 : decide ((X : Int) ≤ 9223372036854775808) = true := by simp; omega
  have d3 : decide ((X : Int) ≤ 9223372036854775807) = true := by simp; omega
  have wD : IntKind.i64.wrap (D : Int) = D := Go.IntWalk.i64_in _ (by omega)
  have wX : IntKind.i64.wrap (X : Int) = X := Go.IntWalk.i64_in _ (by omega)
  have wN : IntKind.i64.wrap (IntKind.u64.wrap (-(X : Int))) = -(X : Int) := neg_u64 X (by omega) (by omega)
  have CZ := fun W => zero_noG x hx s W
  clear hR hA hG hG0 hGx hX hD hXx hDy hX0 hdvd hN hx hy hx1 hy1
  by_cases hst : s = t
  · subst hst
    have hm : mkN s s X = X := by unfold mkN; simp
    rw [hm]
    have hb : (s == s) = true := by simp
    have hb2 : (s != s) = false := by simp
    clear hm
    go_enter Tryz.func115, Tryz.ntmps115
    go_wp2_with fail
    refine (CZ _).mono ?_
    rintro e w1 ⟨rfl, os, q, rfl⟩
    go_wp2_with fail
    refine (RetG.grow CG).mono ?_
    rintro e w1 ⟨rfl, os1, q1, rfl⟩
    go_wp2_with fail
    refine (CX _).mono ?_
    rintro e w1 ⟨rfl, os2, q2, rfl⟩
    go_wp2_with fail
    refine (RetG.grow CD).mono ?_
    rintro e w1 ⟨rfl, os3, q3, rfl⟩
    go_wp2_with fail
    go_returns
    exact ⟨rfl, by repeat (first | exact gr_refl _ | apply gr_alloc | apply gr_grow | apply gr_drewN | apply gr_drew)⟩
  · have hm : mkN s t X = -X := by unfold mkN; rw [if_neg hst]
    rw [hm]
    have hb2 : (s != t) = true := by simpa using hst
    have hb1 : (s == t) = false := by simpa using hst
    clear hm
    go_enter Tryz.func115, Tryz.ntmps115
    go_wp2_with fail
    refine (CZ _).mono ?_
    rintro e w1 ⟨rfl, os, q, rfl⟩
    go_wp2_with fail
    refine (RetG.grow CG).mono ?_
    rintro e w1 ⟨rfl, os1, q1, rfl⟩
    go_wp2_with fail
    refine (CX _).mono ?_
    rintro e w1 ⟨rfl, os2, q2, rfl⟩
    go_wp2_with fail
    refine (RetG.grow CD).mono ?_
    rintro e w1 ⟨rfl, os3, q3, rfl⟩
    go_wp2_with fail
    go_returns
    exact ⟨rfl, by repeat (first | exact gr_refl _ | apply gr_alloc | apply gr_grow | apply gr_drewN | apply gr_drew)⟩
/-- A fraction in lowest terms, whatever stands above. -/
theorem made115 (x y : Nat) (s t : Bool) (hy : 0 < y) (hx1 : x ≤ 4611686018427387904) (hy1 : y ≤ 4611686018427387904) (w : World) : Calls Tryz.prog 115 #[.agg #[.int .u64 0, .int .u64 x, .bool s], .agg #[.int .u64 0, .int .u64 y, .bool t]] w (RetG (.tuple #[rv (mkRat (mkN s t x) y), .int .i64 0]) w) := by
  rcases Nat.eq_zero_or_pos x with rfl | hx
  · have h : mkRat (mkN s t 0) y = 0 := by
      have : mkN s t 0 = 0 := by unfold mkN; split <;> rfl
      rw [this, Rat.zero_mkRat]
    rw [h]
    exact made115_zero y s t w
  · exact made115_some x y s t hx hy hx1 hy1 w
end
section
attribute [local go_sem ↓] setCell_drewN alloc_drewN grow_cell grow_frozen setCell_grow grow_size cell_alloc_grow frozen_alloc_grow setCell_alloc_grow cell_grow_alloc_grow frozen_grow_alloc_grow setCell_grow_alloc_grow
attribute [local go_sem] lt_len
/-- One number by another one above nought, as a fraction. -/
theorem Of118 (n : Int) (d : Nat) (hd : 0 < d) (hn1 : n.natAbs < 2147483648) (hd1 : d < 2147483648) (w : World) : Calls Tryz.prog 118 #[.int .i64 n, .int .i64 d] w (RetG (.tuple #[rv (mkRat n d), .int .i64 0]) w) := by
  unfold RetG
  have hb : ((d : Int) == 0) = false := by simp; omega
  have hN : mkN (decide (n < 0)) false n.natAbs = n := by
    unfold mkN
    by_cases h : n < 0
    · rw [if_neg (by simpa using h)]; omega
    · rw [if_pos (by simpa using h)]; omega
  have e1 : (decide (n < 0) != decide ((1 : Int) < 0)) = decide (n < 0) := by simp
  have e2 : (decide ((d : Int) < 0) != decide ((1 : Int) < 0)) = false := by
    have : ¬ (d : Int) < 0 := by omega
    simp [this]
  have C1 : ∀ W, Calls Tryz.prog 116 #[.int .i64 n, .int .i64 1] W (RetG (.agg #[.int .u64 0, .int .u64 (n.natAbs : Nat), .bool (decide (n < 0))]) W) := fun W => by
    have := times116 n 1 n.natAbs 1 rfl rfl (by omega) (by omega) W
    rw [Nat.mul_one, e1] at this
    exact this
  have C2 : ∀ W, Calls Tryz.prog 116 #[.int .i64 d, .int .i64 1] W (RetG (.agg #[.int .u64 0, .int .u64 (d : Nat), .bool false]) W) := fun W => by
    have := times116 d 1 d 1 (by omega) rfl (by omega) (by omega) W
    rw [Nat.mul_one, e2] at this
    exact this
  have C3 : ∀ W, Calls Tryz.prog 115 #[.agg #[.int .u64 0, .int .u64 (n.natAbs : Nat), .bool (decide (n < 0))], .agg #[.int .u64 0, .int .u64 (d : Nat), .bool false]] W (RetG (.tuple #[rv (mkRat n d), .int .i64 0]) W) := fun W => by
    have := made115 n.natAbs d (decide (n < 0)) false hd (by omega) (by omega) W
    rw [hN] at this
    exact this
  obtain ⟨m, hm⟩ : ∃ m, n.natAbs = m := ⟨_, rfl⟩
  obtain ⟨s, hs⟩ : ∃ s, decide (n < 0) = s := ⟨_, rfl⟩
  obtain ⟨R, hR⟩ : ∃ R, mkRat n d = R := ⟨_, rfl⟩
  rw [hm, hs] at C1
  rw [hm, hs, hR] at C3
  rw [hR]
  unfold rv at *
  clear hm hs hR e1 e2 hN hd hn1 hd1
  go_enter Tryz.func118, Tryz.ntmps118
  go_wp2_with fail
  refine (C1 _).mono ?_
  rintro e w1 ⟨rfl, os, q, rfl⟩
  go_wp2_with fail
  refine (RetG.grow C2).mono ?_
  rintro e w1 ⟨rfl, os2, q2, rfl⟩
  go_wp2_with fail
  refine (RetG.grow C3).mono ?_
  rintro e w1 ⟨rfl, os3, q3, rfl⟩
  go_wp2_with fail
  go_returns
  exact ⟨rfl, by repeat (first | exact gr_refl _ | apply gr_alloc | apply gr_grow | apply gr_drewN | apply gr_drew)⟩
end
end Go.Proofs.YtgfbfklnhmndfaaGreat
