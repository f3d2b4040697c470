/- The parts of the top that the law of early release walks through: part 6 of 52. -/
import Derived.Test.YtgfbfklnhmndfaaGreatA1
import Derived.Test.YtgfbfklnhmndfaaGreatA2
import Derived.Test.YtgfbfklnhmndfaaGreatA4
import Derived.Test.YtgfbfklnhmndfaaGreatA5
namespace Go.Proofs.YtgfbfklnhmndfaaGreat
open Go.RowKit
set_option linter.unusedSimpArgs false
set_option linter.unusedVariables false
section
/-- A number by its sign and its size. -/
def sg (s : Bool) (x : Nat) : Int := if s then -(x : Int) else x
/-- A size with a sign as a value. -/
def wv (s : Bool) (x : Nat) : Value := .agg #[.int .u64 0, .int .u64 x, .bool s]
theorem plusSg (a : Nat) (s : Bool) (b : Nat) (t : Bool) : sg (plusS a s b t) (plusM a s b t) = sg s a + sg t b := by
  unfold sg plusS plusM
  by_cases h : a < b <;> cases s <;> cases t <;> simp [h] <;> omega
theorem plus117 (a : Nat) (s : Bool) (b : Nat) (t : Bool) (ha : a < 4611686018427387904) (hb : b < 4611686018427387904) (w : World) : Calls Tryz.prog 117 #[wv s a, wv t b] w (RetG (wv (plusS a s b t) (plusM a s b t)) w) := by
  unfold wv plusS plusM
  by_cases hst : s = t
  · subst hst
    simp only [if_true]
    exact plus117_same a b s ha hb w
  · rw [if_neg hst, if_neg hst]
    by_cases hab : a < b
    · rw [if_pos hab, if_pos hab]
      exact plus117_less a b s t hst hab hb w
    · rw [if_neg hab, if_neg hab]
      exact plus117_more a b s t hst (by omega) ha w
theorem plusM_le (a : Nat) (s : Bool) (b : Nat) (t : Bool) : plusM a s b t ≤ a + b := by
  unfold plusM
  split <;> (try split) <;> omega
/-- A product of a number and one above nought. -/
theorem times116p (n : Int) (d : Nat) (h1 : n.natAbs < 4294967296) (h2 : d < 4294967296) (w : World) : Calls Tryz.prog 116 #[.int .i64 n, .int .i64 d] w (RetG (wv (decide (n < 0)) (n.natAbs * d)) w) := by
  have := times116 n d n.natAbs d rfl (by omega) h1 h2 w
  have e : (decide (n < 0) != decide ((d : Int) < 0)) = decide (n < 0) := by
    have : ¬ (d : Int) < 0 := by omega
    simp [this]
  rw [e] at this
  exact this
theorem sg_times (n : Int) (d : Nat) : sg (decide (n < 0)) (n.natAbs * d) = n * d := by
  unfold sg
  by_cases h : n < 0
  · have : ((n.natAbs : Nat) : Int) = -n := by omega
    simp only [h, decide_true, if_true, Int.natCast_mul, this]
    rw [Int.neg_mul, Int.neg_neg]
  · have : ((n.natAbs : Nat) : Int) = n := by omega
    simp only [h, decide_false, Bool.false_eq_true, if_false, Int.natCast_mul, this]
theorem madeSg (x y : Nat) (s : Bool) (hy : 0 < y) (hx1 : x ≤ 4611686018427387904) (hy1 : y ≤ 4611686018427387904) (w : World) : Calls Tryz.prog 115 #[wv s x, wv false y] w (RetG (.tuple #[rv (mkRat (sg s x) y), .int .i64 0]) w) := by
  have h : mkN s false x = sg s x := by unfold mkN sg; cases s <;> simp
  rw [← h]
  exact made115 x y s false hy hx1 hy1 w
/-- A rational number far from any end. -/
def Sm30 (a : Rat) : Prop := a.num.natAbs < 1073741824 ∧ a.den < 1073741824
theorem mul30 {a b : Nat} (h1 : a < 1073741824) (h2 : b < 1073741824) : a * b < 1152921504606846976 := by
  calc a * b ≤ 1073741823 * b := Nat.mul_le_mul_right _ (by omega)
    _ ≤ 1073741823 * 1073741823 := Nat.mul_le_mul_left _ (by omega)
    _ < 1152921504606846976 := by decide
theorem den_false (d1 d2 : Nat) (h1 : d1 < 4294967296) (h2 : d2 < 4294967296) (w : World) : Calls Tryz.prog 116 #[.int .i64 d1, .int .i64 d2] w (RetG (wv false (d1 * d2)) w) := by
  have := times116p (d1 : Int) d2 (by omega) h2 w
  have e : decide ((d1 : Int) < 0) = false := by
    have : ¬ (d1 : Int) < 0 := by omega
    simp [this]
  rw [e] at this
  exact this
theorem Add74 (a b : Rat) (ha : Sm30 a) (hb : Sm30 b) (w : World) : Calls Tryz.prog 74 #[rv a, rv b] w (RetG (.tuple #[rv (a + b), .int .i64 0]) w) := by
  obtain ⟨a1, a2⟩ := ha
  obtain ⟨b1, b2⟩ := hb
  have e : a + b = mkRat (sg (plusS (a.num.natAbs * b.den) (decide (a.num < 0)) (b.num.natAbs * a.den) (decide (b.num < 0))) (plusM (a.num.natAbs * b.den) (decide (a.num < 0)) (b.num.natAbs * a.den) (decide (b.num < 0)))) (a.den * b.den) := by
    rw [plusSg, sg_times, sg_times, Rat.add_def, Rat.normalize_eq_mkRat]
  have m1 := mul30 a1 b2
  have m2 := mul30 b1 a2
  have m3 := mul30 a2 b2
  have m4 := plusM_le (a.num.natAbs * b.den) (decide (a.num < 0)) (b.num.natAbs * a.den) (decide (b.num < 0))
  have hd := Nat.mul_pos a.den_pos b.den_pos
  rw [e]
  exact Add74' a.num b.num a.den b.den (May114 a ⟨by omega, by omega⟩) (May114 b ⟨by omega, by omega⟩) _ _ _ _
    (times116p a.num b.den (by omega) (by omega)) (times116p b.num a.den (by omega) (by omega))
    (plus117 _ _ _ _ (by omega) (by omega)) (den_false a.den b.den (by omega) (by omega)) _ _ _
    (madeSg _ _ _ hd (by omega) (by omega)) w
theorem sg_not (s : Bool) (x : Nat) : sg (!s) x = -sg s x := by unfold sg; cases s <;> simp
theorem Sub102 (a b : Rat) (ha : Sm30 a) (hb : Sm30 b) (w : World) : Calls Tryz.prog 102 #[rv a, rv b] w (RetG (.tuple #[rv (a - b), .int .i64 0]) w) := by
  obtain ⟨a1, a2⟩ := ha
  obtain ⟨b1, b2⟩ := hb
  have e : a - b = mkRat (sg (plusS (a.num.natAbs * b.den) (decide (a.num < 0)) (b.num.natAbs * a.den) (!decide (b.num < 0))) (plusM (a.num.natAbs * b.den) (decide (a.num < 0)) (b.num.natAbs * a.den) (!decide (b.num < 0)))) (a.den * b.den) := by
    rw [plusSg, sg_not, sg_times, sg_times, Rat.sub_def, Rat.normalize_eq_mkRat, Int.sub_eq_add_neg]
  have m1 := mul30 a1 b2
  have m2 := mul30 b1 a2
  have m3 := mul30 a2 b2
  have m4 := plusM_le (a.num.natAbs * b.den) (decide (a.num < 0)) (b.num.natAbs * a.den) (!decide (b.num < 0))
  have hd := Nat.mul_pos a.den_pos b.den_pos
  rw [e]
  exact Sub102' a.num b.num a.den b.den (May114 a ⟨by omega, by omega⟩) (May114 b ⟨by omega, by omega⟩) _ _ _ _ _
    (times116p a.num b.den (by omega) (by omega)) (times116p b.num a.den (by omega) (by omega))
    (plus117 _ _ _ _ (by omega) (by omega)) (den_false a.den b.den (by omega) (by omega)) _ _ _
    (madeSg _ _ _ hd (by omega) (by omega)) w
theorem sg_mul (n m : Int) : sg (decide (n < 0) != decide (m < 0)) (n.natAbs * m.natAbs) = n * m := by
  unfold sg
  by_cases h : n < 0 <;> by_cases k : m < 0
  · have e1 : ((n.natAbs : Nat) : Int) = -n := by omega
    have e2 : ((m.natAbs : Nat) : Int) = -m := by omega
    simp [h, k, Int.natCast_mul, e1, e2, Int.neg_mul, Int.mul_neg]
  · have e1 : ((n.natAbs : Nat) : Int) = -n := by omega
    have e2 : ((m.natAbs : Nat) : Int) = m := by omega
    simp [h, k, Int.natCast_mul, e1, e2, Int.neg_mul, Int.mul_neg]
  · have e1 : ((n.natAbs : Nat) : Int) = n := by omega
    have e2 : ((m.natAbs : Nat) : Int) = -m := by omega
    simp [h, k, Int.natCast_mul, e1, e2, Int.neg_mul, Int.mul_neg]
  · have e1 : ((n.natAbs : Nat) : Int) = n := by omega
    have e2 : ((m.natAbs : Nat) : Int) = m := by omega
    simp [h, k, Int.natCast_mul, e1, e2, Int.neg_mul, Int.mul_neg]
theorem Mul207r (a b : Rat) (ha : Sm30 a) (hb : Sm30 b) (w : World) : Calls Tryz.prog 207 #[rv a, rv b] w (RetG (.tuple #[rv (a * b), .int .i64 0]) w) := by
  obtain ⟨a1, a2⟩ := ha
  obtain ⟨b1, b2⟩ := hb
  have e : a * b = mkRat (sg (decide (a.num < 0) != decide (b.num < 0)) (a.num.natAbs * b.num.natAbs)) (a.den * b.den) := by
    rw [sg_mul, Rat.mul_def, Rat.normalize_eq_mkRat]
  have m1 := mul30 a1 b1
  have m3 := mul30 a2 b2
  have hd := Nat.mul_pos a.den_pos b.den_pos
  rw [e]
  exact Mul207 a.num b.num a.den b.den (May114 a ⟨by omega, by omega⟩) (May114 b ⟨by omega, by omega⟩) _ _
    (times116 a.num b.num _ _ rfl rfl (by omega) (by omega)) (den_false a.den b.den (by omega) (by omega)) _ _ _
    (madeSg _ _ _ hd (by omega) (by omega)) w
end
end Go.Proofs.YtgfbfklnhmndfaaGreat
