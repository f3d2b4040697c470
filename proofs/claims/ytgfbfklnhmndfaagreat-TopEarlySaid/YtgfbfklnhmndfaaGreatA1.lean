/- The parts of the top that the law of early release walks through: part 1 of 52. -/
import Derived.Test.YtgfbfklnhmndfaaGreatRows
import Derived.WalkKit
import Derived.WalkLawsBesides
import Derived.OneCell
import Derived.Outline
import Derived.RowKit3
import Derived.Handy
import Derived.Laws.StructEq
import Derived.Laws.BitsAllLaws
import Derived.Lib.Hide
import Derived.IntWalk
import Derived.Deep.QuietTactic
import Derived.BigQuiet
import Derived.Deep.RegionHeld3
import Derived.Deep.DrawnRows
namespace Go.Proofs.YtgfbfklnhmndfaaGreat
open Go.RowKit
set_option linter.unusedSimpArgs false
set_option linter.unusedVariables false
theorem zA (l : List Value) (i : Nat) (a : Value) : l.toArray.setIfInBounds i a = (l.set i a).toArray := by simp
theorem zB (x : Value) (l : List Value) (a : Value) : (x :: l).set 0 a = a :: l := rfl
theorem zC (x : Value) (l : List Value) (n : Nat) (a : Value) : (x :: l).set (n + 1) a = x :: l.set n a := rfl
section
theorem tr {w W w1 : World} (h : Below w.heap.size w W) (hb : Below W.heap.size W w1) : Below w.heap.size w w1 := h.trans (hb.mono h.size)
theorem ret_u64 {a b : Int} (h : a = b) : Ending.returned (.int .u64 a) = .returned (.int .u64 b) := by rw [h]
theorem below_drewN {B : Nat} {a w : World} (h : Below B a w) (q : Nat) : Below B a (w.drewN q) := ⟨h.os, h.tape, h.output, h.size, h.block⟩
theorem setCell_drewN (w : World) (q : Nat) (a : Addr) (v : Value) : (w.drewN q).setCell a v = (w.setCell a v).drewN q := rfl
theorem alloc_drewN (w : World) (q : Nat) (o : Obj) : (w.drewN q).alloc o = (w.alloc o).drewN q := rfl
/-- A world with some blocks more, and some draws made. -/
def grow (w : World) (os : List Obj) (q : Nat) : World := (os.foldl World.alloc w).drewN q
theorem grow_zero (w : World) : grow w [] 0 = w := rfl
theorem grow_nil (w : World) (q : Nat) : grow w [] q = w.drewN q := rfl
theorem grow_alloc (w : World) (os : List Obj) (q : Nat) (o : Obj) : (grow w os q).alloc o = grow w (os ++ [o]) q := by
  unfold grow
  rw [alloc_drewN, List.foldl_append]
  rfl
theorem grow_drewN (w : World) (os : List Obj) (q n : Nat) : (grow w os q).drewN n = grow w os (q + n) := by
  unfold grow
  rw [World.drewN_drewN]
theorem grow_grow (w : World) (os ps : List Obj) (q n : Nat) : grow (grow w os q) ps n = grow w (os ++ ps) (q + n) := by
  induction ps generalizing os with
  | nil => rw [List.append_nil]; exact grow_drewN w os q n
  | cons o ps ih =>
    have : grow (grow w os q) (o :: ps) n = grow ((grow w os q).alloc o) ps n := rfl
    rw [this, grow_alloc, ih, List.append_assoc]
    rfl
theorem fold_below {B : Nat} {w : World} : ∀ (os : List Obj) {W : World}, Below B w W → B ≤ W.heap.size → Below B w (os.foldl World.alloc W)
  | [], _, h, _ => h
  | o :: os, W, h, hs => fold_below os (h.alloc hs o) (by simp; omega)
theorem grow_below (w : World) (os : List Obj) (q : Nat) : Below w.heap.size w (grow w os q) := below_drewN (fold_below os (Below.refl _ w) (Nat.le_refl _)) q
theorem grow_size (w : World) (os : List Obj) (q : Nat) : (grow w os q).heap.size = w.heap.size + os.length := by
  induction os generalizing w with
  | nil => rfl
  | cons o os ih =>
    have : grow w (o :: os) q = grow (w.alloc o) os q := rfl
    rw [this, ih]
    simp
    omega
theorem grow_cell (w : World) (os : List Obj) (q n i : Nat) (h : n < w.heap.size) : (grow w os q).cell? ⟨n, i, none⟩ = w.cell? ⟨n, i, none⟩ := (grow_below w os q).cell (p := ⟨n, i, none⟩) h
theorem grow_frozen (w : World) (os : List Obj) (q n i : Nat) (h : n < w.heap.size) : (grow w os q).frozen? ⟨n, i, none⟩ = w.frozen? ⟨n, i, none⟩ := (grow_below w os q).frozen (p := ⟨n, i, none⟩) h
theorem lt_len {a b : Nat} (os : List Obj) (h : a < b) : a < b + os.length := by omega
theorem setCell_grow (w : World) (os : List Obj) (q n i : Nat) (v : Value) (h : n < w.heap.size) : (grow w os q).setCell ⟨n, i, none⟩ v = grow (w.setCell ⟨n, i, none⟩ v) os q := by
  induction os generalizing w with
  | nil => rfl
  | cons o os ih =>
    have : grow w (o :: os) q = grow (w.alloc o) os q := rfl
    rw [this, ih _ (by simp; omega), World.setCell_alloc_past _ _ _ _ h]
    rfl
theorem grow1 (w : World) (a : Obj) (q : Nat) : ∃ os q', grow w os q' = (w.alloc a).drewN q := ⟨[a], q, rfl⟩
theorem grow2 (w : World) (a b : Obj) (q : Nat) : ∃ os q', grow w os q' = ((w.alloc a).alloc b).drewN q := ⟨[a, b], q, rfl⟩
theorem grow3 (w : World) (a b c : Obj) (q : Nat) : ∃ os q', grow w os q' = (((w.alloc a).alloc b).alloc c).drewN q := ⟨[a, b, c], q, rfl⟩
theorem grow1n (w : World) (a : Obj) : ∃ os q', grow w os q' = w.alloc a := ⟨[a], 0, rfl⟩
theorem grow3n (w : World) (a b c : Obj) : ∃ os q', grow w os q' = ((w.alloc a).alloc b).alloc c := ⟨[a, b, c], 0, rfl⟩
theorem grow5n (w : World) (a b c d e : Obj) : ∃ os q', grow w os q' = ((((w.alloc a).alloc b).alloc c).alloc d).alloc e := ⟨[a, b, c, d, e], 0, rfl⟩
theorem gr_refl (w : World) : ∃ os q, grow w os q = w := ⟨[], 0, rfl⟩
theorem gr_alloc {w W : World} (o : Obj) (h : ∃ os q, grow w os q = W) : ∃ os q, grow w os q = W.alloc o := by
  obtain ⟨os, q, rfl⟩ := h
  exact ⟨os ++ [o], q, (grow_alloc ..).symm⟩
theorem gr_drewN {w W : World} (n : Nat) (h : ∃ os q, grow w os q = W) : ∃ os q, grow w os q = W.drewN n := by
  obtain ⟨os, q, rfl⟩ := h
  exact ⟨os, q + n, (grow_drewN ..).symm⟩
theorem gr_drew {w W : World} (h : ∃ os q, grow w os q = W) : ∃ os q, grow w os q = W.drew := gr_drewN 1 h
theorem gr_grow {w W : World} (ps : List Obj) (n : Nat) (h : ∃ os q, grow w os q = W) : ∃ os q, grow w os q = grow W ps n := by
  obtain ⟨os, q, rfl⟩ := h
  exact ⟨os ++ ps, q + n, (grow_grow ..).symm⟩
theorem grow3g (w : World) (a b c : Obj) (os : List Obj) (q : Nat) : ∃ os' q', grow w os' q' = grow (((w.alloc a).alloc b).alloc c) os q := ⟨a :: b :: c :: os, q, rfl⟩
attribute [irreducible] grow
theorem cell_alloc_grow (w : World) (os : List Obj) (q n i : Nat) (o : Obj) (h : n < w.heap.size) : ((grow w os q).alloc o).cell? ⟨n, i, none⟩ = w.cell? ⟨n, i, none⟩ := by
  rw [World.cell?_alloc_past _ _ _ (by rw [grow_size]; omega), grow_cell _ _ _ _ _ h]
theorem frozen_alloc_grow (w : World) (os : List Obj) (q n i : Nat) (o : Obj) (h : n < w.heap.size) : ((grow w os q).alloc o).frozen? ⟨n, i, none⟩ = w.frozen? ⟨n, i, none⟩ := by
  rw [World.frozen?_alloc_past _ _ _ (by rw [grow_size]; omega), grow_frozen _ _ _ _ _ h]
theorem setCell_alloc_grow (w : World) (os : List Obj) (q n i : Nat) (v : Value) (o : Obj) (h : n < w.heap.size) : ((grow w os q).alloc o).setCell ⟨n, i, none⟩ v = (grow (w.setCell ⟨n, i, none⟩ v) os q).alloc o := by
  rw [World.setCell_alloc_past _ _ _ _ (by rw [grow_size]; omega), setCell_grow _ _ _ _ _ _ h]
theorem cell_grow_alloc_grow (w : World) (os os' : List Obj) (q q' n i : Nat) (o : Obj) (h : n < w.heap.size) : (grow ((grow w os q).alloc o) os' q').cell? ⟨n, i, none⟩ = w.cell? ⟨n, i, none⟩ := by
  rw [grow_cell _ _ _ _ _ (by simp [grow_size]; omega), cell_alloc_grow _ _ _ _ _ _ h]
theorem frozen_grow_alloc_grow (w : World) (os os' : List Obj) (q q' n i : Nat) (o : Obj) (h : n < w.heap.size) : (grow ((grow w os q).alloc o) os' q').frozen? ⟨n, i, none⟩ = w.frozen? ⟨n, i, none⟩ := by
  rw [grow_frozen _ _ _ _ _ (by simp [grow_size]; omega), frozen_alloc_grow _ _ _ _ _ _ h]
theorem setCell_grow_alloc_grow (w : World) (os os' : List Obj) (q q' n i : Nat) (v : Value) (o : Obj) (h : n < w.heap.size) : (grow ((grow w os q).alloc o) os' q').setCell ⟨n, i, none⟩ v = grow ((grow (w.setCell ⟨n, i, none⟩ v) os q).alloc o) os' q' := by
  rw [setCell_grow _ _ _ _ _ _ (by simp [grow_size]; omega), setCell_alloc_grow _ _ _ _ _ _ _ h]
attribute [local go_sem ↓] setCell_drewN alloc_drewN grow_cell grow_frozen setCell_grow grow_size cell_alloc_grow frozen_alloc_grow setCell_alloc_grow cell_grow_alloc_grow frozen_grow_alloc_grow setCell_grow_alloc_grow
attribute [local go_sem] lt_len
/-- What a call hands back that only makes new memory. -/
def RetG (v : Value) (w : World) (e : Ending) (w' : World) : Prop := e = .returned v ∧ ∃ os q, grow w os q = w'
theorem RetG.grow {n : Nat} {args : Array Value} {v : Value} {w : World} {os : List Obj} {q : Nat} (h : ∀ W, Calls Tryz.prog n args W (RetG v W)) : Calls Tryz.prog n args (Go.Proofs.YtgfbfklnhmndfaaGreat.grow w os q) (RetG v w) :=
  (h _).mono (fun e w' ⟨he, os', q', hw⟩ => ⟨he, os ++ os', q + q', by rw [← grow_grow]; exact hw⟩)
theorem RetG.drew {n : Nat} {args : Array Value} {v : Value} {w : World} {os : List Obj} {q : Nat} (h : ∀ W, Calls Tryz.prog n args W (RetG v W)) : Calls Tryz.prog n args ((Go.Proofs.YtgfbfklnhmndfaaGreat.grow w os q).drew) (RetG v w) :=
  (h _).mono (fun e w' ⟨he, os', q', hw⟩ => ⟨he, os ++ os', q + 1 + q', by rw [← hw, World.drew_is_drewN, grow_drewN, grow_grow]⟩)
theorem add64_0 (x y : Int) (hx : 0 ≤ x) (hy : 0 ≤ y) (hs : x + y < 18446744073709551616) (w : World) : (callFunc 154 #[.int .u64 x, .int .u64 y, .int .u64 0]).run Tryz.prog w =
    .ok (.value (.tuple #[.int .u64 (x + y), .int .u64 0])) w := by
  obtain ⟨x, rfl⟩ := Int.eq_ofNat_of_zero_le hx
  obtain ⟨y, rfl⟩ := Int.eq_ofNat_of_zero_le hy
  have h1 : (callFunc 154 #[.int .u64 (x : Int), .int .u64 (y : Int), .int .u64 ((0 : Nat) : Int)]).run Tryz.prog w = .ok (.value (.tuple #[.int .u64 (Int.ofNat ((x + y + 0) % 2 ^ 64)), .int .u64 (Int.ofNat ((x + y + 0) / 2 ^ 64))])) w := by kernel_rfl
  have e1 : (x + y + 0) % 2 ^ 64 = x + y := by omega
  have e2 : (x + y + 0) / 2 ^ 64 = 0 := by omega
  rw [e1, e2] at h1
  exact h1
theorem sub64_0 (x y : Int) (hx : x < 18446744073709551616) (hy : 0 ≤ y) (hs : y ≤ x) (w : World) : (callFunc 156 #[.int .u64 x, .int .u64 y, .int .u64 0]).run Tryz.prog w =
    .ok (.value (.tuple #[.int .u64 (x - y), .int .u64 0])) w := by
  obtain ⟨x, rfl⟩ := Int.eq_ofNat_of_zero_le (show 0 ≤ x by omega)
  obtain ⟨y, rfl⟩ := Int.eq_ofNat_of_zero_le hy
  have h1 : (callFunc 156 #[.int .u64 (x : Int), .int .u64 (y : Int), .int .u64 ((0 : Nat) : Int)]).run Tryz.prog w = .ok (.value (.tuple #[.int .u64 (Int.ofNat ((x + 2 ^ 64 - y - 0) % 2 ^ 64)), .int .u64 (Int.ofNat (if x < y + 0 then 1 else 0))])) w := by kernel_rfl
  have e1 : (x + 2 ^ 64 - y - 0) % 2 ^ 64 = x - y := by omega
  rw [e1, if_neg (by omega)] at h1
  have e2 : ((x : Int) - y) = Int.ofNat (x - y) := by
    show (x : Int) - y = ((x - y : Nat) : Int)
    omega
  rw [e2]
  exact h1
theorem size153 (a : Int) (h0 : -4611686018427387904 ≤ a) (h1 : a ≤ 4611686018427387904) (w : World) : Calls Tryz.prog 153 #[.int .i64 a] w fun e w' => e = .returned (.int .u64 (a.natAbs : Int)) ∧ w = w' := by
  by_cases h : a < 0
  · have hd : decide (a < 0) = true := by simpa using h
    go_enter Tryz.func153, Tryz.ntmps153
    go_wp2_with fail
    go_returns
    exact ⟨ret_u64 (by rw [IntKind.wrap_u64, IntKind.wrap_u64]; omega), rfl⟩
  · have hd : decide (a < 0) = false := by simpa using h
    go_enter Tryz.func153, Tryz.ntmps153
    go_wp2_with fail
    go_returns
    exact ⟨ret_u64 (by omega), rfl⟩
theorem size186 (a : Int) (h0 : -4611686018427387904 ≤ a) (h1 : a ≤ 4611686018427387904) (w : World) : Calls Tryz.prog 186 #[.int .i64 a] w fun e w' => e = .returned (.int .u64 (a.natAbs : Int)) ∧ w = w' := by
  by_cases h : a < 0
  · have hd : decide (a < 0) = true := by simpa using h
    go_enter Tryz.func186, Tryz.ntmps186
    go_wp2_with fail
    go_returns
    exact ⟨ret_u64 (by rw [IntKind.wrap_u64, IntKind.wrap_u64]; omega), rfl⟩
  · have hd : decide (a < 0) = false := by simpa using h
    go_enter Tryz.func186, Tryz.ntmps186
    go_wp2_with fail
    go_returns
    exact ⟨ret_u64 (by omega), rfl⟩
theorem and_mask32 (x : Int) (h0 : 0 ≤ x) (h1 : x < 4294967296) : bits .and .u64 x 4294967295 = x := by
  rw [u64_and _ _ h0 (by omega) (by omega) (by omega)]
  have e : x.toNat &&& (4294967295 : Int).toNat = x.toNat := by
    have : (4294967295 : Int).toNat = 2 ^ 32 - 1 := by decide
    rw [this, Nat.and_two_pow_sub_one_eq_mod]
    omega
  rw [e]
  omega
theorem mul68 (x y : Int) (hx0 : 0 ≤ x) (hx : x < 4294967296) (hy0 : 0 ≤ y) (hy : y < 4294967296) (w : World) : Calls Tryz.prog 68 #[.int .u64 x, .int .u64 y] w fun e w' => e = .returned (.tuple #[.int .u64 0, .int .u64 (x * y)]) ∧ w = w' := by
  have hxy0 : 0 ≤ x * y := Int.mul_nonneg hx0 hy0
  have hxy1 : x * y ≤ 18446744065119617025 := by
    have h1 : x * y ≤ 4294967295 * y := Int.mul_le_mul_of_nonneg_right (by omega) hy0
    omega
  have hx4 : x / 4294967296 = 0 := Int.ediv_eq_zero_of_lt hx0 hx
  have hy4 : y / 4294967296 = 0 := Int.ediv_eq_zero_of_lt hy0 hy
  have ex := and_mask32 x hx0 hx
  have ey := and_mask32 y hy0 hy
  have hq0 : 0 ≤ x * y / 4294967296 := by omega
  have hq1 : x * y / 4294967296 < 4294967296 := by omega
  have eq := and_mask32 _ hq0 hq1
  have hqq : x * y / 4294967296 / 4294967296 = 0 := Int.ediv_eq_zero_of_lt hq0 hq1
  go_enter Tryz.func68, Tryz.ntmps68
  go_wp2_with fail
  go_returns
  exact ⟨rfl, rfl⟩
theorem size_n (a : Int) (m : Nat) (hm : a.natAbs = m) (h : m < 4294967296) (w : World) : Calls Tryz.prog 153 #[.int .i64 a] w fun e w' => e = .returned (.int .u64 m) ∧ w = w' := by
  subst hm
  exact size153 a (by omega) (by omega) w
theorem mul_n (m k : Nat) (hm : m < 4294967296) (hk : k < 4294967296) (w : World) : Calls Tryz.prog 68 #[.int .u64 m, .int .u64 k] w fun e w' => e = .returned (.tuple #[.int .u64 0, .int .u64 (m * k : Nat)]) ∧ w = w' := by
  have := mul68 m k (by omega) (by omega) (by omega) (by omega) w
  rw [Int.natCast_mul]
  exact this
/-- A product: its size, is it below nought. -/
theorem times116 (a b : Int) (m k : Nat) (hm : a.natAbs = m) (hk : b.natAbs = k) (h1 : m < 4294967296) (h2 : k < 4294967296) (w : World) : Calls Tryz.prog 116 #[.int .i64 a, .int .i64 b] w (RetG (.agg #[.int .u64 0, .int .u64 (m * k : Nat), .bool (decide (a < 0) != decide (b < 0))]) w) := by
  have HM := Lib.hid hm
  have HK := Lib.hid hk
  clear hm hk
  unfold RetG
  obtain ⟨p, hp⟩ : ∃ p, m * k = p := ⟨_, rfl⟩
  have HP := Lib.hid hp
  rw [hp]
  clear hp
  go_enter Tryz.func116, Tryz.ntmps116
  go_wp2_with fail
  refine (size_n a m HM.out h1 _).mono ?_
  rintro e w' ⟨rfl, rfl⟩
  go_wp2_with fail
  refine (size_n b k HK.out h2 _).mono ?_
  rintro e w' ⟨rfl, rfl⟩
  go_wp2_with fail
  refine (mul_n m k h1 h2 _).mono ?_
  rintro e w' ⟨rfl, rfl⟩
  rw [HP.out]
  go_wp2_with fail
  go_returns
  exact ⟨rfl, grow1n ..⟩
theorem less155 (a b : Nat) (s t : Bool) (w : World) : Calls Tryz.prog 155 #[.agg #[.int .u64 0, .int .u64 a, .bool s], .agg #[.int .u64 0, .int .u64 b, .bool t]] w fun e w' => e = .returned (.bool (decide (a < b))) ∧ ∃ o1 o2 : Obj, (w.alloc o1).alloc o2 = w' := by
  go_enter Tryz.func155, Tryz.ntmps155
  go_wp2_with fail
  go_returns
  exact ⟨rfl, _, _, rfl⟩
/-- A sum of sizes with signs. -/
def plusM (a : Nat) (s : Bool) (b : Nat) (t : Bool) : Nat := if s = t then a + b else if a < b then b - a else a - b
def plusS (a : Nat) (s : Bool) (b : Nat) (t : Bool) : Bool := if s = t then s else if a < b then t else s
theorem plus117_same (a b : Nat) (s : Bool) (ha : a < 4611686018427387904) (hb : b < 4611686018427387904) (w : World) : Calls Tryz.prog 117 #[.agg #[.int .u64 0, .int .u64 a, .bool s], .agg #[.int .u64 0, .int .u64 b, .bool s]] w (RetG (.agg #[.int .u64 0, .int .u64 (a + b : Nat), .bool s]) w) := by
  unfold RetG
  have c1 := fun w => add64_0 a b (by omega) (by omega) (by omega) w
  have c2 : ∀ w : World, (callFunc 154 #[.int .u64 0, .int .u64 0, .int .u64 0]).run Tryz.prog w = .ok (.value (.tuple #[.int .u64 0, .int .u64 0])) w := fun w => add64_0 0 0 (by omega) (by omega) (by omega) w
  have hs : (s == s) = true := by simp
  go_enter Tryz.func117, Tryz.ntmps117
  go_wp2_with fail
  go_returns
  exact ⟨rfl, grow3n ..⟩
theorem plus117_less (a b : Nat) (s t : Bool) (hst : s ≠ t) (hab : a < b) (hb : b < 4611686018427387904) (w : World) : Calls Tryz.prog 117 #[.agg #[.int .u64 0, .int .u64 a, .bool s], .agg #[.int .u64 0, .int .u64 b, .bool t]] w (RetG (.agg #[.int .u64 0, .int .u64 (b - a : Nat), .bool t]) w) := by
  unfold RetG
  obtain ⟨c, hc⟩ : ∃ c : Nat, b - a = c := ⟨_, rfl⟩
  rw [hc]
  have c1 : ∀ w : World, (callFunc 156 #[.int .u64 b, .int .u64 a, .int .u64 0]).run Tryz.prog w = .ok (.value (.tuple #[.int .u64 c, .int .u64 0])) w := fun w => by
    rw [sub64_0 b a (by omega) (by omega) (by omega) w]
    rw [show ((b : Int) - a) = (c : Int) by omega]
  have c2 : ∀ w : World, (callFunc 156 #[.int .u64 0, .int .u64 0, .int .u64 0]).run Tryz.prog w = .ok (.value (.tuple #[.int .u64 0, .int .u64 0])) w := fun w => sub64_0 0 0 (by omega) (by omega) (by omega) w
  have hs : (s == t) = false := by simpa using hst
  have HAB := Lib.hid hab
  have HC := Lib.hid hc
  clear hst hc hab
  go_enter Tryz.func117, Tryz.ntmps117
  go_wp2_with fail
  refine (less155 a b s t _).mono ?_
  rintro en w1 ⟨rfl, o1, o2, rfl⟩
  have hd : decide (a < b) = true := by simpa using HAB.out
  rw [hd]
  go_wp2_with fail
  go_returns
  exact ⟨rfl, grow5n ..⟩
theorem plus117_more (a b : Nat) (s t : Bool) (hst : s ≠ t) (hab : b ≤ a) (hb : a < 4611686018427387904) (w : World) : Calls Tryz.prog 117 #[.agg #[.int .u64 0, .int .u64 a, .bool s], .agg #[.int .u64 0, .int .u64 b, .bool t]] w (RetG (.agg #[.int .u64 0, .int .u64 (a - b : Nat), .bool s]) w) := by
  unfold RetG
  obtain ⟨c, hc⟩ : ∃ c : Nat, a - b = c := ⟨_, rfl⟩
  rw [hc]
  have c1 : ∀ w : World, (callFunc 156 #[.int .u64 a, .int .u64 b, .int .u64 0]).run Tryz.prog w = .ok (.value (.tuple #[.int .u64 c, .int .u64 0])) w := fun w => by
    rw [sub64_0 a b (by omega) (by omega) (by omega) w]
    rw [show ((a : Int) - b) = (c : Int) by omega]
  have c2 : ∀ w : World, (callFunc 156 #[.int .u64 0, .int .u64 0, .int .u64 0]).run Tryz.prog w = .ok (.value (.tuple #[.int .u64 0, .int .u64 0])) w := fun w => sub64_0 0 0 (by omega) (by omega) (by omega) w
  have hs : (s == t) = false := by simpa using hst
  have HAB := Lib.hid hab
  have HC := Lib.hid hc
  clear hst hc hab
  go_enter Tryz.func117, Tryz.ntmps117
  go_wp2_with fail
  refine (less155 a b s t _).mono ?_
  rintro en w1 ⟨rfl, o1, o2, rfl⟩
  have hd : decide (a < b) = false := by have := HAB.out; simp; omega
  rw [hd]
  go_wp2_with fail
  go_returns
  exact ⟨rfl, grow5n ..⟩
end
end Go.Proofs.YtgfbfklnhmndfaaGreat
