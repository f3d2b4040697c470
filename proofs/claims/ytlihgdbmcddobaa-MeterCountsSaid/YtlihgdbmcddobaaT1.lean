/- What is added and taken away again: the sums, without a program. -/
import Derived.Test.YtlihgdbmcddobaaM2
import Derived.Test.YtlihgdbmcddobaaO
namespace Go.Proofs.Ytlihgdbmcddobaa
open Go.RowKit
set_option linter.unusedSimpArgs false
set_option linter.unusedVariables false

def kOf (x : Int) : Nat := ((x.tmod 5 + 5) % 5).toNat

theorem tmod5 (x : Int) : -4 ≤ x.tmod 5 ∧ x.tmod 5 ≤ 4 := by
  rcases Int.le_total 0 x with h | h
  · have h1 := Int.tmod_nonneg 5 h
    have h2 := Int.tmod_lt_of_pos x (b := 5) (by omega)
    omega
  · have e : x = -(-x) := by omega
    rw [e, Int.neg_tmod]
    have h1 := Int.tmod_nonneg 5 (a := -x) (by omega)
    have h2 := Int.tmod_lt_of_pos (-x) (b := 5) (by omega)
    omega

theorem kOf_eq (x : Int) : (x.tmod 5 + 5) % 5 = (kOf x : Int) := by
  have := tmod5 x
  unfold kOf; omega
theorem kOf_lt (x : Int) : kOf x < 5 := by
  have := tmod5 x
  unfold kOf; omega

/-- The counters behind n of the rows. -/
def F (xs : Nat → Nat → Int) : Nat → Nat → Int
  | 0 => fun _ => 0
  | n + 1 => fun j => if j = kOf (xs n 0) then F xs n j + xs n 1 else F xs n j

def S (xs : Nat → Nat → Int) : Nat → Int
  | 0 => 0
  | n + 1 => S xs n + xs n 1

theorem F_bound (xs : Nat → Nat → Int) (n : Nat) (h : ∀ i, i < n → -32768 ≤ xs i 1 ∧ xs i 1 ≤ 32767) (j : Nat) : -(n * 32768 : Int) ≤ F xs n j ∧ F xs n j ≤ n * 32768 := by
  induction n with
  | zero => simp [F]
  | succ n ih =>
    have h1 := ih fun i hi => h i (by omega)
    have h2 := h n (by omega)
    simp only [F]
    split <;> omega

theorem S_bound (xs : Nat → Nat → Int) (n : Nat) (h : ∀ i, i < n → -32768 ≤ xs i 1 ∧ xs i 1 ≤ 32767) : -(n * 32768 : Int) ≤ S xs n ∧ S xs n ≤ n * 32768 := by
  induction n with
  | zero => simp [S]
  | succ n ih =>
    have h1 := ih fun i hi => h i (by omega)
    have h2 := h n (by omega)
    simp only [S]
    omega

theorem F_sum (xs : Nat → Nat → Int) (n : Nat) : F xs n 0 + F xs n 1 + F xs n 2 + F xs n 3 + F xs n 4 = S xs n := by
  induction n with
  | zero => simp [F, S]
  | succ n ih =>
    have hk := kOf_lt (xs n 0)
    simp only [F, S]
    have : kOf (xs n 0) = 0 ∨ kOf (xs n 0) = 1 ∨ kOf (xs n 0) = 2 ∨ kOf (xs n 0) = 3 ∨ kOf (xs n 0) = 4 := by omega
    rcases this with e | e | e | e | e <;> simp [e] <;> omega

theorem isM.congr {w : World} {b : Nat} {f g : Nat → Int} (h : isM w b f) (e : ∀ j, j < 5 → f j = g j) : isM w b g := fun k hk => by rw [← e k hk]; exact h k hk

/-- Block X is a meter of g; below the old heap's end all is as it was. -/
def TRel (W : World) (X : Nat) (g : Nat → Int) (wr : World) : Prop := isM wr X g ∧ Below W.heap.size W wr

theorem TRel.add {W : World} {X : Nat} {g g' : Nat → Int} {wr : World} (h : TRel W X g wr) (hX : W.heap.size ≤ X) (x d : Int) (h0 : -10000000000 ≤ g (kOf x) + d) (h1 : g (kOf x) + d ≤ 10000000000)
    (hg : ∀ j, j < 5 → g' j = if j = kOf x then g j + d else g j) :
    Calls Try.prog 10 #[.pointer (some ⟨X, 0, none⟩), .int .i64 ((x.tmod 5 + 5) % 5), .int .i64 d] wr fun e w' => (∃ s, e = .returned (.int .i64 s)) ∧ TRel W X g' w' := by
  rw [kOf_eq]
  refine (add_m X (kOf x) d (g (kOf x) + d) g wr (kOf_lt x) h.1 (by unfold wrap64; omega)).mono ?_
  rintro e w' ⟨rfl, hm', ho⟩
  refine ⟨⟨_, rfl⟩, hm'.congr fun j hj => ?_, h.2.trans (ho.below hX h.2.size)⟩
  rw [hg j hj]
  unfold upd
  split
  · rename_i e; rw [e]
  · rfl

theorem TRel.all {W : World} {X : Nat} {f : Nat → Int} {wr : World} (h : TRel W X f wr) :
    Calls Try.prog 12 #[.pointer (some ⟨X, 0, none⟩)] wr fun e w' => e = .returned (.agg #[.int .i64 (f 0), .int .i64 (f 1), .int .i64 (f 2), .int .i64 (f 3), .int .i64 (f 4)]) ∧ TRel W X f w' := by
  refine (all_m X _ _ _ _ _ f wr h.1 rfl rfl rfl rfl rfl).mono ?_
  rintro e w' ⟨rfl, hm', ho⟩
  exact ⟨rfl, hm', h.2.trans (ho.mono h.2.size)⟩

theorem TRel.zeros {W : World} {X : Nat} {f : Nat → Int} {wr : World} (h : TRel W X f wr) (hz : ∀ j, j < 5 → f j = 0) :
    Calls Try.prog 12 #[.pointer (some ⟨X, 0, none⟩)] wr fun e w' => e = .returned (.agg #[.int .i64 0, .int .i64 0, .int .i64 0, .int .i64 0, .int .i64 0]) ∧ TRel W X f w' := by
  refine h.all.mono ?_
  rw [hz 0 (by omega), hz 1 (by omega), hz 2 (by omega), hz 3 (by omega), hz 4 (by omega)]
  rintro e w' ⟨rfl, h'⟩
  exact ⟨rfl, h'⟩

/-- Block X is a meter of g, block B five numbers f; below the old heap's end all is as it was. -/
def T2 (W : World) (X B : Nat) (g f : Nat → Int) (wr : World) : Prop := isM wr X g ∧ isM wr B f ∧ Below W.heap.size W wr

theorem T2.drew {W : World} {X B : Nat} {g f : Nat → Int} {wr : World} (h : T2 W X B g f wr) : T2 W X B g f wr.drew := ⟨h.1.kept rfl, h.2.1.kept rfl, h.2.2.drew⟩

theorem T2.add {W : World} {X B : Nat} {g g' f : Nat → Int} {wr : World} (h : T2 W X B g f wr) (hX : W.heap.size ≤ X) (hne : B ≠ X) (x d : Int) (h0 : -10000000000 ≤ g (kOf x) + d) (h1 : g (kOf x) + d ≤ 10000000000)
    (hg : ∀ j, j < 5 → g' j = if j = kOf x then g j + d else g j) :
    Calls Try.prog 10 #[.pointer (some ⟨X, 0, none⟩), .int .i64 ((x.tmod 5 + 5) % 5), .int .i64 d] wr fun e w' => (∃ s, e = .returned (.int .i64 s)) ∧ T2 W X B g' f w' := by
  rw [kOf_eq]
  refine (add_m X (kOf x) d (g (kOf x) + d) g wr (kOf_lt x) h.1 (by unfold wrap64; omega)).mono ?_
  rintro e w' ⟨rfl, hm', ho⟩
  refine ⟨⟨_, rfl⟩, hm'.congr fun j hj => ?_, h.2.1.only ho hne, h.2.2.trans (ho.below hX h.2.2.size)⟩
  rw [hg j hj]
  unfold upd
  split
  · rename_i e; rw [e]
  · rfl

theorem T2.zeros {W : World} {X B : Nat} {f g : Nat → Int} {wr : World} (h : T2 W X B g f wr) (hz : ∀ j, j < 5 → g j = 0) :
    Calls Try.prog 12 #[.pointer (some ⟨X, 0, none⟩)] wr fun e w' => e = .returned (.agg #[.int .i64 0, .int .i64 0, .int .i64 0, .int .i64 0, .int .i64 0]) ∧ Below W.heap.size W w' := by
  refine ((show TRel W X g wr from ⟨h.1, h.2.2⟩).zeros hz).mono ?_
  rintro e w' ⟨rfl, h'⟩
  exact ⟨rfl, h'.2⟩

theorem isM_new (w : World) (x0 x1 x2 x3 x4 : Int) (f : Nat → Int) (t : TypeId) (h0 : x0 = f 0) (h1 : x1 = f 1) (h2 : x2 = f 2) (h3 : x3 = f 3) (h4 : x4 = f 4) :
    isM (w.alloc (.cells #[.int .i64 x0, .int .i64 x1, .int .i64 x2, .int .i64 x3, .int .i64 x4] t)) w.heap.size f := by
  subst h0 h1 h2 h3 h4
  intro k hk
  have : k = 0 ∨ k = 1 ∨ k = 2 ∨ k = 3 ∨ k = 4 := by omega
  rcases this with rfl | rfl | rfl | rfl | rfl <;> exact ⟨by go_simp, by go_simp⟩
end Go.Proofs.Ytlihgdbmcddobaa
