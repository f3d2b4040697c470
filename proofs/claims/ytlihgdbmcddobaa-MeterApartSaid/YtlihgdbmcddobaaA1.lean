/- Two meters, by turns: the walk. -/
import Derived.Test.YtlihgdbmcddobaaM2
import Derived.Deep.LoopGhost
import Derived.OpenShut
namespace Go.Proofs.Ytlihgdbmcddobaa
open Go.RowKit
set_option linter.unusedSimpArgs false
set_option linter.unusedVariables false

def ARel (W : World) (X Y : Nat) (a b : Int) (wr : World) : Prop :=
  ∃ f g, isM wr X f ∧ isM wr Y g ∧ f 0 = a ∧ g 0 = b ∧ Below W.heap.size W wr

theorem ARel.addX {W : World} {X Y : Nat} {a b : Int} {wr : World} (h : ARel W X Y a b wr) (hX : W.heap.size ≤ X) (hne : X ≠ Y) (ha0 : 0 ≤ a) (ha : a ≤ 100000) :
    Calls Try.prog 10 #[.pointer (some ⟨X, 0, none⟩), .int .i64 0, .int .i64 1] wr fun e w' => e = .returned (.int .i64 (a + 1)) ∧ ARel W X Y (a + 1) b w' := by
  obtain ⟨f, g, h1, h2, h3, h4, h5⟩ := h
  refine (add_m X 0 1 (a + 1) f wr (by omega) h1 (by rw [h3]; unfold wrap64; omega)).mono ?_
  rintro e w' ⟨rfl, hm, ho⟩
  exact ⟨rfl, _, g, hm, h2.only ho (fun e => hne e.symm), by simp [upd], h4, h5.trans (ho.below hX h5.size)⟩

theorem ARel.addY {W : World} {X Y : Nat} {a b : Int} {wr : World} (h : ARel W X Y a b wr) (hY : W.heap.size ≤ Y) (hne : X ≠ Y) (ha0 : 0 ≤ b) (ha : b ≤ 100000) :
    Calls Try.prog 10 #[.pointer (some ⟨Y, 0, none⟩), .int .i64 0, .int .i64 2] wr fun e w' => e = .returned (.int .i64 (b + 2)) ∧ ARel W X Y a (b + 2) w' := by
  obtain ⟨f, g, h1, h2, h3, h4, h5⟩ := h
  refine (add_m Y 0 2 (b + 2) g wr (by omega) h2 (by rw [h4]; unfold wrap64; omega)).mono ?_
  rintro e w' ⟨rfl, hm, ho⟩
  exact ⟨rfl, f, _, h1.only ho hne, hm, h3, by simp [upd], h5.trans (ho.below hY h5.size)⟩

theorem ARel.getX {W : World} {X Y : Nat} {a b : Int} {wr : World} (h : ARel W X Y a b wr) :
    Calls Try.prog 11 #[.pointer (some ⟨X, 0, none⟩), .int .i64 0] wr fun e w' => e = .returned (.int .i64 a) ∧ wr = w' := by
  obtain ⟨f, g, h1, h2, h3, h4, h5⟩ := h
  exact get_m X 0 a f wr (by omega) h1 h3

theorem ARel.getY {W : World} {X Y : Nat} {a b : Int} {wr : World} (h : ARel W X Y a b wr) :
    Calls Try.prog 11 #[.pointer (some ⟨Y, 0, none⟩), .int .i64 0] wr fun e w' => e = .returned (.int .i64 b) ∧ wr = w' := by
  obtain ⟨f, g, h1, h2, h3, h4, h5⟩ := h
  exact get_m Y 0 b g wr (by omega) h2 h4

theorem ARel.below {W : World} {X Y : Nat} {a b : Int} {wr : World} (h : ARel W X Y a b wr) : Below W.heap.size W wr := by
  obtain ⟨f, g, h1, h2, h3, h4, h5⟩ := h
  exact h5

set_option maxHeartbeats 400000 in
theorem apart_any (a b : Nat) (ha : a ≤ 255) (hb : b ≤ 255) (w : World) :
    Calls Try.prog 7 #[.int .u8 a, .int .u8 b] w fun e w' => e = .returned (.bool true) ∧ Below w.heap.size w w' := by
  go_enter Try.func7, Try.ntmps7
  go_wp2_with fail
  refine (awake_any _).mono ?_
  rintro e w0 ⟨rfl, hb0⟩
  go_wp2_with fail
  refine (new_m _).mono ?_
  rintro e w1 ⟨rfl, hm, hb1, hs⟩
  have HS := Lib.hid hs; clear hs
  go_wp2_with fail
  refine (new_m _).mono ?_
  rintro e w2 ⟨rfl, hm2, hb2, hs2⟩
  clear hs2
  have hX : w.heap.size ≤ w0.heap.size := hb0.size
  have hY : w.heap.size ≤ w1.heap.size := by have := hb1.size; omega
  have hne : w0.heap.size ≠ w1.heap.size := by have := HS.out; omega
  have hR : ARel w w0.heap.size w1.heap.size 0 0 w2 := ⟨_, _, hm.below hb2, hm2, rfl, rfl, (hb0.trans (hb1.mono hX)).trans (hb2.mono hY)⟩
  clear hm hm2 hb0 hb1 hb2 HS
  go_wp2_with fail
  go_loopw [7] (fun i wr => ∃ k : Nat, k ≤ 4 ∧ i = .int .i64 k ∧ ARel w w0.heap.size w1.heap.size (k * a) (k * (2 * b)) wr) (fun i _ => 4 - (intOf i).toNat)
  case atStart => exact ⟨0, by omega, rfl, by simpa using hR⟩
  case round =>
    obtain ⟨k, hk, rfl, hrk⟩ := hrel
    clear hR
    by_cases hlt : k < 4
    · have hd : decide ((k : Int) < 4) = true := by simp; omega
      have p0 : 0 ≤ (k : Int) * a := Int.mul_nonneg (by omega) (by omega)
      have p1 : (k : Int) * a ≤ 3 * 255 := Int.mul_le_mul (by omega) (by omega) (by omega) (by omega)
      have q0 : 0 ≤ (k : Int) * (2 * b) := Int.mul_nonneg (by omega) (by omega)
      have q1 : (k : Int) * (2 * b) ≤ 3 * 510 := Int.mul_le_mul (by omega) (by omega) (by omega) (by omega)
      go_wp2_with fail
      go_loopw [8] (fun i wr => ∃ n : Nat, n ≤ a ∧ i = .int .i64 n ∧ ARel w w0.heap.size w1.heap.size (k * a + n) (k * (2 * b)) wr) (fun i _ => a - (intOf i).toNat)
      case atStart => exact ⟨0, by omega, rfl, by simpa using hrk⟩
      case round =>
        obtain ⟨n, hn, rfl, hrn⟩ := hrel
        by_cases hl2 : n < a
        · have hd2 : decide ((n : Int) < a) = true := by simp; omega
          go_wp2_with fail
          refine (hrn.addX hX hne (by omega) (by omega)).mono ?_
          rintro e w5 ⟨rfl, hr5⟩
          go_wp2_with fail
          go_roundw
          case rel => exact ⟨n + 1, by omega, by go_num, by rw [show ((n + 1 : Nat) : Int) = n + 1 by omega, ← Int.add_assoc]; exact hr5⟩
          case measure => simp [intOf]; omega
        · have : n = a := by omega
          subst this
          go_wp2_with fail
          go_loopw [9] (fun i wr => ∃ m : Nat, m ≤ b ∧ i = .int .i64 m ∧ ARel w w0.heap.size w1.heap.size (k * n + n) (k * (2 * b) + 2 * m) wr) (fun i _ => b - (intOf i).toNat)
          case atStart => exact ⟨0, by omega, rfl, by simpa using hrn⟩
          case round =>
            obtain ⟨m, hm, rfl, hrm⟩ := hrel
            by_cases hl3 : m < b
            · go_wp2_with fail
              refine (hrm.addY hY hne (by omega) (by omega)).mono ?_
              rintro e w5 ⟨rfl, hr5⟩
              go_wp2_with fail
              go_roundw
              case rel => exact ⟨m + 1, by omega, by go_num, by rw [show 2 * ((m + 1 : Nat) : Int) = 2 * m + 2 by omega, ← Int.add_assoc]; exact hr5⟩
              case measure => simp [intOf]; omega
            · have : m = b := by omega
              subst this
              go_wp2_with fail
              go_roundw
              case rel => exact ⟨k + 1, by omega, by go_num, by rw [show ((k + 1 : Nat) : Int) = k + 1 by omega, Int.add_mul, Int.add_mul, Int.one_mul, Int.one_mul]; exact hrm⟩
              case measure => simp [intOf]; omega
    · have : k = 4 := by omega
      subst this
      go_wp2_with fail
      have hrk' : ARel w w0.heap.size w1.heap.size (4 * a) (8 * b) wr := by rw [show (8 : Int) * b = ((4 : Nat) : Int) * (2 * b) by omega]; exact hrk
      clear hrk
      refine hrk'.getX.mono ?_
      rintro e w5 ⟨rfl, rfl⟩
      go_wp2_with fail
      refine hrk'.getY.mono ?_
      rintro e w5 ⟨rfl, rfl⟩
      go_wp2_with fail
      go_returns
      exact ⟨rfl, hrk'.below⟩

theorem apart_law (a : Int) (ha : (Lit.int .u8 a).wf = true) (b : Int) (hb : (Lit.int .u8 b).wf = true) (w : World) :
    Calls Try.prog 7 #[.int .u8 a, .int .u8 b] w fun e w' => e = .returned (.bool true) ∧ Below w.heap.size w w' := by
  have h1 := bounds_u8 ha
  have h2 := bounds_u8 hb
  obtain ⟨n, rfl⟩ : ∃ n : Nat, a = n := ⟨a.toNat, by omega⟩
  obtain ⟨m, rfl⟩ : ∃ n : Nat, b = n := ⟨b.toNat, by omega⟩
  exact apart_any n m (by omega) (by omega) w
end Go.Proofs.Ytlihgdbmcddobaa
