/- Many add in turns: the walk. -/
import Derived.Test.YtlihgdbmcddobaaM2
import Derived.OpenShut
namespace Go.Proofs.Ytlihgdbmcddobaa
open Go.RowKit
set_option linter.unusedSimpArgs false
set_option linter.unusedVariables false

/-- Block X is a meter to which c numbers of a size of at most 32768 were added, of sum s. -/
def MRel (W : World) (X : Nat) (c : Nat) (s : Int) (f : Nat → Int) (wr : World) : Prop :=
  isM wr X f ∧ f 0 + f 1 + f 2 + f 3 + f 4 = s ∧ (∀ j, j < 5 → -(c * 32768 : Int) ≤ f j ∧ f j ≤ c * 32768) ∧ Below W.heap.size W wr

theorem sum_upd (f : Nat → Int) (k : Nat) (d : Int) (hk : k < 5) : upd f k (f k + d) 0 + upd f k (f k + d) 1 + upd f k (f k + d) 2 + upd f k (f k + d) 3 + upd f k (f k + d) 4 = f 0 + f 1 + f 2 + f 3 + f 4 + d := by
  have : k = 0 ∨ k = 1 ∨ k = 2 ∨ k = 3 ∨ k = 4 := by omega
  rcases this with rfl | rfl | rfl | rfl | rfl <;> simp [upd] <;> omega

theorem MRel.add {W : World} {X c k : Nat} {s d : Int} {f : Nat → Int} {wr : World} (h : MRel W X c s f wr) (hX : W.heap.size ≤ X) (hc : c ≤ 100000) (hk : k < 5) (h0 : -32768 ≤ d) (h1 : d ≤ 32768) :
    Calls Try.prog 10 #[.pointer (some ⟨X, 0, none⟩), .int .i64 k, .int .i64 d] wr fun e w' => e = .returned (.int .i64 (f k + d)) ∧ MRel W X (c + 1) (s + d) (upd f k (f k + d)) w' := by
  obtain ⟨hm, hs, hb, hW⟩ := h
  have hbk := hb k hk
  refine (add_m X k d (f k + d) f wr hk hm (by unfold wrap64; omega)).mono ?_
  rintro e w' ⟨rfl, hm', ho⟩
  refine ⟨rfl, hm', by rw [sum_upd f k d hk, hs], fun j hj => ?_, hW.trans (ho.below hX hW.size)⟩
  have hbj := hb j hj
  unfold upd
  split <;> push_cast <;> omega

theorem MRel.get {W : World} {X c k : Nat} {s : Int} {f : Nat → Int} {wr : World} (h : MRel W X c s f wr) (hk : k < 5) :
    Calls Try.prog 11 #[.pointer (some ⟨X, 0, none⟩), .int .i64 k] wr fun e w' => e = .returned (.int .i64 (f k)) ∧ wr = w' :=
  get_m X k (f k) f wr hk h.1 rfl

theorem MRel.all {W : World} {X c : Nat} {s : Int} {f : Nat → Int} {wr : World} (h : MRel W X c s f wr) :
    Calls Try.prog 12 #[.pointer (some ⟨X, 0, none⟩)] wr fun e w' => e = .returned (.agg #[.int .i64 (f 0), .int .i64 (f 1), .int .i64 (f 2), .int .i64 (f 3), .int .i64 (f 4)]) ∧ MRel W X c s f w' := by
  obtain ⟨hm, hs, hb, hW⟩ := h
  refine (all_m X _ _ _ _ _ f wr hm rfl rfl rfl rfl rfl).mono ?_
  rintro e w' ⟨rfl, hm', ho⟩
  exact ⟨rfl, hm', hs, hb, hW.trans (ho.mono hW.size)⟩

set_option maxHeartbeats 400000 in
theorem many_any (a b : Nat) (d : Int) (ha : a ≤ 255) (hb : b ≤ 255) (hd0 : -32768 ≤ d) (hd1 : d ≤ 32767) (w : World) :
    Calls Try.prog 4 #[.int .u8 a, .int .u8 b, .int .i16 d] w fun e w' => e = .returned (.bool true) ∧ Below w.heap.size w w' := by
  go_enter Try.func4, Try.ntmps4
  go_wp2_with fail
  refine (awake_any _).mono ?_
  rintro e w0 ⟨rfl, hb0⟩
  go_wp2_with fail
  refine (new_m _).mono ?_
  rintro e w1 ⟨rfl, hm, hb1, hs⟩
  clear hs
  have hX : w.heap.size ≤ w0.heap.size := hb0.size
  have hR : MRel w w0.heap.size 0 0 (fun _ => 0) w1 := ⟨hm, by simp, fun j hj => by simp, hb0.trans (hb1.mono hX)⟩
  clear hm hb0 hb1
  go_wp2_with fail
  obtain ⟨K, hK⟩ : ∃ K : Nat, 1 + (a : Int) % 12 = K := ⟨1 + a % 12, by omega⟩
  obtain ⟨T, hT⟩ : ∃ K : Nat, (b : Int) % 60 = K := ⟨b % 60, by omega⟩
  rw [hK, hT]
  have h1 : K ≤ 12 := by omega
  have h2 : T ≤ 59 := by omega
  have h3 : 1 ≤ K := by omega
  clear hK hT
  go_loopw [10] (fun i wr => ∃ n : Nat, n ≤ T ∧ i = .int .i64 n ∧ ∃ f, MRel w w0.heap.size (n * K) ((n * K : Nat) * d) f wr) (fun i _ => T - (intOf i).toNat)
  case atStart => exact ⟨0, by omega, rfl, _, by simpa using hR⟩
  case round =>
    obtain ⟨n, hn, rfl, f, hr⟩ := hrel
    clear hR
    by_cases hlt : n < T
    · have hd : decide ((n : Int) < T) = true := by simp; omega
      have hd' : decide (n < T) = true := by simp; omega
      have hnk : n * K ≤ 58 * 12 := Nat.mul_le_mul (by omega) h1
      go_wp2_with fail
      go_loopw [11] (fun i wr => ∃ m : Nat, m ≤ K ∧ i = .int .i64 m ∧ ∃ f, MRel w w0.heap.size (n * K + m) ((n * K + m : Nat) * d) f wr) (fun i _ => K - (intOf i).toNat)
      case atStart => exact ⟨0, by omega, rfl, f, by simpa using hr⟩
      case round =>
        obtain ⟨m, hm, rfl, g, hg⟩ := hrel
        clear hr
        by_cases hl2 : m < K
        · have h5 : m % 5 < 5 := Nat.mod_lt _ (by omega)
          have hgb := hg.2.2.1 _ h5
          go_wp2_with fail
          rw [show ((m : Int) % 5) = ((m % 5 : Nat) : Int) by omega]
          refine (hg.get h5).mono ?_
          rintro e w5 ⟨rfl, rfl⟩
          go_wp2_with fail
          rw [show ((m : Int) % 5) = ((m % 5 : Nat) : Int) by omega]
          refine (hg.add (d := d) hX (by omega) h5 (by omega) (by omega)).mono ?_
          rintro e w5 ⟨rfl, hr5⟩
          go_wp2_with fail
          go_roundw
          case rel => exact ⟨m + 1, by omega, by go_num, _, by rw [show (((n * K + (m + 1) : Nat) : Int)) * d = ((n * K + m : Nat) : Int) * d + d by push_cast; rw [Int.add_mul, Int.add_mul, Int.add_mul]; omega]; exact hr5⟩
          case measure => simp [intOf]; omega
        · have : m = K := by omega
          subst this
          go_wp2_with fail
          go_roundw
          case rel => exact ⟨n + 1, by omega, by go_num, g, by rw [show (n + 1) * m = n * m + m by rw [Nat.add_mul, Nat.one_mul]]; exact hg⟩
          case measure => simp [intOf]; omega
    · have : n = T := by omega
      subst this
      go_wp2_with fail
      refine hr.all.mono ?_
      rintro e w5 ⟨rfl, hr5⟩
      clear hr
      go_wp2_with fail
      obtain ⟨hm5, hs5, hbd, hW5⟩ := hr5
      have hnk : n * K ≤ 59 * 12 := Nat.mul_le_mul (by omega) h1
      have b0 := hbd 0 (by omega)
      have b1 := hbd 1 (by omega)
      have b2 := hbd 2 (by omega)
      have b3 := hbd 3 (by omega)
      have b4 := hbd 4 (by omega)
      clear hbd
      have b0l : -23199744 ≤ f 0 := by omega
      have b0r : f 0 ≤ 23199744 := by omega
      have b1l : -23199744 ≤ f 1 := by omega
      have b1r : f 1 ≤ 23199744 := by omega
      have b2l : -23199744 ≤ f 2 := by omega
      have b2r : f 2 ≤ 23199744 := by omega
      have b3l : -23199744 ≤ f 3 := by omega
      have b3r : f 3 ≤ 23199744 := by omega
      have b4l : -23199744 ≤ f 4 := by omega
      have b4r : f 4 ≤ 23199744 := by omega
      clear b0 b1 b2 b3 b4
      have hc : ((n * K : Nat) : Int) = (K : Int) * n := by rw [Int.natCast_mul, Int.mul_comm]
      have e1 : ((n * K : Nat) : Int) * d = (K : Int) * n * d := by rw [hc]
      rw [e1] at hs5
      have HS := Lib.hid hs5
      have p0 : 0 ≤ (K : Int) * n := Int.mul_nonneg (by omega) (by omega)
      have p1 : (K : Int) * n ≤ 9223372036854775807 := by rw [← hc]; omega
      have p2 : -9223372036854775808 ≤ (K : Int) * n * d := by omega
      have p3 : (K : Int) * n * d ≤ 9223372036854775807 := by omega
      have HE : (f 0 + f 1 + f 2 + f 3 + f 4 == (K : Int) * n * d) = true := beq_iff_eq.2 hs5
      clear hs5 e1 hc
      refine wp_loop_rounds 6 ?_
      rw [rounds_succ]
      go_wp2_with fail
      rw [rounds_succ]
      go_wp2_with fail
      rw [rounds_succ]
      go_wp2_with fail
      rw [rounds_succ]
      go_wp2_with fail
      rw [rounds_succ]
      go_wp2_with fail
      rw [rounds_succ]
      go_wp2_with fail
      go_returns
      exact ⟨rfl, hW5.alloc hW5.size _⟩

theorem many_law (a : Int) (ha : (Lit.int .u8 a).wf = true) (b : Int) (hb : (Lit.int .u8 b).wf = true) (d : Int) (hd : (Lit.int .i16 d).wf = true) (w : World) :
    Calls Try.prog 4 #[.int .u8 a, .int .u8 b, .int .i16 d] w fun e w' => e = .returned (.bool true) ∧ Below w.heap.size w w' := by
  have h1 := bounds_u8 ha
  have h2 := bounds_u8 hb
  have h3 := bounds_i16 hd
  obtain ⟨n, rfl⟩ : ∃ n : Nat, a = n := ⟨a.toNat, by omega⟩
  obtain ⟨m, rfl⟩ : ∃ n : Nat, b = n := ⟨b.toNat, by omega⟩
  exact many_any n m d (by omega) (by omega) h3.1 h3.2 w
end Go.Proofs.Ytlihgdbmcddobaa
