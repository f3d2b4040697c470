/- Asked behind each one that is put: the walk of RingTurns. -/
import Derived.Test.YtiajdfipkojodaaS1
namespace Go.Proofs.Ytiajdfipkojodaa
open Go.RowKit
set_option linter.unusedSimpArgs false
set_option linter.unusedVariables false

def turnP : Nat → Ent := fun i => ⟨i, i, 0, 0, (i : Int) * 3, 0, 0, 0, 0, false⟩

theorem RR.miss {W : World} {r a n c : Nat} {P : Nat → Ent} {wr : World} (h : RR W r a n c P wr) (k : Int) (hcb : c ≤ 1000000000000) (hout : k < ((c - n : Nat) : Int) ∨ (c : Int) ≤ k) :
    Calls Try.prog 10 #[.pointer (some ⟨r, 0, none⟩), .int .i64 k] wr fun e w' => e = .returned (.tuple #[.agg #[.int .i64 0, .int .i64 0, .int .i64 0, .int .i64 0, .int .i64 0, .int .i64 0, .int .i64 0, .int .i64 0, .int .i64 0, .bool false], .bool false]) ∧ Below wr.heap.size wr w' :=
  get_none_m r a n c P k wr hcb h.1 hout

theorem RR.hit {W : World} {r a n c : Nat} {P : Nat → Ent} {wr : World} (h : RR W r a n c P wr) (k : Nat) (x : Int) (E : Ent) (hcb : c ≤ 1000000000000) (h1 : c ≤ k + n) (h2 : k < c) (hx : (k : Int) = x) (hE : P k = E) :
    Calls Try.prog 10 #[.pointer (some ⟨r, 0, none⟩), .int .i64 x] wr fun e w' => e = .returned (.tuple #[.agg #[.int .i64 E.v0, .int .i64 E.v1, .int .i64 E.v2, .int .i64 E.v3, .int .i64 E.v4, .int .i64 E.v5, .int .i64 E.v6, .int .i64 E.v7, .int .i64 E.v8, .bool E.v9], .bool true]) ∧ Below wr.heap.size wr w' :=
  get_e r a n c P k x E wr hcb h.1 h1 h2 hx hE

theorem RR.alloc {W : World} {r a n c : Nat} {P : Nat → Ent} {wr : World} (h : RR W r a n c P wr) (o : Obj) : RR W r a n c P (wr.alloc o) := h.below ((Below.refl _ _).alloc (Nat.le_refl _) _)

set_option maxRecDepth 100000 in
set_option maxHeartbeats 1600000 in
theorem turns_any (a b : Nat) (ha : a ≤ 255) (hb : b ≤ 65535) (w : World) :
    Calls Try.prog 4 #[.int .u8 a, .int .u16 b] w fun e w' => e = .returned (.bool true) ∧ Below w.heap.size w w' := by
  go_enter Try.func4, Try.ntmps4
  go_wp2_with fail
  refine (awake_any _).mono ?_
  rintro e w0 ⟨rfl, hb0⟩
  go_wp2_with fail
  obtain ⟨K, hK⟩ : ∃ K : Nat, (a : Int) % 40 = K := ⟨a % 40, by omega⟩
  rw [hK]
  have h2 : K ≤ 39 := by omega
  clear hK
  refine (new_m K K (by omega) turnP _).mono ?_
  rintro e w1 ⟨rfl, h1, hb1⟩
  have hR : RR w (w0.heap.size + 1) w0.heap.size K 0 turnP w1 := ⟨h1, hb0.trans (hb1.mono hb0.size), by have := hb0.size; omega, hb0.size⟩
  clear h1 hb0 hb1
  go_wp2_with fail
  obtain ⟨T, hT⟩ : ∃ K : Nat, (b : Int) % 200 = K := ⟨b % 200, by omega⟩
  have hT2 : T ≤ 199 := by omega
  go_loopw [7] (fun i wr => ∃ n : Nat, n ≤ T ∧ i = .int .i64 n ∧ RR w (w0.heap.size + 1) w0.heap.size K n turnP wr) (fun i _ => T - (intOf i).toNat)
  case atStart => exact ⟨0, by omega, rfl, hR⟩
  case round =>
    obtain ⟨n, hn, rfl, hr⟩ := hrel
    clear hR
    by_cases hlt : n < T
    · have hdT : decide ((n : Int) < T) = true := by simp; omega
      have hdT' : decide (n < T) = true := by simp; omega
      by_cases hk0 : K = 0
      · have k1 : decide (0 < K) = false := by simp; omega
        have k2 : decide (0 < (K : Int)) = false := by simp; omega
        have HK0 := Lib.hid hk0
        clear hk0
        go_wp2_with fail
        refine (hr.put _ _ (by omega) (by rfl) (by rfl) (by rfl)).mono ?_
        rintro e w2 ⟨rfl, hr2⟩
        clear hr
        go_wp2_with fail
        refine (hr2.miss n (by omega) (by have := HK0.out; omega)).mono ?_
        rintro e w3 ⟨rfl, hb3⟩
        have hr3 := hr2.below hb3
        clear hb3 hr2
        go_wp2_with fail
        refine ((hr3.alloc _).miss _ (by omega) (by omega)).mono ?_
        rintro e w4 ⟨rfl, hb4⟩
        have hr4 := (hr3.alloc _).below hb4
        have hs34 : w3.heap.size < w4.heap.size := by have := hb4.size; simp at this; omega
        clear hr3 hb4
        go_wp2_with fail
        refine ((hr4.alloc _).miss _ (by omega) (by have := HK0.out; omega)).mono ?_
        rintro e w5 ⟨rfl, hb5⟩
        have hr5 := (hr4.alloc _).below hb5
        clear hr4 hb5
        go_wp2_with fail
        go_roundw
        case rel => exact ⟨n + 1, by omega, by go_num, hr5.alloc _⟩
        case measure => simp [intOf]; omega
      · have hkp : 0 < K := by omega
        have k1 : decide (0 < K) = true := by simp; omega
        have k2 : decide (0 < (K : Int)) = true := by simp; omega
        by_cases hj : n + 1 < K
        · have k3 : decide (0 ≤ (n : Int) - K + 1) = false := by simp; omega
          go_wp2_with fail
          refine (hr.put _ _ (by omega) (by rfl) (by rfl) (by rfl)).mono ?_
          rintro e w2 ⟨rfl, hr2⟩
          clear hr
          go_wp2_with fail
          refine (hr2.hit n n ⟨n, n, 0, 0, (n : Int) * 3, 0, 0, 0, 0, false⟩ (by omega) (by omega) (by omega) (by rfl) (by rfl)).mono ?_
          rintro e w3 ⟨rfl, hb3⟩
          have hr3 := hr2.below hb3
          clear hb3 hr2
          go_wp2_with fail
          refine ((hr3.alloc _).miss _ (by omega) (by omega)).mono ?_
          rintro e w4 ⟨rfl, hb4⟩
          have hr4 := (hr3.alloc _).below hb4
          have hs34 : w3.heap.size < w4.heap.size := by have := hb4.size; simp at this; omega
          have c1 : w4.cell? ⟨w3.heap.size, 1, none⟩ = some (.int .i64 n) := (hb4.cell (p := ⟨w3.heap.size, 1, none⟩) (by simp)).trans (by go_simp)
          have c4 : w4.cell? ⟨w3.heap.size, 4, none⟩ = some (.int .i64 (n * 3)) := (hb4.cell (p := ⟨w3.heap.size, 4, none⟩) (by simp)).trans (by go_simp)
          clear hr3 hb4
          go_wp2_with fail
          refine ((hr4.alloc _).miss _ (by omega) (by omega)).mono ?_
          rintro e w5 ⟨rfl, hb5⟩
          have hr5 := (hr4.alloc _).below hb5
          have d1 : w5.cell? ⟨w3.heap.size, 1, none⟩ = some (.int .i64 n) := (hb5.cell (p := ⟨w3.heap.size, 1, none⟩) (by simp; omega)).trans (by go_simp)
          have d4 : w5.cell? ⟨w3.heap.size, 4, none⟩ = some (.int .i64 (n * 3)) := (hb5.cell (p := ⟨w3.heap.size, 4, none⟩) (by simp; omega)).trans (by go_simp)
          have hs35 : w3.heap.size < w5.heap.size := by have := hb5.size; simp at this; omega
          clear hr4 hb5 c1 c4
          go_wp2_with fail
          go_roundw
          case rel => exact ⟨n + 1, by omega, by go_num, hr5.alloc _⟩
          case measure => simp [intOf]; omega
        · have k3 : decide (0 ≤ (n : Int) - K + 1) = true := by simp; omega
          go_wp2_with fail
          refine (hr.put _ _ (by omega) (by rfl) (by rfl) (by rfl)).mono ?_
          rintro e w2 ⟨rfl, hr2⟩
          clear hr
          go_wp2_with fail
          refine (hr2.hit n n ⟨n, n, 0, 0, (n : Int) * 3, 0, 0, 0, 0, false⟩ (by omega) (by omega) (by omega) (by rfl) (by rfl)).mono ?_
          rintro e w3 ⟨rfl, hb3⟩
          have hr3 := hr2.below hb3
          clear hb3 hr2
          go_wp2_with fail
          refine ((hr3.alloc _).miss _ (by omega) (by omega)).mono ?_
          rintro e w4 ⟨rfl, hb4⟩
          have hr4 := (hr3.alloc _).below hb4
          have hs34 : w3.heap.size < w4.heap.size := by have := hb4.size; simp at this; omega
          have c1 : w4.cell? ⟨w3.heap.size, 1, none⟩ = some (.int .i64 n) := (hb4.cell (p := ⟨w3.heap.size, 1, none⟩) (by simp)).trans (by go_simp)
          have c4 : w4.cell? ⟨w3.heap.size, 4, none⟩ = some (.int .i64 (n * 3)) := (hb4.cell (p := ⟨w3.heap.size, 4, none⟩) (by simp)).trans (by go_simp)
          clear hr3 hb4
          go_wp2_with fail
          refine ((hr4.alloc _).hit (n + 1 - K) _ ⟨((n + 1 - K : Nat) : Int), ((n + 1 - K : Nat) : Int), 0, 0, ((n + 1 - K : Nat) : Int) * 3, 0, 0, 0, 0, false⟩ (by omega) (by omega) (by omega) (by omega) (by rfl)).mono ?_
          rintro e w5 ⟨rfl, hb5⟩
          have hr5 := (hr4.alloc _).below hb5
          have d1 : w5.cell? ⟨w3.heap.size, 1, none⟩ = some (.int .i64 n) := (hb5.cell (p := ⟨w3.heap.size, 1, none⟩) (by simp; omega)).trans (by go_simp)
          have d4 : w5.cell? ⟨w3.heap.size, 4, none⟩ = some (.int .i64 (n * 3)) := (hb5.cell (p := ⟨w3.heap.size, 4, none⟩) (by simp; omega)).trans (by go_simp)
          have hs35 : w3.heap.size < w5.heap.size := by have := hb5.size; simp at this; omega
          clear hr4 hb5 c1 c4
          go_wp2_with fail
          go_roundw
          case rel => exact ⟨n + 1, by omega, by go_num, hr5.alloc _⟩
          case measure => simp [intOf]; omega
    · have : n = T := by omega
      subst this
      go_wp2_with fail
      refine (since_m _ _ K n (n - K) (min K n) turnP (-5) _ (by omega) hr.1 (by omega) (by omega)).mono ?_
      rintro e w8 ⟨A, cap, rfl, _, hb8⟩
      have hres := (hr.below hb8).2.1
      by_cases hkn : K < n
      · have h0 : min K n = K := by omega
        have h1 : (K : Int) < n := by omega
        go_wp2_with fail
        go_returns
        exact ⟨rfl, hres⟩
      · by_cases hkn2 : K = n
        · subst hkn2
          have h0 : min K K = K := by omega
          go_wp2_with fail
          go_returns
          exact ⟨rfl, hres⟩
        · have h0 : min K n = n := by omega
          have h1 : (n : Int) < K := by omega
          go_wp2_with fail
          go_returns
          exact ⟨rfl, hres⟩

theorem turns_law (a : Int) (ha : (Lit.int .u8 a).wf = true) (b : Int) (hb : (Lit.int .u16 b).wf = true) (w : World) :
    Calls Try.prog 4 #[.int .u8 a, .int .u16 b] w fun e w' => e = .returned (.bool true) ∧ Below w.heap.size w w' := by
  have h1 := bounds_u8 ha
  have h2 := bounds_u16 hb
  obtain ⟨n, rfl⟩ : ∃ n : Nat, a = n := ⟨a.toNat, by omega⟩
  obtain ⟨m, rfl⟩ : ∃ n : Nat, b = n := ⟨b.toNat, by omega⟩
  exact turns_any n m (by omega) (by omega) w
end Go.Proofs.Ytiajdfipkojodaa
