/- The number that comes next: the walk of RingReads. -/
import Derived.Test.YtiajdfipkojodaaR6
import Derived.OpenShut
namespace Go.Proofs.Ytiajdfipkojodaa
open Go.RowKit
set_option linter.unusedSimpArgs false
set_option linter.unusedVariables false

/-- A ring of n places in blocks r, a, of c entries P; below the old heap's end all is as it was. -/
def RR (W : World) (r a n c : Nat) (P : Nat → Ent) (wr : World) : Prop := isR wr r a n c P ∧ Below W.heap.size W wr ∧ W.heap.size ≤ r ∧ W.heap.size ≤ a

theorem RR.put {W : World} {r a n c : Nat} {P : Nat → Ent} {wr : World} (h : RR W r a n c P wr) (clk : Int) (pv : Value) (hcb : c ≤ 1000000000000) (h0 : (P c).v0 = c) (h1 : (P c).v1 = clk) (h2 : (P c).piece = pv) :
    Calls Try.prog 8 #[.pointer (some ⟨r, 0, none⟩), .int .i64 clk, pv] wr fun en w' => en = .returned (.int .i64 c) ∧ RR W r a n (c + 1) P w' := by
  refine (put_p r a n c P clk pv c wr hcb h.1 h0 h1 h2 rfl).mono ?_
  rintro en w' ⟨rfl, h', ho⟩
  exact ⟨rfl, h', h.2.1.trans (ho.below h.2.2.1 h.2.2.2 h.2.1.size), h.2.2⟩

theorem RR.next {W : World} {r a n c : Nat} {P : Nat → Ent} {wr : World} (h : RR W r a n c P wr) :
    Calls Try.prog 9 #[.pointer (some ⟨r, 0, none⟩)] wr fun e w' => e = .returned (.int .i64 c) ∧ wr = w' :=
  next_m r a n c P c wr h.1 rfl

theorem RR.below {W : World} {r a n c : Nat} {P : Nat → Ent} {wr w' : World} (h : RR W r a n c P wr) (hb : Below wr.heap.size wr w') : RR W r a n c P w' :=
  ⟨h.1.below hb, h.2.1.trans (hb.mono h.2.1.size), h.2.2⟩

def readP : Nat → Ent := fun i => ⟨i, i, 0, 0, 0, 0, 0, 0, 0, false⟩

set_option maxHeartbeats 800000 in
theorem reads_any (a b : Nat) (ha : a ≤ 255) (hb : b ≤ 65535) (w : World) :
    Calls Try.prog 5 #[.int .u8 a, .int .u16 b] w fun e w' => e = .returned (.bool true) ∧ Below w.heap.size w w' := by
  go_enter Try.func5, Try.ntmps5
  go_wp2_with fail
  refine (awake_any _).mono ?_
  rintro e w0 ⟨rfl, hb0⟩
  go_wp2_with fail
  refine (new_m a a (by omega) readP _).mono ?_
  rintro e w1 ⟨rfl, h1, hb1⟩
  have hR : RR w (w0.heap.size + 1) w0.heap.size a 0 readP w1 := ⟨h1, hb0.trans (hb1.mono hb0.size), by have := hb0.size; omega, hb0.size⟩
  clear h1 hb0 hb1
  go_wp2_with fail
  obtain ⟨T, hT⟩ : ∃ K : Nat, (b : Int) % 500 = K := ⟨b % 500, by omega⟩
  rw [hT]
  have h2 : T ≤ 499 := by omega
  clear hT
  go_loopw [7] (fun i wr => ∃ n : Nat, n ≤ T ∧ i = .int .i64 n ∧ RR w (w0.heap.size + 1) w0.heap.size a n readP wr) (fun i _ => T - (intOf i).toNat)
  case atStart => exact ⟨0, by omega, rfl, hR⟩
  case round =>
    obtain ⟨n, hn, rfl, hr⟩ := hrel
    clear hR
    by_cases hlt : n < T
    · have hd : decide ((n : Int) < T) = true := by simp; omega
      have hd' : decide (n < T) = true := by simp; omega
      go_wp2_with fail
      refine hr.next.mono ?_
      rintro e w2 ⟨rfl, rfl⟩
      go_wp2_with fail
      refine (hr.put _ _ (by omega) (by rfl) (by rfl) (by rfl)).mono ?_
      rintro e w2 ⟨rfl, hr2⟩
      go_wp2_with fail
      refine hr2.next.mono ?_
      rintro e w3 ⟨rfl, rfl⟩
      rw [show ((n + 1 : Nat) : Int) = (n : Int) + 1 by omega]
      go_wp2_with fail
      go_roundw
      case rel => exact ⟨n + 1, by omega, by go_num, hr2⟩
      case measure => simp [intOf]; omega
    · have : n = T := by omega
      subst this
      go_wp2_with fail
      refine hr.next.mono ?_
      rintro e w2 ⟨rfl, rfl⟩
      go_wp2_with fail
      refine (since_m _ _ a n (max n (n - a)) 0 readP n _ (by omega) hr.1 (by omega) (by omega)).mono ?_
      rintro e w8 ⟨A, cap, rfl, _, hb8⟩
      go_wp2_with fail
      go_returns
      exact ⟨rfl, (hr.below hb8).2.1⟩

theorem reads_law (a : Int) (ha : (Lit.int .u8 a).wf = true) (b : Int) (hb : (Lit.int .u16 b).wf = true) (w : World) :
    Calls Try.prog 5 #[.int .u8 a, .int .u16 b] w fun e w' => e = .returned (.bool true) ∧ Below w.heap.size w w' := by
  have h1 := bounds_u8 ha
  have h2 := bounds_u16 hb
  obtain ⟨n, rfl⟩ : ∃ n : Nat, a = n := ⟨a.toNat, by omega⟩
  obtain ⟨m, rfl⟩ : ∃ n : Nat, b = n := ⟨b.toNat, by omega⟩
  exact reads_any n m (by omega) (by omega) w
end Go.Proofs.Ytiajdfipkojodaa
