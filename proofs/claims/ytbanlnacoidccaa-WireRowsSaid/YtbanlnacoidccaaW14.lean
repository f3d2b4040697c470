/- Any bytes: the command that they begin with. -/
import Derived.Test.YtbanlnacoidccaaW13
namespace Go.Proofs.Ytbanlnacoidccaa
open Go.RowKit
set_option linter.unusedSimpArgs false
set_option linter.unusedVariables false

theorem be2_num (a b : Int) (ha : 0 ≤ a ∧ a ≤ 255) (hb : 0 ≤ b ∧ b ≤ 255) : be (num [a, b]) 2 = [a, b] := by
  rw [be2]; simp [num]; omega
theorem be4_num (a b c d : Int) (ha : 0 ≤ a ∧ a ≤ 255) (hb : 0 ≤ b ∧ b ≤ 255) (hc : 0 ≤ c ∧ c ≤ 255) (hd : 0 ≤ d ∧ d ≤ 255) : be (num [a, b, c, d]) 4 = [a, b, c, d] := by
  rw [be4]; simp [num]; omega
theorem num2_range (a b : Int) (ha : 0 ≤ a ∧ a ≤ 255) (hb : 0 ≤ b ∧ b ≤ 255) : 0 ≤ num [a, b] ∧ num [a, b] ≤ 65535 := by
  simp [num]; omega
theorem num4_range (a b c d : Int) (ha : 0 ≤ a ∧ a ≤ 255) (hb : 0 ≤ b ∧ b ≤ 255) (hc : 0 ≤ c ∧ c ≤ 255) (hd : 0 ≤ d ∧ d ≤ 255) : 0 ≤ num [a, b, c, d] ∧ num [a, b, c, d] ≤ 4294967295 := by
  simp [num]; omega
theorem okF_of {n most : Int} {has : Bool} (h0 : 0 ≤ n) (h1 : n ≤ most) (h : has = true ∨ n = 0) : okF n most has = true := by
  unfold okF
  rcases h with rfl | rfl <;> simp <;> omega

/-- What is read out of bytes is a command, and its bytes are these. -/
theorem enc_read {xs : List Int} (hA : AllB xs) (h : good xs = true) : valid (rdOp xs) (rdID xs) (rdE xs) (rdP xs) = true ∧ enc (rdOp xs) (rdID xs) (rdE xs) (rdP xs) = xs.take (csize (rdOp xs)) := by
  unfold good at h
  simp at h
  obtain ⟨h0, h4, hs⟩ := h
  have hB : ∀ i, i < xs.length → 0 ≤ xs.getD i 0 ∧ xs.getD i 0 ≤ 255 := hA
  unfold valid enc rdID rdE rdP
  match xs, h0 with
  | x0 :: ys, _ =>
    have e0 : rdOp (x0 :: ys) = x0 := rfl
    rw [e0] at h4 hs ⊢
    rw [h4]
    have hy : ∀ i, i < ys.length → 0 ≤ ys.getD i 0 ∧ ys.getD i 0 ≤ 255 := fun i hi => by
      have := hB (i + 1) (by simp; omega)
      simpa using this
    clear hB hA e0
    rcases flags_cases h4 with ⟨f1, f2, f3⟩ | ⟨f1, f2, f3⟩ | ⟨f1, f2, f3⟩ | ⟨f1, f2, f3⟩
    · simp only [csize, f1, f2, f3, if_true, List.length_cons] at hs ⊢
      match ys, hs, hy with
      | a :: b :: c :: d :: e :: f :: g :: i :: j :: k :: r, _, hy =>
        have q0 := hy 0 (by simp)
        have q1 := hy 1 (by simp)
        have q2 := hy 2 (by simp)
        have q3 := hy 3 (by simp)
        have q4 := hy 4 (by simp)
        have q5 := hy 5 (by simp)
        have q6 := hy 6 (by simp)
        have q7 := hy 7 (by simp)
        have q8 := hy 8 (by simp)
        have q9 := hy 9 (by simp)
        simp only [List.getD_cons_zero, List.getD_cons_succ] at q0 q1 q2 q3 q4 q5 q6 q7 q8 q9
        have g1 := num2_range a b q0 q1
        have g2 := num4_range c d e f q2 q3 q4 q5
        have g3 := num4_range g i j k q6 q7 q8 q9
        have k1 := okF_of (has := true) g1.1 g1.2 (Or.inl rfl)
        have k2 := okF_of (has := true) g2.1 g2.2 (Or.inl rfl)
        have k3 := okF_of (has := true) g3.1 g3.2 (Or.inl rfl)
        simp [k1, k2, k3, be2_num a b q0 q1, be4_num c d e f q2 q3 q4 q5, be4_num g i j k q6 q7 q8 q9]
    · simp only [csize, f1, f2, f3, if_true, List.length_cons] at hs ⊢
      match ys, hs, hy with
      | a :: b :: c :: d :: e :: f :: r, _, hy =>
        have q0 := hy 0 (by simp)
        have q1 := hy 1 (by simp)
        have q2 := hy 2 (by simp)
        have q3 := hy 3 (by simp)
        have q4 := hy 4 (by simp)
        have q5 := hy 5 (by simp)
        simp only [List.getD_cons_zero, List.getD_cons_succ] at q0 q1 q2 q3 q4 q5
        have g1 := num2_range a b q0 q1
        have g2 := num4_range c d e f q2 q3 q4 q5
        have k1 := okF_of (has := true) g1.1 g1.2 (Or.inl rfl)
        have k2 := okF_of (has := true) g2.1 g2.2 (Or.inl rfl)
        have k3 := okF_of (n := 0) (most := 4294967295) (has := false) (by omega) (by omega) (Or.inr rfl)
        simp [k1, k2, k3, be2_num a b q0 q1, be4_num c d e f q2 q3 q4 q5]
    · simp only [csize, f1, f2, f3, if_true, List.length_cons] at hs ⊢
      match ys, hs, hy with
      | a :: b :: r, _, hy =>
        have q0 := hy 0 (by simp)
        have q1 := hy 1 (by simp)
        simp only [List.getD_cons_zero, List.getD_cons_succ] at q0 q1
        have g1 := num2_range a b q0 q1
        have k1 := okF_of (has := true) g1.1 g1.2 (Or.inl rfl)
        have k3 := okF_of (n := 0) (most := 4294967295) (has := false) (by omega) (by omega) (Or.inr rfl)
        simp [k1, k3, be2_num a b q0 q1]
    · simp only [csize, f1, f2, f3, if_true, List.length_cons] at hs ⊢
      have k2 := okF_of (n := 0) (most := 65535) (has := false) (by omega) (by omega) (Or.inr rfl)
      have k3 := okF_of (n := 0) (most := 4294967295) (has := false) (by omega) (by omega) (Or.inr rfl)
      simp [k2, k3]

set_option maxHeartbeats 1600000 in
theorem reads_big (x : ByA) (hx : 1000 < x.len) (w : World) :
    Calls Try.prog 4 #[x.V] w fun e w' => e = .returned (.bool true) ∧ Below w.heap.size w w' := by
  obtain ⟨a, len, cap, xs⟩ := x
  have hx' : 1000 < len := hx
  have hd : decide ((1000 : Int) < len) = true := by simp; omega
  have hd' : decide (1000 < len) = true := by simp; omega
  have hi : (1000 : Int) < len := by omega
  unfold ByA.V
  go_enter Try.func4, Try.ntmps4
  go_wp2_with fail
  refine (awake_any _).mono ?_
  rintro en w1 ⟨rfl, hb1⟩
  go_wp2_with fail
  go_returns
  exact ⟨rfl, hb1⟩

set_option maxHeartbeats 1600000 in
theorem reads_no (x : ByA) (hx : x.len ≤ 1000) (hg : good x.xs = false) (w : World) (hX : Sl w x.a x.len x.cap x.xs) :
    Calls Try.prog 4 #[x.V] w fun e w' => e = .returned (.bool true) ∧ Below w.heap.size w w' := by
  have hE := eqC
  obtain ⟨a, len, cap, xs⟩ := x
  have HG : Hid (good xs = false) := hg
  have hx' : len ≤ 1000 := hx
  have hX' : Sl w a len cap xs := hX
  clear hx hX hg
  have hd : decide ((1000 : Int) < len) = false := by simp; omega
  have hd' : decide (1000 < len) = false := by simp; omega
  have hi' : (len : Int) ≤ 1000 := by omega
  unfold ByA.V
  go_enter Try.func4, Try.ntmps4
  go_wp2_with fail
  refine (awake_any _).mono ?_
  rintro en w1 ⟨rfl, hb1⟩
  have hX1 := hX'.below hb1
  clear hX'
  go_wp2_with fail
  refine (read_no hX1 HG.out).mono ?_
  rintro en w2 ⟨rfl, hb2⟩
  have hX2 := hX1.below hb2
  have hb20 := hb1.trans (hb2.mono hb1.size)
  clear hX1 hb1 hb2
  by_cases h0 : 0 < len
  · obtain ⟨b, o, rfl, hbl, hB⟩ := hX2.at_ h0
    have hc := (hB 0 (by rw [hX2.long]; exact h0)).1
    have hr := (hB 0 (by rw [hX2.long]; exact h0)).2
    have hlong := hX2.long
    rw [Nat.add_zero] at hc
    have HC : Hid (isOp (xs.getD 0 0) = false ∨ xs.length < csize (xs.getD 0 0)) := by
      have := HG.out
      unfold good rdOp at this
      simp only [hlong, h0, decide_true, Bool.true_and, Bool.and_eq_false_iff, decide_eq_false_iff_not] at this
      rcases this with h | h
      · exact Or.inl h
      · exact Or.inr (by omega)
    clear hB hX2 HG
    generalize xs.getD 0 0 = k at hc hr HC
    obtain ⟨k, rfl⟩ : ∃ n : Nat, k = n := ⟨k.toNat, by omega⟩
    have hl0 : ¬ len = 0 := by omega
    have hli : ¬ (len : Int) = 0 := by omega
    have hbe : ((len : Int) == 0) = false := by simp; omega
    have h0i : (0 : Int) < len := by omega
    have hr1 := hr.1
    have hr2 := hr.2
    clear hr
    by_cases h1 : (k : Int) < 1
    · have hd1 : decide ((k : Int) < 1) = true := by simp; omega
      go_wp2_with fail
      go_returns
      exact ⟨rfl, (hb20.alloc hb20.size _).alloc (hb20.alloc hb20.size _).size _⟩
    by_cases h8 : 8 < (k : Int)
    · have hd1 : decide ((k : Int) < 1) = false := by simp; omega
      have hd2 : decide (8 < (k : Int)) = true := by simp; omega
      have hd3 : decide (8 < k) = true := by simp; omega
      have h1i : (1 : Int) ≤ k := by omega
      go_wp2_with fail
      go_returns
      exact ⟨rfl, (hb20.alloc hb20.size _).alloc (hb20.alloc hb20.size _).size _⟩
    have hs : len < csize (k : Int) := by
      have := HC.out
      rcases this with h | h
      · have := isOp_not h
        omega
      · omega
    clear HC hlong
    have hk : k = 1 ∨ k = 2 ∨ k = 3 ∨ k = 4 ∨ k = 5 ∨ k = 6 ∨ k = 7 ∨ k = 8 := by omega
    clear h1 h8 hr1 hr2
    have hq : ∃ L : Nat, csize (k : Int) = L ∧ len < L := ⟨_, rfl, hs⟩
    clear hs
    obtain ⟨L, hL, hs⟩ := hq
    have hs1 : decide ((len : Int) < L) = true := by simp; omega
    have hs2 : decide (len < L) = true := by simp; omega
    have hsi : (len : Int) < L := by omega
    have HL := Lib.hid hL
    clear hL
    rcases hk with rfl | rfl | rfl | rfl | rfl | rfl | rfl | rfl
    · obtain rfl : L = 11 := HL.out.symm
      clear hs1 hs2 hsi
      have hs1 : decide ((len : Int) < 11) = true := by simp; omega
      have hs2 : decide (len < 11) = true := by simp; omega
      have hsi : (len : Int) < 11 := by omega
      go_wp2_with fail
      go_returns
      exact ⟨rfl, (hb20.alloc hb20.size _).alloc (hb20.alloc hb20.size _).size _⟩
    · obtain rfl : L = 11 := HL.out.symm
      clear hs1 hs2 hsi
      have hs1 : decide ((len : Int) < 11) = true := by simp; omega
      have hs2 : decide (len < 11) = true := by simp; omega
      have hsi : (len : Int) < 11 := by omega
      go_wp2_with fail
      go_returns
      exact ⟨rfl, (hb20.alloc hb20.size _).alloc (hb20.alloc hb20.size _).size _⟩
    · obtain rfl : L = 3 := HL.out.symm
      clear hs1 hs2 hsi
      have hs1 : decide ((len : Int) < 3) = true := by simp; omega
      have hs2 : decide (len < 3) = true := by simp; omega
      have hsi : (len : Int) < 3 := by omega
      go_wp2_with fail
      go_returns
      exact ⟨rfl, (hb20.alloc hb20.size _).alloc (hb20.alloc hb20.size _).size _⟩
    · obtain rfl : L = 3 := HL.out.symm
      clear hs1 hs2 hsi
      have hs1 : decide ((len : Int) < 3) = true := by simp; omega
      have hs2 : decide (len < 3) = true := by simp; omega
      have hsi : (len : Int) < 3 := by omega
      go_wp2_with fail
      go_returns
      exact ⟨rfl, (hb20.alloc hb20.size _).alloc (hb20.alloc hb20.size _).size _⟩
    · obtain rfl : L = 3 := HL.out.symm
      clear hs1 hs2 hsi
      have hs1 : decide ((len : Int) < 3) = true := by simp; omega
      have hs2 : decide (len < 3) = true := by simp; omega
      have hsi : (len : Int) < 3 := by omega
      go_wp2_with fail
      go_returns
      exact ⟨rfl, (hb20.alloc hb20.size _).alloc (hb20.alloc hb20.size _).size _⟩
    · obtain rfl : L = 3 := HL.out.symm
      clear hs1 hs2 hsi
      have hs1 : decide ((len : Int) < 3) = true := by simp; omega
      have hs2 : decide (len < 3) = true := by simp; omega
      have hsi : (len : Int) < 3 := by omega
      go_wp2_with fail
      go_returns
      exact ⟨rfl, (hb20.alloc hb20.size _).alloc (hb20.alloc hb20.size _).size _⟩
    · obtain rfl : L = 7 := HL.out.symm
      clear hs1 hs2 hsi
      have hs1 : decide ((len : Int) < 7) = true := by simp; omega
      have hs2 : decide (len < 7) = true := by simp; omega
      have hsi : (len : Int) < 7 := by omega
      go_wp2_with fail
      go_returns
      exact ⟨rfl, (hb20.alloc hb20.size _).alloc (hb20.alloc hb20.size _).size _⟩
    · obtain rfl : L = 1 := HL.out.symm
      omega
  · obtain rfl : len = 0 := by omega
    clear HG hX2
    go_wp2_with fail
    go_returns
    exact ⟨rfl, (hb20.alloc hb20.size _).alloc (hb20.alloc hb20.size _).size _⟩

set_option maxHeartbeats 3200000 in
theorem reads_yes (x : ByA) (hx : x.len ≤ 1000) (hg : good x.xs = true) (w : World) (hX : Sl w x.a x.len x.cap x.xs) :
    Calls Try.prog 4 #[x.V] w fun e w' => e = .returned (.bool true) ∧ Below w.heap.size w w' := by
  obtain ⟨a, len, cap, xs⟩ := x
  have HG : Hid (good xs = true) := hg
  have hx' : len ≤ 1000 := hx
  have hX' : Sl w a len cap xs := hX
  have HR := Lib.hid (enc_read hX'.all hg)
  clear hx hX hg
  have hd : decide ((1000 : Int) < len) = false := by simp; omega
  have hd' : decide (1000 < len) = false := by simp; omega
  have hi' : (len : Int) ≤ 1000 := by omega
  have hlong := hX'.long
  have hroom := hX'.room
  have htop := hX'.top
  have hg := HG.out
  unfold good at hg
  simp only [Bool.and_eq_true, decide_eq_true_eq] at hg
  obtain ⟨h0, h4, hs⟩ := hg
  rw [hlong] at h0 hs
  have HV := Lib.hid HR.out.1
  have HE := Lib.hid HR.out.2
  have HA := Lib.hid (@enc_allB _ (rdID xs) (rdE xs) (rdP xs) h4)
  have HN : Hid ((enc (rdOp xs) (rdID xs) (rdE xs) (rdP xs)).length = csize (rdOp xs)) := enc_len
  clear h4 HR
  unfold ByA.V
  go_enter Try.func4, Try.ntmps4
  go_wp2_with fail
  refine (awake_any _).mono ?_
  rintro en w1 ⟨rfl, hb1⟩
  have hX1 := hX'.below hb1
  clear hX' hlong
  go_wp2_with fail
  refine (read_yes hX1 HG.out).mono ?_
  rintro en w2 ⟨rfl, hb2⟩
  have hX2 := hX1.below hb2
  have hb20 := hb1.trans (hb2.mono hb1.size)
  clear hX1 hb1 hb2 HG
  generalize csize (rdOp xs) = N at hs HE HN ⊢
  generalize rdOp xs = op at HV HE HA HN ⊢
  generalize rdID xs = id at HV HE HA HN ⊢
  generalize rdE xs = e at HV HE HA HN ⊢
  generalize rdP xs = p at HV HE HA HN ⊢
  obtain ⟨b, o, rfl, hbl, _⟩ := hX2.at_ h0
  go_wp2_with fail
  refine (law_yes op id e p _ HV.out).mono ?_
  rintro en w3 ⟨v, rfl, hO, hb3⟩
  obtain ⟨B, cb, rfl, hT⟩ := hO.sl HA.out
  have hb2a := ((Below.refl w2.heap.size w2).alloc (Nat.le_refl _) (.cells #[.int .i64 op, .int .i64 id, .int .i64 e, .int .i64 p] 23)).trans (hb3.mono (by simp))
  have hX3 := (hX2.below hb2a).take N hs
  have hb30 := hb20.trans (hb2a.mono hb20.size)
  rw [HN.out] at hT ⊢
  rw [HE.out] at hT
  have q1 : (N : Int) ≤ cap := by omega
  have q2 : N ≤ cap := by omega
  have q3 : (N : Int) ≤ len := by omega
  have q4 : decide ((N : Int) ≤ len) = true := by simp; omega
  have q5 : decide (N ≤ len) = true := by simp; omega
  have cA := fun (q : Nat) => conv_sl (show Sl (w3.drewN q) _ _ _ _ from hX3.below (below_drewN (Below.refl _ _) q))
  have cB := fun (q : Nat) => conv_sl (show Sl (w3.drewN q) _ _ _ _ from hT.below (below_drewN (Below.refl _ _) q))
  generalize strOf (xs.take N) = S at cA cB
  clear hb2a hX3 hX2 hT hO HE HN HV HA hb3 hb20
  go_wp2_with fail
  go_quiet (fail)
  go_wp2_with fail
  go_returns
  exact ⟨rfl, below_drewN hb30 _⟩

theorem reads_law (x : ByA) (w : World) (h : Sl w x.a x.len x.cap x.xs) :
    Calls Try.prog 4 #[x.V] w fun e w' => e = .returned (.bool true) ∧ Below w.heap.size w w' := by
  by_cases hx : x.len ≤ 1000
  · cases hg : good x.xs with
    | false => exact reads_no x hx hg w h
    | true => exact reads_yes x hx hg w h
  · exact reads_big x (by omega) w
end Go.Proofs.Ytbanlnacoidccaa
