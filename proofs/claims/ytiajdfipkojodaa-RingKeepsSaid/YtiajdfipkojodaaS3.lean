/- Of whatever was put the last are kept: the walk of RingKeeps (none to a hundred places). -/
import Derived.Test.YtiajdfipkojodaaS2
import Derived.Test.YtiajdfipkojodaaO
import Derived.BigQuiet
namespace Go.Proofs.Ytiajdfipkojodaa
open Go.RowKit
set_option linter.unusedSimpArgs false
set_option linter.unusedVariables false

def keepP (p : Nat → Ent) : Nat → Ent := fun i => ⟨i, (i : Int) * 3, (p i).v2, (p i).v3, (p i).v4, (p i).v5, (p i).v6, (p i).v7, (p i).v8, (p i).v9⟩

/-- The pieces that came in, as a law on cells. -/
def PCells (A : Option Addr) (len : Nat) (p : Nat → Ent) (W : World) : Prop :=
  ∀ i, i < len → ∃ b o, A = some ⟨b, o, none⟩ ∧ b < W.heap.size ∧ ∀ q, q < 8 → W.cell? ⟨b, o + (i * 8 + q), none⟩ = (p i).pcells[q]?

theorem PCells.at {A : Option Addr} {len : Nat} {p : Nat → Ent} {W wr : World} (h : PCells A len p W) (hb : Below W.heap.size W wr) {i : Nat} (hi : i < len) :
    ∃ b o, A = some ⟨b, o, none⟩ ∧ wr.cell? ⟨b, o + i * 8, none⟩ = some (.int .i64 (p i).v2) ∧ wr.cell? ⟨b, o + i * 8 + 1, none⟩ = some (.int .i64 (p i).v3) ∧ wr.cell? ⟨b, o + i * 8 + 2, none⟩ = some (.int .i64 (p i).v4) ∧
      wr.cell? ⟨b, o + i * 8 + 3, none⟩ = some (.int .i64 (p i).v5) ∧ wr.cell? ⟨b, o + i * 8 + 4, none⟩ = some (.int .i64 (p i).v6) ∧ wr.cell? ⟨b, o + i * 8 + 5, none⟩ = some (.int .i64 (p i).v7) ∧
      wr.cell? ⟨b, o + i * 8 + 6, none⟩ = some (.int .i64 (p i).v8) ∧ wr.cell? ⟨b, o + i * 8 + 7, none⟩ = some (.bool (p i).v9) := by
  obtain ⟨b, o, e, hlt, hc⟩ := h i hi
  refine ⟨b, o, e, ?_, ?_, ?_, ?_, ?_, ?_, ?_, ?_⟩
  · rw [hb.cell (p := ⟨b, _, none⟩) hlt]; exact hc 0 (by omega)
  · rw [hb.cell (p := ⟨b, _, none⟩) hlt]; exact hc 1 (by omega)
  · rw [hb.cell (p := ⟨b, _, none⟩) hlt]; exact hc 2 (by omega)
  · rw [hb.cell (p := ⟨b, _, none⟩) hlt]; exact hc 3 (by omega)
  · rw [hb.cell (p := ⟨b, _, none⟩) hlt]; exact hc 4 (by omega)
  · rw [hb.cell (p := ⟨b, _, none⟩) hlt]; exact hc 5 (by omega)
  · rw [hb.cell (p := ⟨b, _, none⟩) hlt]; exact hc 6 (by omega)
  · rw [hb.cell (p := ⟨b, _, none⟩) hlt]; exact hc 7 (by omega)

set_option maxRecDepth 100000 in
set_option maxHeartbeats 3200000 in
theorem keeps_in (A : Option Addr) (len cap : Nat) (p : Nat → Ent) (ask : Int) (K : Nat) (hK : K ≤ 100) (hl : len ≤ 300) (w : World) (H : Hid (PCells A len p w)) (ha0 : -9223372036854775808 ≤ ask) (ha1 : ask ≤ 9223372036854775807) :
    Calls Try.prog 3 #[.int .i64 K, .slice A len cap, .int .i64 ask] w fun e w' => e = .returned (.bool true) ∧ Below w.heap.size w w' := by
  have hl' : decide (300 < (len : Int)) = false := by simp; omega
  have hK1 : decide (100 < (K : Int)) = false := by simp; omega
  have hK2 : decide (100 < K) = false := by simp; omega
  have hE := eqE
  have hP := eqP
  go_enter Try.func3, Try.ntmps3
  go_wp2_with fail
  refine (awake_any _).mono ?_
  rintro e w0 ⟨rfl, hb0⟩
  go_wp2_with fail
  refine (new_m _ K (by omega) (keepP p) _).mono ?_
  rintro e w1 ⟨rfl, h1, hb1⟩
  have hR : RR w (w0.heap.size + 1) w0.heap.size K 0 (keepP p) w1 := ⟨h1, hb0.trans (hb1.mono hb0.size), by have := hb0.size; omega, hb0.size⟩
  clear h1 hb0 hb1
  go_wp2_with fail
  go_loopw [9] (fun i wr => ∃ n : Nat, n ≤ len ∧ i = .int .i64 n ∧ RR w (w0.heap.size + 1) w0.heap.size K n (keepP p) wr) (fun i _ => len - (intOf i).toNat)
  case atStart => exact ⟨0, by omega, rfl, hR⟩
  case round =>
    obtain ⟨n, hn, rfl, hr⟩ := hrel
    clear hR
    by_cases hlt : n < len
    · have hd : decide ((n : Int) < len) = true := by simp; omega
      have hd' : decide (n < len) = true := by simp; omega
      obtain ⟨b, o, rfl, c0, c1, c2, c3, c4, c5, c6, c7⟩ := H.out.at hr.2.1 hlt
      go_wp2_with fail
      refine (hr.put _ _ (by omega) (by rfl) (by rfl) (by rfl)).mono ?_
      rintro e w2 ⟨rfl, hr2⟩
      clear c0 c1 c2 c3 c4 c5 c6 c7
      go_wp2_with fail
      refine hr2.next.mono ?_
      rintro e w3 ⟨rfl, rfl⟩
      rw [show ((n + 1 : Nat) : Int) = (n : Int) + 1 by omega]
      go_wp2_with fail
      go_roundw
      case rel => exact ⟨n + 1, by omega, by go_num, hr2⟩
      case measure => simp [intOf]; omega
    · have : n = len := by omega
      subst this
      by_cases hnk : n ≤ K
      · have q1 : (n : Int) ≤ K := by omega
        by_cases k1 : ask < 0
        · have k2 : decide (0 ≤ ask) = false := by simp; omega
          go_wp2_with fail
          refine (hr.miss _ (by omega) (by omega)).mono ?_
          rintro e w3 ⟨rfl, hb3⟩
          have hr4 := (hr.below hb3).alloc (.cells #[.int .i64 0, .int .i64 0, .int .i64 0, .int .i64 0, .int .i64 0, .int .i64 0, .int .i64 0, .int .i64 0, .int .i64 0, .bool false] 33)
          clear hr hb3
          go_wp2_with fail
          have e0 : (w3.alloc (.cells #[.int .i64 0, .int .i64 0, .int .i64 0, .int .i64 0, .int .i64 0, .int .i64 0, .int .i64 0, .int .i64 0, .int .i64 0, .bool false] 33)).cell? ⟨w3.heap.size, 0, none⟩ = some (.int .i64 0) := by go_simp
          have e1 : (w3.alloc (.cells #[.int .i64 0, .int .i64 0, .int .i64 0, .int .i64 0, .int .i64 0, .int .i64 0, .int .i64 0, .int .i64 0, .int .i64 0, .bool false] 33)).cell? ⟨w3.heap.size, 1, none⟩ = some (.int .i64 0) := by go_simp
          have e2 : (w3.alloc (.cells #[.int .i64 0, .int .i64 0, .int .i64 0, .int .i64 0, .int .i64 0, .int .i64 0, .int .i64 0, .int .i64 0, .int .i64 0, .bool false] 33)).cell? ⟨w3.heap.size, 2, none⟩ = some (.int .i64 0) := by go_simp
          have e3 : (w3.alloc (.cells #[.int .i64 0, .int .i64 0, .int .i64 0, .int .i64 0, .int .i64 0, .int .i64 0, .int .i64 0, .int .i64 0, .int .i64 0, .bool false] 33)).cell? ⟨w3.heap.size, 3, none⟩ = some (.int .i64 0) := by go_simp
          have e4 : (w3.alloc (.cells #[.int .i64 0, .int .i64 0, .int .i64 0, .int .i64 0, .int .i64 0, .int .i64 0, .int .i64 0, .int .i64 0, .int .i64 0, .bool false] 33)).cell? ⟨w3.heap.size, 4, none⟩ = some (.int .i64 0) := by go_simp
          have e5 : (w3.alloc (.cells #[.int .i64 0, .int .i64 0, .int .i64 0, .int .i64 0, .int .i64 0, .int .i64 0, .int .i64 0, .int .i64 0, .int .i64 0, .bool false] 33)).cell? ⟨w3.heap.size, 5, none⟩ = some (.int .i64 0) := by go_simp
          have e6 : (w3.alloc (.cells #[.int .i64 0, .int .i64 0, .int .i64 0, .int .i64 0, .int .i64 0, .int .i64 0, .int .i64 0, .int .i64 0, .int .i64 0, .bool false] 33)).cell? ⟨w3.heap.size, 6, none⟩ = some (.int .i64 0) := by go_simp
          have e7 : (w3.alloc (.cells #[.int .i64 0, .int .i64 0, .int .i64 0, .int .i64 0, .int .i64 0, .int .i64 0, .int .i64 0, .int .i64 0, .int .i64 0, .bool false] 33)).cell? ⟨w3.heap.size, 7, none⟩ = some (.int .i64 0) := by go_simp
          have e8 : (w3.alloc (.cells #[.int .i64 0, .int .i64 0, .int .i64 0, .int .i64 0, .int .i64 0, .int .i64 0, .int .i64 0, .int .i64 0, .int .i64 0, .bool false] 33)).cell? ⟨w3.heap.size, 8, none⟩ = some (.int .i64 0) := by go_simp
          have e9 : (w3.alloc (.cells #[.int .i64 0, .int .i64 0, .int .i64 0, .int .i64 0, .int .i64 0, .int .i64 0, .int .i64 0, .int .i64 0, .int .i64 0, .bool false] 33)).cell? ⟨w3.heap.size, 9, none⟩ = some (.bool false) := by go_simp
          generalize (w3.alloc (.cells #[.int .i64 0, .int .i64 0, .int .i64 0, .int .i64 0, .int .i64 0, .int .i64 0, .int .i64 0, .int .i64 0, .int .i64 0, .bool false] 33)) = w4 at hr4 e0 e1 e2 e3 e4 e5 e6 e7 e8 e9 ⊢
          go_quiet (fail)
          go_wp2_with fail
          have hr5 := hr4.below (below_drewN (Below.refl _ _) nq)
          clear hr4
          by_cases hm0 : n = 0
          · refine (since_m _ _ K n 0 0 (keepP p) ask _ (by omega) hr5.1 (by omega) (by omega)).mono ?_
            rintro e w5 ⟨A5, cap5, rfl, hcs, hb5⟩
            have HC := Lib.hid hcs
            have hb50 : Below w.heap.size w w5 := (hr5.below hb5).2.1
            clear hcs hr5 hb5
            have z1 : (n : Int) = 0 := by omega
            go_wp2_with fail
            all_goals (refine wp_loop_rounds 1 ?_; rw [rounds_succ]; go_wp2_with fail; go_returns; exact ⟨rfl, hb50⟩)

          · refine (since_m _ _ K n 0 n (keepP p) ask _ (by omega) hr5.1 (by omega) (by omega)).mono ?_
            rintro e w5 ⟨A5, cap5, rfl, hcs, hb5⟩
            have HC := Lib.hid hcs
            have hb50 : Below w.heap.size w w5 := (hr5.below hb5).2.1
            clear hcs hr5 hb5
            have z1 : (0 : Int) < n := by omega
            have z2 : 0 < n := by omega
            go_wp2_with fail
            go_loopw [16] (fun i wr => ∃ j : Nat, j ≤ n ∧ i = .int .i64 j ∧ Below w5.heap.size w5 wr) (fun i _ => n - (intOf i).toNat)
            case atStart => exact ⟨0, by omega, rfl, Below.refl _ _⟩
            case round =>
              obtain ⟨j, hj, rfl, hbj⟩ := hrel
              by_cases hjl : j < n
              · obtain ⟨g, rfl, hg, hcg⟩ := HC.out j hjl
                have hg5 : g < w5.heap.size := lt_cell (v := .int .i64 ((0 + j : Nat) : Int)) (hcg 0 (by omega))
                have HCG := Lib.hid hcg
                have s0 : wr.cell? ⟨g, j * 10, none⟩ = some (.int .i64 ((0 : Int) + j)) := by rw [hbj.cell (p := ⟨g, _, none⟩) hg5]; exact (HCG.out 0 (by omega)).trans (by simp [Ent.cells, keepP])
                have s2 : wr.cell? ⟨g, j * 10 + 2, none⟩ = some (.int .i64 (p (0 + j)).v2) := by rw [hbj.cell (p := ⟨g, _, none⟩) hg5]; exact HCG.out 2 (by omega)
                have s3 : wr.cell? ⟨g, j * 10 + 3, none⟩ = some (.int .i64 (p (0 + j)).v3) := by rw [hbj.cell (p := ⟨g, _, none⟩) hg5]; exact HCG.out 3 (by omega)
                have s4 : wr.cell? ⟨g, j * 10 + 4, none⟩ = some (.int .i64 (p (0 + j)).v4) := by rw [hbj.cell (p := ⟨g, _, none⟩) hg5]; exact HCG.out 4 (by omega)
                have s5 : wr.cell? ⟨g, j * 10 + 5, none⟩ = some (.int .i64 (p (0 + j)).v5) := by rw [hbj.cell (p := ⟨g, _, none⟩) hg5]; exact HCG.out 5 (by omega)
                have s6 : wr.cell? ⟨g, j * 10 + 6, none⟩ = some (.int .i64 (p (0 + j)).v6) := by rw [hbj.cell (p := ⟨g, _, none⟩) hg5]; exact HCG.out 6 (by omega)
                have s7 : wr.cell? ⟨g, j * 10 + 7, none⟩ = some (.int .i64 (p (0 + j)).v7) := by rw [hbj.cell (p := ⟨g, _, none⟩) hg5]; exact HCG.out 7 (by omega)
                have s8 : wr.cell? ⟨g, j * 10 + 8, none⟩ = some (.int .i64 (p (0 + j)).v8) := by rw [hbj.cell (p := ⟨g, _, none⟩) hg5]; exact HCG.out 8 (by omega)
                have s9 : wr.cell? ⟨g, j * 10 + 9, none⟩ = some (.bool (p (0 + j)).v9) := by rw [hbj.cell (p := ⟨g, _, none⟩) hg5]; exact HCG.out 9 (by omega)
                have hnj : 0 + j < n := by first | omega | (have := HM.out; omega)
                obtain ⟨b, o, hA, c0, c1, c2, c3, c4, c5, c6, c7⟩ := H.out.at (hb50.trans (hbj.mono hb50.size)) hnj
                cases hA
                clear hcg
                generalize hfj : (0 + j : Nat) = fj at hnj s2 s3 s4 s5 s6 s7 s8 s9 c0 c1 c2 c3 c4 c5 c6 c7
                have hfi : (0 : Int) + j = fj := by omega
                have hfn : (fj : Int) < n := by omega
                have hjm : (j : Int) < (n : Nat) := by omega
                have hsw : IntKind.i64.wrap ((0 : Int) + j) = fj := by rw [IntWalk.i64_in _ (by omega)]; omega
                clear hfj
                go_wp2_with fail
                go_quiet (fail)
                go_wp2_with fail
                go_roundw
                case rel => exact ⟨j + 1, by omega, by go_num, below_drewN hbj _⟩
                case measure => simp [intOf]; omega
              · have hje : decide ((j : Int) < n) = false := by simp; omega
                go_wp2_with fail
                go_returns
                exact ⟨rfl, hb50.trans (hbj.mono hb50.size)⟩
        · by_cases k4 : (n : Int) ≤ ask
          · have k2 : decide (ask < (n : Int)) = false := by simp; omega
            go_wp2_with fail
            refine (hr.miss _ (by omega) (by omega)).mono ?_
            rintro e w3 ⟨rfl, hb3⟩
            have hr4 := (hr.below hb3).alloc (.cells #[.int .i64 0, .int .i64 0, .int .i64 0, .int .i64 0, .int .i64 0, .int .i64 0, .int .i64 0, .int .i64 0, .int .i64 0, .bool false] 33)
            clear hr hb3
            go_wp2_with fail
            have e0 : (w3.alloc (.cells #[.int .i64 0, .int .i64 0, .int .i64 0, .int .i64 0, .int .i64 0, .int .i64 0, .int .i64 0, .int .i64 0, .int .i64 0, .bool false] 33)).cell? ⟨w3.heap.size, 0, none⟩ = some (.int .i64 0) := by go_simp
            have e1 : (w3.alloc (.cells #[.int .i64 0, .int .i64 0, .int .i64 0, .int .i64 0, .int .i64 0, .int .i64 0, .int .i64 0, .int .i64 0, .int .i64 0, .bool false] 33)).cell? ⟨w3.heap.size, 1, none⟩ = some (.int .i64 0) := by go_simp
            have e2 : (w3.alloc (.cells #[.int .i64 0, .int .i64 0, .int .i64 0, .int .i64 0, .int .i64 0, .int .i64 0, .int .i64 0, .int .i64 0, .int .i64 0, .bool false] 33)).cell? ⟨w3.heap.size, 2, none⟩ = some (.int .i64 0) := by go_simp
            have e3 : (w3.alloc (.cells #[.int .i64 0, .int .i64 0, .int .i64 0, .int .i64 0, .int .i64 0, .int .i64 0, .int .i64 0, .int .i64 0, .int .i64 0, .bool false] 33)).cell? ⟨w3.heap.size, 3, none⟩ = some (.int .i64 0) := by go_simp
            have e4 : (w3.alloc (.cells #[.int .i64 0, .int .i64 0, .int .i64 0, .int .i64 0, .int .i64 0, .int .i64 0, .int .i64 0, .int .i64 0, .int .i64 0, .bool false] 33)).cell? ⟨w3.heap.size, 4, none⟩ = some (.int .i64 0) := by go_simp
            have e5 : (w3.alloc (.cells #[.int .i64 0, .int .i64 0, .int .i64 0, .int .i64 0, .int .i64 0, .int .i64 0, .int .i64 0, .int .i64 0, .int .i64 0, .bool false] 33)).cell? ⟨w3.heap.size, 5, none⟩ = some (.int .i64 0) := by go_simp
            have e6 : (w3.alloc (.cells #[.int .i64 0, .int .i64 0, .int .i64 0, .int .i64 0, .int .i64 0, .int .i64 0, .int .i64 0, .int .i64 0, .int .i64 0, .bool false] 33)).cell? ⟨w3.heap.size, 6, none⟩ = some (.int .i64 0) := by go_simp
            have e7 : (w3.alloc (.cells #[.int .i64 0, .int .i64 0, .int .i64 0, .int .i64 0, .int .i64 0, .int .i64 0, .int .i64 0, .int .i64 0, .int .i64 0, .bool false] 33)).cell? ⟨w3.heap.size, 7, none⟩ = some (.int .i64 0) := by go_simp
            have e8 : (w3.alloc (.cells #[.int .i64 0, .int .i64 0, .int .i64 0, .int .i64 0, .int .i64 0, .int .i64 0, .int .i64 0, .int .i64 0, .int .i64 0, .bool false] 33)).cell? ⟨w3.heap.size, 8, none⟩ = some (.int .i64 0) := by go_simp
            have e9 : (w3.alloc (.cells #[.int .i64 0, .int .i64 0, .int .i64 0, .int .i64 0, .int .i64 0, .int .i64 0, .int .i64 0, .int .i64 0, .int .i64 0, .bool false] 33)).cell? ⟨w3.heap.size, 9, none⟩ = some (.bool false) := by go_simp
            generalize (w3.alloc (.cells #[.int .i64 0, .int .i64 0, .int .i64 0, .int .i64 0, .int .i64 0, .int .i64 0, .int .i64 0, .int .i64 0, .int .i64 0, .bool false] 33)) = w4 at hr4 e0 e1 e2 e3 e4 e5 e6 e7 e8 e9 ⊢
            go_quiet (fail)
            go_wp2_with fail
            all_goals
              have hr5 := hr4.below (below_drewN (Below.refl _ _) nq)
              clear hr4
              refine (since_m _ _ K n ask.toNat 0 (keepP p) ask _ (by omega) hr5.1 (by omega) (by omega)).mono ?_
              rintro e w5 ⟨A5, cap5, rfl, hcs, hb5⟩
              have hb50 : Below w.heap.size w w5 := (hr5.below hb5).2.1
              clear hcs hr5 hb5
              have z1 : ¬ (0 : Int) < n - ask := by omega
              go_wp2_with fail
              all_goals (refine wp_loop_rounds 1 ?_; rw [rounds_succ]; go_wp2_with fail; go_returns; exact ⟨rfl, hb50⟩)
          · by_cases k5 : ask = 0
            · subst k5
              have k2 : decide (0 < (n : Int)) = true := decide_eq_true (by omega)
              have k3 : decide (0 ≤ (0 : Int)) = true := decide_eq_true (by omega)
              have k2' : decide (0 < n) = true := decide_eq_true (by omega)
              have k3' : decide (0 ≤ (0 : Nat)) = true := decide_eq_true (by omega)
              go_wp2_with fail
              refine (hr.hit 0 _ ⟨0, 0, (p 0).v2, (p 0).v3, (p 0).v4, (p 0).v5, (p 0).v6, (p 0).v7, (p 0).v8, (p 0).v9⟩ (by omega) (by omega) (by omega) (by omega) (by rfl)).mono ?_
              rintro e w3 ⟨rfl, hb3⟩
              have hr4 := (hr.below hb3).alloc (.cells #[.int .i64 0, .int .i64 (0), .int .i64 (p 0).v2, .int .i64 (p 0).v3, .int .i64 (p 0).v4, .int .i64 (p 0).v5, .int .i64 (p 0).v6, .int .i64 (p 0).v7, .int .i64 (p 0).v8, .bool (p 0).v9] 33)
              obtain ⟨b, o, rfl, c0, c1, c2, c3, c4, c5, c6, c7⟩ := H.out.at hr4.2.1 (show 0 < n by omega)
              clear hr hb3
              go_wp2_with fail
              have e0 : (w3.alloc (.cells #[.int .i64 0, .int .i64 (0), .int .i64 (p 0).v2, .int .i64 (p 0).v3, .int .i64 (p 0).v4, .int .i64 (p 0).v5, .int .i64 (p 0).v6, .int .i64 (p 0).v7, .int .i64 (p 0).v8, .bool (p 0).v9] 33)).cell? ⟨w3.heap.size, 0, none⟩ = some (.int .i64 0) := by go_simp
              have e1 : (w3.alloc (.cells #[.int .i64 0, .int .i64 (0), .int .i64 (p 0).v2, .int .i64 (p 0).v3, .int .i64 (p 0).v4, .int .i64 (p 0).v5, .int .i64 (p 0).v6, .int .i64 (p 0).v7, .int .i64 (p 0).v8, .bool (p 0).v9] 33)).cell? ⟨w3.heap.size, 1, none⟩ = some (.int .i64 (0)) := by go_simp
              have e2 : (w3.alloc (.cells #[.int .i64 0, .int .i64 (0), .int .i64 (p 0).v2, .int .i64 (p 0).v3, .int .i64 (p 0).v4, .int .i64 (p 0).v5, .int .i64 (p 0).v6, .int .i64 (p 0).v7, .int .i64 (p 0).v8, .bool (p 0).v9] 33)).cell? ⟨w3.heap.size, 2, none⟩ = some (.int .i64 (p 0).v2) := by go_simp
              have e3 : (w3.alloc (.cells #[.int .i64 0, .int .i64 (0), .int .i64 (p 0).v2, .int .i64 (p 0).v3, .int .i64 (p 0).v4, .int .i64 (p 0).v5, .int .i64 (p 0).v6, .int .i64 (p 0).v7, .int .i64 (p 0).v8, .bool (p 0).v9] 33)).cell? ⟨w3.heap.size, 3, none⟩ = some (.int .i64 (p 0).v3) := by go_simp
              have e4 : (w3.alloc (.cells #[.int .i64 0, .int .i64 (0), .int .i64 (p 0).v2, .int .i64 (p 0).v3, .int .i64 (p 0).v4, .int .i64 (p 0).v5, .int .i64 (p 0).v6, .int .i64 (p 0).v7, .int .i64 (p 0).v8, .bool (p 0).v9] 33)).cell? ⟨w3.heap.size, 4, none⟩ = some (.int .i64 (p 0).v4) := by go_simp
              have e5 : (w3.alloc (.cells #[.int .i64 0, .int .i64 (0), .int .i64 (p 0).v2, .int .i64 (p 0).v3, .int .i64 (p 0).v4, .int .i64 (p 0).v5, .int .i64 (p 0).v6, .int .i64 (p 0).v7, .int .i64 (p 0).v8, .bool (p 0).v9] 33)).cell? ⟨w3.heap.size, 5, none⟩ = some (.int .i64 (p 0).v5) := by go_simp
              have e6 : (w3.alloc (.cells #[.int .i64 0, .int .i64 (0), .int .i64 (p 0).v2, .int .i64 (p 0).v3, .int .i64 (p 0).v4, .int .i64 (p 0).v5, .int .i64 (p 0).v6, .int .i64 (p 0).v7, .int .i64 (p 0).v8, .bool (p 0).v9] 33)).cell? ⟨w3.heap.size, 6, none⟩ = some (.int .i64 (p 0).v6) := by go_simp
              have e7 : (w3.alloc (.cells #[.int .i64 0, .int .i64 (0), .int .i64 (p 0).v2, .int .i64 (p 0).v3, .int .i64 (p 0).v4, .int .i64 (p 0).v5, .int .i64 (p 0).v6, .int .i64 (p 0).v7, .int .i64 (p 0).v8, .bool (p 0).v9] 33)).cell? ⟨w3.heap.size, 7, none⟩ = some (.int .i64 (p 0).v7) := by go_simp
              have e8 : (w3.alloc (.cells #[.int .i64 0, .int .i64 (0), .int .i64 (p 0).v2, .int .i64 (p 0).v3, .int .i64 (p 0).v4, .int .i64 (p 0).v5, .int .i64 (p 0).v6, .int .i64 (p 0).v7, .int .i64 (p 0).v8, .bool (p 0).v9] 33)).cell? ⟨w3.heap.size, 8, none⟩ = some (.int .i64 (p 0).v8) := by go_simp
              have e9 : (w3.alloc (.cells #[.int .i64 0, .int .i64 (0), .int .i64 (p 0).v2, .int .i64 (p 0).v3, .int .i64 (p 0).v4, .int .i64 (p 0).v5, .int .i64 (p 0).v6, .int .i64 (p 0).v7, .int .i64 (p 0).v8, .bool (p 0).v9] 33)).cell? ⟨w3.heap.size, 9, none⟩ = some (.bool (p 0).v9) := by go_simp
              generalize (w3.alloc (.cells #[.int .i64 0, .int .i64 (0), .int .i64 (p 0).v2, .int .i64 (p 0).v3, .int .i64 (p 0).v4, .int .i64 (p 0).v5, .int .i64 (p 0).v6, .int .i64 (p 0).v7, .int .i64 (p 0).v8, .bool (p 0).v9] 33)) = w4 at hr4 e0 e1 e2 e3 e4 e5 e6 e7 e8 e9 c0 c1 c2 c3 c4 c5 c6 c7 ⊢
              have hkn : (0 : Int) < n := by omega
              have hkn' : 0 < n := by omega
              simp only [Nat.zero_mul, Nat.add_zero] at c0 c1 c2 c3 c4 c5 c6 c7
              have hk3 : IntKind.i64.wrap ((0 : Int) * 3) = (0 : Int) * 3 := IntWalk.i64_in _ (by omega)
              go_quiet (fail)
              go_wp2_with fail
              clear c0 c1 c2 c3 c4 c5 c6 c7
              have hr5 := hr4.below (below_drewN (Below.refl _ _) nq)
              clear hr4
              by_cases hm0 : n = 0
              · refine (since_m _ _ K n 0 0 (keepP p) 0 _ (by omega) hr5.1 (by omega) (by omega)).mono ?_
                rintro e w5 ⟨A5, cap5, rfl, hcs, hb5⟩
                have HC := Lib.hid hcs
                have hb50 : Below w.heap.size w w5 := (hr5.below hb5).2.1
                clear hcs hr5 hb5
                have z1 : (n : Int) = 0 := by omega
                go_wp2_with fail
                all_goals (refine wp_loop_rounds 1 ?_; rw [rounds_succ]; go_wp2_with fail; go_returns; exact ⟨rfl, hb50⟩)

              · refine (since_m _ _ K n 0 n (keepP p) 0 _ (by omega) hr5.1 (by omega) (by omega)).mono ?_
                rintro e w5 ⟨A5, cap5, rfl, hcs, hb5⟩
                have HC := Lib.hid hcs
                have hb50 : Below w.heap.size w w5 := (hr5.below hb5).2.1
                clear hcs hr5 hb5
                have z1 : (0 : Int) < n := by omega
                have z2 : 0 < n := by omega
                go_wp2_with fail
                go_loopw [16] (fun i wr => ∃ j : Nat, j ≤ n ∧ i = .int .i64 j ∧ Below w5.heap.size w5 wr) (fun i _ => n - (intOf i).toNat)
                case atStart => exact ⟨0, by omega, rfl, Below.refl _ _⟩
                case round =>
                  obtain ⟨j, hj, rfl, hbj⟩ := hrel
                  by_cases hjl : j < n
                  · obtain ⟨g, rfl, hg, hcg⟩ := HC.out j hjl
                    have hg5 : g < w5.heap.size := lt_cell (v := .int .i64 ((0 + j : Nat) : Int)) (hcg 0 (by omega))
                    have HCG := Lib.hid hcg
                    have s0 : wr.cell? ⟨g, j * 10, none⟩ = some (.int .i64 ((0 : Int) + j)) := by rw [hbj.cell (p := ⟨g, _, none⟩) hg5]; exact (HCG.out 0 (by omega)).trans (by simp [Ent.cells, keepP])
                    have s2 : wr.cell? ⟨g, j * 10 + 2, none⟩ = some (.int .i64 (p (0 + j)).v2) := by rw [hbj.cell (p := ⟨g, _, none⟩) hg5]; exact HCG.out 2 (by omega)
                    have s3 : wr.cell? ⟨g, j * 10 + 3, none⟩ = some (.int .i64 (p (0 + j)).v3) := by rw [hbj.cell (p := ⟨g, _, none⟩) hg5]; exact HCG.out 3 (by omega)
                    have s4 : wr.cell? ⟨g, j * 10 + 4, none⟩ = some (.int .i64 (p (0 + j)).v4) := by rw [hbj.cell (p := ⟨g, _, none⟩) hg5]; exact HCG.out 4 (by omega)
                    have s5 : wr.cell? ⟨g, j * 10 + 5, none⟩ = some (.int .i64 (p (0 + j)).v5) := by rw [hbj.cell (p := ⟨g, _, none⟩) hg5]; exact HCG.out 5 (by omega)
                    have s6 : wr.cell? ⟨g, j * 10 + 6, none⟩ = some (.int .i64 (p (0 + j)).v6) := by rw [hbj.cell (p := ⟨g, _, none⟩) hg5]; exact HCG.out 6 (by omega)
                    have s7 : wr.cell? ⟨g, j * 10 + 7, none⟩ = some (.int .i64 (p (0 + j)).v7) := by rw [hbj.cell (p := ⟨g, _, none⟩) hg5]; exact HCG.out 7 (by omega)
                    have s8 : wr.cell? ⟨g, j * 10 + 8, none⟩ = some (.int .i64 (p (0 + j)).v8) := by rw [hbj.cell (p := ⟨g, _, none⟩) hg5]; exact HCG.out 8 (by omega)
                    have s9 : wr.cell? ⟨g, j * 10 + 9, none⟩ = some (.bool (p (0 + j)).v9) := by rw [hbj.cell (p := ⟨g, _, none⟩) hg5]; exact HCG.out 9 (by omega)
                    have hnj : 0 + j < n := by first | omega | (have := HM.out; omega)
                    obtain ⟨b, o, hA, c0, c1, c2, c3, c4, c5, c6, c7⟩ := H.out.at (hb50.trans (hbj.mono hb50.size)) hnj
                    cases hA
                    clear hcg
                    generalize hfj : (0 + j : Nat) = fj at hnj s2 s3 s4 s5 s6 s7 s8 s9 c0 c1 c2 c3 c4 c5 c6 c7
                    have hfi : (0 : Int) + j = fj := by omega
                    have hfn : (fj : Int) < n := by omega
                    have hjm : (j : Int) < (n : Nat) := by omega
                    have hsw : IntKind.i64.wrap ((0 : Int) + j) = fj := by rw [IntWalk.i64_in _ (by omega)]; omega
                    clear hfj
                    go_wp2_with fail
                    go_quiet (fail)
                    go_wp2_with fail
                    go_roundw
                    case rel => exact ⟨j + 1, by omega, by go_num, below_drewN hbj _⟩
                    case measure => simp [intOf]; omega
                  · have hje : decide ((j : Int) < n) = false := by simp; omega
                    go_wp2_with fail
                    go_returns
                    exact ⟨rfl, hb50.trans (hbj.mono hb50.size)⟩
            · obtain ⟨k, rfl⟩ : ∃ k : Nat, ask = k := ⟨ask.toNat, by omega⟩
              have k6 : (0 : Int) < k := by omega
              have k2 : decide (k < (n : Int)) = true := decide_eq_true (by omega)
              have k3 : decide (0 ≤ (k : Int)) = true := decide_eq_true (by omega)
              have k2' : decide (k < n) = true := decide_eq_true (by omega)
              have k3' : decide (0 ≤ (k : Nat)) = true := decide_eq_true (by omega)
              go_wp2_with fail
              refine (hr.hit k _ ⟨(k : Int), (k : Int) * 3, (p k).v2, (p k).v3, (p k).v4, (p k).v5, (p k).v6, (p k).v7, (p k).v8, (p k).v9⟩ (by omega) (by omega) (by omega) (by omega) (by rfl)).mono ?_
              rintro e w3 ⟨rfl, hb3⟩
              have hr4 := (hr.below hb3).alloc (.cells #[.int .i64 k, .int .i64 ((k : Int) * 3), .int .i64 (p k).v2, .int .i64 (p k).v3, .int .i64 (p k).v4, .int .i64 (p k).v5, .int .i64 (p k).v6, .int .i64 (p k).v7, .int .i64 (p k).v8, .bool (p k).v9] 33)
              obtain ⟨b, o, rfl, c0, c1, c2, c3, c4, c5, c6, c7⟩ := H.out.at hr4.2.1 (show k < n by omega)
              clear hr hb3
              go_wp2_with fail
              have e0 : (w3.alloc (.cells #[.int .i64 k, .int .i64 ((k : Int) * 3), .int .i64 (p k).v2, .int .i64 (p k).v3, .int .i64 (p k).v4, .int .i64 (p k).v5, .int .i64 (p k).v6, .int .i64 (p k).v7, .int .i64 (p k).v8, .bool (p k).v9] 33)).cell? ⟨w3.heap.size, 0, none⟩ = some (.int .i64 k) := by go_simp
              have e1 : (w3.alloc (.cells #[.int .i64 k, .int .i64 ((k : Int) * 3), .int .i64 (p k).v2, .int .i64 (p k).v3, .int .i64 (p k).v4, .int .i64 (p k).v5, .int .i64 (p k).v6, .int .i64 (p k).v7, .int .i64 (p k).v8, .bool (p k).v9] 33)).cell? ⟨w3.heap.size, 1, none⟩ = some (.int .i64 ((k : Int) * 3)) := by go_simp
              have e2 : (w3.alloc (.cells #[.int .i64 k, .int .i64 ((k : Int) * 3), .int .i64 (p k).v2, .int .i64 (p k).v3, .int .i64 (p k).v4, .int .i64 (p k).v5, .int .i64 (p k).v6, .int .i64 (p k).v7, .int .i64 (p k).v8, .bool (p k).v9] 33)).cell? ⟨w3.heap.size, 2, none⟩ = some (.int .i64 (p k).v2) := by go_simp
              have e3 : (w3.alloc (.cells #[.int .i64 k, .int .i64 ((k : Int) * 3), .int .i64 (p k).v2, .int .i64 (p k).v3, .int .i64 (p k).v4, .int .i64 (p k).v5, .int .i64 (p k).v6, .int .i64 (p k).v7, .int .i64 (p k).v8, .bool (p k).v9] 33)).cell? ⟨w3.heap.size, 3, none⟩ = some (.int .i64 (p k).v3) := by go_simp
              have e4 : (w3.alloc (.cells #[.int .i64 k, .int .i64 ((k : Int) * 3), .int .i64 (p k).v2, .int .i64 (p k).v3, .int .i64 (p k).v4, .int .i64 (p k).v5, .int .i64 (p k).v6, .int .i64 (p k).v7, .int .i64 (p k).v8, .bool (p k).v9] 33)).cell? ⟨w3.heap.size, 4, none⟩ = some (.int .i64 (p k).v4) := by go_simp
              have e5 : (w3.alloc (.cells #[.int .i64 k, .int .i64 ((k : Int) * 3), .int .i64 (p k).v2, .int .i64 (p k).v3, .int .i64 (p k).v4, .int .i64 (p k).v5, .int .i64 (p k).v6, .int .i64 (p k).v7, .int .i64 (p k).v8, .bool (p k).v9] 33)).cell? ⟨w3.heap.size, 5, none⟩ = some (.int .i64 (p k).v5) := by go_simp
              have e6 : (w3.alloc (.cells #[.int .i64 k, .int .i64 ((k : Int) * 3), .int .i64 (p k).v2, .int .i64 (p k).v3, .int .i64 (p k).v4, .int .i64 (p k).v5, .int .i64 (p k).v6, .int .i64 (p k).v7, .int .i64 (p k).v8, .bool (p k).v9] 33)).cell? ⟨w3.heap.size, 6, none⟩ = some (.int .i64 (p k).v6) := by go_simp
              have e7 : (w3.alloc (.cells #[.int .i64 k, .int .i64 ((k : Int) * 3), .int .i64 (p k).v2, .int .i64 (p k).v3, .int .i64 (p k).v4, .int .i64 (p k).v5, .int .i64 (p k).v6, .int .i64 (p k).v7, .int .i64 (p k).v8, .bool (p k).v9] 33)).cell? ⟨w3.heap.size, 7, none⟩ = some (.int .i64 (p k).v7) := by go_simp
              have e8 : (w3.alloc (.cells #[.int .i64 k, .int .i64 ((k : Int) * 3), .int .i64 (p k).v2, .int .i64 (p k).v3, .int .i64 (p k).v4, .int .i64 (p k).v5, .int .i64 (p k).v6, .int .i64 (p k).v7, .int .i64 (p k).v8, .bool (p k).v9] 33)).cell? ⟨w3.heap.size, 8, none⟩ = some (.int .i64 (p k).v8) := by go_simp
              have e9 : (w3.alloc (.cells #[.int .i64 k, .int .i64 ((k : Int) * 3), .int .i64 (p k).v2, .int .i64 (p k).v3, .int .i64 (p k).v4, .int .i64 (p k).v5, .int .i64 (p k).v6, .int .i64 (p k).v7, .int .i64 (p k).v8, .bool (p k).v9] 33)).cell? ⟨w3.heap.size, 9, none⟩ = some (.bool (p k).v9) := by go_simp
              generalize (w3.alloc (.cells #[.int .i64 k, .int .i64 ((k : Int) * 3), .int .i64 (p k).v2, .int .i64 (p k).v3, .int .i64 (p k).v4, .int .i64 (p k).v5, .int .i64 (p k).v6, .int .i64 (p k).v7, .int .i64 (p k).v8, .bool (p k).v9] 33)) = w4 at hr4 e0 e1 e2 e3 e4 e5 e6 e7 e8 e9 c0 c1 c2 c3 c4 c5 c6 c7 ⊢
              have hkn : (k : Int) < n := by omega
              have hkn' : k < n := by omega
              have hk3 : IntKind.i64.wrap ((k : Int) * 3) = (k : Int) * 3 := IntWalk.i64_in _ (by omega)
              go_quiet (fail)
              go_wp2_with fail
              clear c0 c1 c2 c3 c4 c5 c6 c7
              obtain ⟨M, hM⟩ : ∃ M : Nat, (n : Int) - k = M := ⟨n - k, by omega⟩
              have hr5 := hr4.below (below_drewN (Below.refl _ _) nq)
              clear hr4
              by_cases hm0 : M = 0
              · refine (since_m _ _ K n k 0 (keepP p) k _ (by omega) hr5.1 (by omega) (by omega)).mono ?_
                rintro e w5 ⟨A5, cap5, rfl, hcs, hb5⟩
                have HC := Lib.hid hcs
                have hb50 : Below w.heap.size w w5 := (hr5.below hb5).2.1
                clear hcs hr5 hb5
                have z1 : (M : Int) = 0 := by omega
                go_wp2_with fail
                have HM := Lib.hid hM
                clear hM
                all_goals (refine wp_loop_rounds 1 ?_; rw [rounds_succ]; go_wp2_with fail; go_returns; exact ⟨rfl, hb50⟩)

              · refine (since_m _ _ K n k M (keepP p) k _ (by omega) hr5.1 (by omega) (by omega)).mono ?_
                rintro e w5 ⟨A5, cap5, rfl, hcs, hb5⟩
                have HC := Lib.hid hcs
                have hb50 : Below w.heap.size w w5 := (hr5.below hb5).2.1
                clear hcs hr5 hb5
                have z1 : (0 : Int) < M := by omega
                have z2 : 0 < M := by omega
                go_wp2_with fail
                have HM := Lib.hid hM
                clear hM
                go_loopw [16] (fun i wr => ∃ j : Nat, j ≤ M ∧ i = .int .i64 j ∧ Below w5.heap.size w5 wr) (fun i _ => M - (intOf i).toNat)
                case atStart => exact ⟨0, by omega, rfl, Below.refl _ _⟩
                case round =>
                  obtain ⟨j, hj, rfl, hbj⟩ := hrel
                  by_cases hjl : j < M
                  · obtain ⟨g, rfl, hg, hcg⟩ := HC.out j hjl
                    have hg5 : g < w5.heap.size := lt_cell (v := .int .i64 ((k + j : Nat) : Int)) (hcg 0 (by omega))
                    have HCG := Lib.hid hcg
                    have s0 : wr.cell? ⟨g, j * 10, none⟩ = some (.int .i64 ((k : Int) + j)) := by rw [hbj.cell (p := ⟨g, _, none⟩) hg5]; exact (HCG.out 0 (by omega)).trans (by simp [Ent.cells, keepP])
                    have s2 : wr.cell? ⟨g, j * 10 + 2, none⟩ = some (.int .i64 (p (k + j)).v2) := by rw [hbj.cell (p := ⟨g, _, none⟩) hg5]; exact HCG.out 2 (by omega)
                    have s3 : wr.cell? ⟨g, j * 10 + 3, none⟩ = some (.int .i64 (p (k + j)).v3) := by rw [hbj.cell (p := ⟨g, _, none⟩) hg5]; exact HCG.out 3 (by omega)
                    have s4 : wr.cell? ⟨g, j * 10 + 4, none⟩ = some (.int .i64 (p (k + j)).v4) := by rw [hbj.cell (p := ⟨g, _, none⟩) hg5]; exact HCG.out 4 (by omega)
                    have s5 : wr.cell? ⟨g, j * 10 + 5, none⟩ = some (.int .i64 (p (k + j)).v5) := by rw [hbj.cell (p := ⟨g, _, none⟩) hg5]; exact HCG.out 5 (by omega)
                    have s6 : wr.cell? ⟨g, j * 10 + 6, none⟩ = some (.int .i64 (p (k + j)).v6) := by rw [hbj.cell (p := ⟨g, _, none⟩) hg5]; exact HCG.out 6 (by omega)
                    have s7 : wr.cell? ⟨g, j * 10 + 7, none⟩ = some (.int .i64 (p (k + j)).v7) := by rw [hbj.cell (p := ⟨g, _, none⟩) hg5]; exact HCG.out 7 (by omega)
                    have s8 : wr.cell? ⟨g, j * 10 + 8, none⟩ = some (.int .i64 (p (k + j)).v8) := by rw [hbj.cell (p := ⟨g, _, none⟩) hg5]; exact HCG.out 8 (by omega)
                    have s9 : wr.cell? ⟨g, j * 10 + 9, none⟩ = some (.bool (p (k + j)).v9) := by rw [hbj.cell (p := ⟨g, _, none⟩) hg5]; exact HCG.out 9 (by omega)
                    have hnj : k + j < n := by first | omega | (have := HM.out; omega)
                    obtain ⟨b, o, hA, c0, c1, c2, c3, c4, c5, c6, c7⟩ := H.out.at (hb50.trans (hbj.mono hb50.size)) hnj
                    cases hA
                    clear hcg
                    generalize hfj : (k + j : Nat) = fj at hnj s2 s3 s4 s5 s6 s7 s8 s9 c0 c1 c2 c3 c4 c5 c6 c7
                    have hfi : (k : Int) + j = fj := by omega
                    have hfn : (fj : Int) < n := by omega
                    have hjm : (j : Int) < (M : Nat) := by omega
                    have hsw : IntKind.i64.wrap ((k : Int) + j) = fj := by rw [IntWalk.i64_in _ (by omega)]; omega
                    clear hfj
                    go_wp2_with fail
                    go_quiet (fail)
                    go_wp2_with fail
                    go_roundw
                    case rel => exact ⟨j + 1, by omega, by go_num, below_drewN hbj _⟩
                    case measure => simp [intOf]; omega
                  · have hje : decide ((j : Int) < M) = false := by simp; omega
                    go_wp2_with fail
                    go_returns
                    exact ⟨rfl, hb50.trans (hbj.mono hb50.size)⟩
      · obtain ⟨F, hF⟩ : ∃ F : Nat, (n : Int) - K = F := ⟨n - K, by omega⟩
        have q1 : (0 : Int) < F := by omega
        have q2 : 0 < F := by omega
        by_cases k1 : ask < F
        · have k2 : decide (F ≤ ask) = false := by simp; omega
          go_wp2_with fail
          refine (hr.miss _ (by omega) (by omega)).mono ?_
          rintro e w3 ⟨rfl, hb3⟩
          have hr4 := (hr.below hb3).alloc (.cells #[.int .i64 0, .int .i64 0, .int .i64 0, .int .i64 0, .int .i64 0, .int .i64 0, .int .i64 0, .int .i64 0, .int .i64 0, .bool false] 33)
          clear hr hb3
          go_wp2_with fail
          have e0 : (w3.alloc (.cells #[.int .i64 0, .int .i64 0, .int .i64 0, .int .i64 0, .int .i64 0, .int .i64 0, .int .i64 0, .int .i64 0, .int .i64 0, .bool false] 33)).cell? ⟨w3.heap.size, 0, none⟩ = some (.int .i64 0) := by go_simp
          have e1 : (w3.alloc (.cells #[.int .i64 0, .int .i64 0, .int .i64 0, .int .i64 0, .int .i64 0, .int .i64 0, .int .i64 0, .int .i64 0, .int .i64 0, .bool false] 33)).cell? ⟨w3.heap.size, 1, none⟩ = some (.int .i64 0) := by go_simp
          have e2 : (w3.alloc (.cells #[.int .i64 0, .int .i64 0, .int .i64 0, .int .i64 0, .int .i64 0, .int .i64 0, .int .i64 0, .int .i64 0, .int .i64 0, .bool false] 33)).cell? ⟨w3.heap.size, 2, none⟩ = some (.int .i64 0) := by go_simp
          have e3 : (w3.alloc (.cells #[.int .i64 0, .int .i64 0, .int .i64 0, .int .i64 0, .int .i64 0, .int .i64 0, .int .i64 0, .int .i64 0, .int .i64 0, .bool false] 33)).cell? ⟨w3.heap.size, 3, none⟩ = some (.int .i64 0) := by go_simp
          have e4 : (w3.alloc (.cells #[.int .i64 0, .int .i64 0, .int .i64 0, .int .i64 0, .int .i64 0, .int .i64 0, .int .i64 0, .int .i64 0, .int .i64 0, .bool false] 33)).cell? ⟨w3.heap.size, 4, none⟩ = some (.int .i64 0) := by go_simp
          have e5 : (w3.alloc (.cells #[.int .i64 0, .int .i64 0, .int .i64 0, .int .i64 0, .int .i64 0, .int .i64 0, .int .i64 0, .int .i64 0, .int .i64 0, .bool false] 33)).cell? ⟨w3.heap.size, 5, none⟩ = some (.int .i64 0) := by go_simp
          have e6 : (w3.alloc (.cells #[.int .i64 0, .int .i64 0, .int .i64 0, .int .i64 0, .int .i64 0, .int .i64 0, .int .i64 0, .int .i64 0, .int .i64 0, .bool false] 33)).cell? ⟨w3.heap.size, 6, none⟩ = some (.int .i64 0) := by go_simp
          have e7 : (w3.alloc (.cells #[.int .i64 0, .int .i64 0, .int .i64 0, .int .i64 0, .int .i64 0, .int .i64 0, .int .i64 0, .int .i64 0, .int .i64 0, .bool false] 33)).cell? ⟨w3.heap.size, 7, none⟩ = some (.int .i64 0) := by go_simp
          have e8 : (w3.alloc (.cells #[.int .i64 0, .int .i64 0, .int .i64 0, .int .i64 0, .int .i64 0, .int .i64 0, .int .i64 0, .int .i64 0, .int .i64 0, .bool false] 33)).cell? ⟨w3.heap.size, 8, none⟩ = some (.int .i64 0) := by go_simp
          have e9 : (w3.alloc (.cells #[.int .i64 0, .int .i64 0, .int .i64 0, .int .i64 0, .int .i64 0, .int .i64 0, .int .i64 0, .int .i64 0, .int .i64 0, .bool false] 33)).cell? ⟨w3.heap.size, 9, none⟩ = some (.bool false) := by go_simp
          generalize (w3.alloc (.cells #[.int .i64 0, .int .i64 0, .int .i64 0, .int .i64 0, .int .i64 0, .int .i64 0, .int .i64 0, .int .i64 0, .int .i64 0, .bool false] 33)) = w4 at hr4 e0 e1 e2 e3 e4 e5 e6 e7 e8 e9 ⊢
          go_quiet (fail)
          go_wp2_with fail
          obtain ⟨M, hM⟩ : ∃ M : Nat, (n : Int) - F = M := ⟨n - F, by omega⟩
          have hr5 := hr4.below (below_drewN (Below.refl _ _) nq)
          clear hr4
          by_cases hm0 : M = 0
          · refine (since_m _ _ K n F 0 (keepP p) ask _ (by omega) hr5.1 (by omega) (by omega)).mono ?_
            rintro e w5 ⟨A5, cap5, rfl, hcs, hb5⟩
            have HC := Lib.hid hcs
            have hb50 : Below w.heap.size w w5 := (hr5.below hb5).2.1
            clear hcs hr5 hb5
            have z1 : (M : Int) = 0 := by omega
            go_wp2_with fail
            have HM := Lib.hid hM
            clear hM
            all_goals (refine wp_loop_rounds 1 ?_; rw [rounds_succ]; go_wp2_with fail; go_returns; exact ⟨rfl, hb50⟩)

          · refine (since_m _ _ K n F M (keepP p) ask _ (by omega) hr5.1 (by omega) (by omega)).mono ?_
            rintro e w5 ⟨A5, cap5, rfl, hcs, hb5⟩
            have HC := Lib.hid hcs
            have hb50 : Below w.heap.size w w5 := (hr5.below hb5).2.1
            clear hcs hr5 hb5
            have z1 : (0 : Int) < M := by omega
            have z2 : 0 < M := by omega
            go_wp2_with fail
            have HM := Lib.hid hM
            clear hM
            go_loopw [16] (fun i wr => ∃ j : Nat, j ≤ M ∧ i = .int .i64 j ∧ Below w5.heap.size w5 wr) (fun i _ => M - (intOf i).toNat)
            case atStart => exact ⟨0, by omega, rfl, Below.refl _ _⟩
            case round =>
              obtain ⟨j, hj, rfl, hbj⟩ := hrel
              by_cases hjl : j < M
              · obtain ⟨g, rfl, hg, hcg⟩ := HC.out j hjl
                have hg5 : g < w5.heap.size := lt_cell (v := .int .i64 ((F + j : Nat) : Int)) (hcg 0 (by omega))
                have HCG := Lib.hid hcg
                have s0 : wr.cell? ⟨g, j * 10, none⟩ = some (.int .i64 ((F : Int) + j)) := by rw [hbj.cell (p := ⟨g, _, none⟩) hg5]; exact (HCG.out 0 (by omega)).trans (by simp [Ent.cells, keepP])
                have s2 : wr.cell? ⟨g, j * 10 + 2, none⟩ = some (.int .i64 (p (F + j)).v2) := by rw [hbj.cell (p := ⟨g, _, none⟩) hg5]; exact HCG.out 2 (by omega)
                have s3 : wr.cell? ⟨g, j * 10 + 3, none⟩ = some (.int .i64 (p (F + j)).v3) := by rw [hbj.cell (p := ⟨g, _, none⟩) hg5]; exact HCG.out 3 (by omega)
                have s4 : wr.cell? ⟨g, j * 10 + 4, none⟩ = some (.int .i64 (p (F + j)).v4) := by rw [hbj.cell (p := ⟨g, _, none⟩) hg5]; exact HCG.out 4 (by omega)
                have s5 : wr.cell? ⟨g, j * 10 + 5, none⟩ = some (.int .i64 (p (F + j)).v5) := by rw [hbj.cell (p := ⟨g, _, none⟩) hg5]; exact HCG.out 5 (by omega)
                have s6 : wr.cell? ⟨g, j * 10 + 6, none⟩ = some (.int .i64 (p (F + j)).v6) := by rw [hbj.cell (p := ⟨g, _, none⟩) hg5]; exact HCG.out 6 (by omega)
                have s7 : wr.cell? ⟨g, j * 10 + 7, none⟩ = some (.int .i64 (p (F + j)).v7) := by rw [hbj.cell (p := ⟨g, _, none⟩) hg5]; exact HCG.out 7 (by omega)
                have s8 : wr.cell? ⟨g, j * 10 + 8, none⟩ = some (.int .i64 (p (F + j)).v8) := by rw [hbj.cell (p := ⟨g, _, none⟩) hg5]; exact HCG.out 8 (by omega)
                have s9 : wr.cell? ⟨g, j * 10 + 9, none⟩ = some (.bool (p (F + j)).v9) := by rw [hbj.cell (p := ⟨g, _, none⟩) hg5]; exact HCG.out 9 (by omega)
                have hnj : F + j < n := by first | omega | (have := HM.out; omega)
                obtain ⟨b, o, hA, c0, c1, c2, c3, c4, c5, c6, c7⟩ := H.out.at (hb50.trans (hbj.mono hb50.size)) hnj
                cases hA
                clear hcg
                generalize hfj : (F + j : Nat) = fj at hnj s2 s3 s4 s5 s6 s7 s8 s9 c0 c1 c2 c3 c4 c5 c6 c7
                have hfi : (F : Int) + j = fj := by omega
                have hfn : (fj : Int) < n := by omega
                have hjm : (j : Int) < (M : Nat) := by omega
                have hsw : IntKind.i64.wrap ((F : Int) + j) = fj := by rw [IntWalk.i64_in _ (by omega)]; omega
                clear hfj
                go_wp2_with fail
                go_quiet (fail)
                go_wp2_with fail
                go_roundw
                case rel => exact ⟨j + 1, by omega, by go_num, below_drewN hbj _⟩
                case measure => simp [intOf]; omega
              · have hje : decide ((j : Int) < M) = false := by simp; omega
                go_wp2_with fail
                go_returns
                exact ⟨rfl, hb50.trans (hbj.mono hb50.size)⟩
        · by_cases k4 : (n : Int) ≤ ask
          · have k2 : decide (ask < (n : Int)) = false := by simp; omega
            go_wp2_with fail
            refine (hr.miss _ (by omega) (by omega)).mono ?_
            rintro e w3 ⟨rfl, hb3⟩
            have hr4 := (hr.below hb3).alloc (.cells #[.int .i64 0, .int .i64 0, .int .i64 0, .int .i64 0, .int .i64 0, .int .i64 0, .int .i64 0, .int .i64 0, .int .i64 0, .bool false] 33)
            clear hr hb3
            go_wp2_with fail
            have e0 : (w3.alloc (.cells #[.int .i64 0, .int .i64 0, .int .i64 0, .int .i64 0, .int .i64 0, .int .i64 0, .int .i64 0, .int .i64 0, .int .i64 0, .bool false] 33)).cell? ⟨w3.heap.size, 0, none⟩ = some (.int .i64 0) := by go_simp
            have e1 : (w3.alloc (.cells #[.int .i64 0, .int .i64 0, .int .i64 0, .int .i64 0, .int .i64 0, .int .i64 0, .int .i64 0, .int .i64 0, .int .i64 0, .bool false] 33)).cell? ⟨w3.heap.size, 1, none⟩ = some (.int .i64 0) := by go_simp
            have e2 : (w3.alloc (.cells #[.int .i64 0, .int .i64 0, .int .i64 0, .int .i64 0, .int .i64 0, .int .i64 0, .int .i64 0, .int .i64 0, .int .i64 0, .bool false] 33)).cell? ⟨w3.heap.size, 2, none⟩ = some (.int .i64 0) := by go_simp
            have e3 : (w3.alloc (.cells #[.int .i64 0, .int .i64 0, .int .i64 0, .int .i64 0, .int .i64 0, .int .i64 0, .int .i64 0, .int .i64 0, .int .i64 0, .bool false] 33)).cell? ⟨w3.heap.size, 3, none⟩ = some (.int .i64 0) := by go_simp
            have e4 : (w3.alloc (.cells #[.int .i64 0, .int .i64 0, .int .i64 0, .int .i64 0, .int .i64 0, .int .i64 0, .int .i64 0, .int .i64 0, .int .i64 0, .bool false] 33)).cell? ⟨w3.heap.size, 4, none⟩ = some (.int .i64 0) := by go_simp
            have e5 : (w3.alloc (.cells #[.int .i64 0, .int .i64 0, .int .i64 0, .int .i64 0, .int .i64 0, .int .i64 0, .int .i64 0, .int .i64 0, .int .i64 0, .bool false] 33)).cell? ⟨w3.heap.size, 5, none⟩ = some (.int .i64 0) := by go_simp
            have e6 : (w3.alloc (.cells #[.int .i64 0, .int .i64 0, .int .i64 0, .int .i64 0, .int .i64 0, .int .i64 0, .int .i64 0, .int .i64 0, .int .i64 0, .bool false] 33)).cell? ⟨w3.heap.size, 6, none⟩ = some (.int .i64 0) := by go_simp
            have e7 : (w3.alloc (.cells #[.int .i64 0, .int .i64 0, .int .i64 0, .int .i64 0, .int .i64 0, .int .i64 0, .int .i64 0, .int .i64 0, .int .i64 0, .bool false] 33)).cell? ⟨w3.heap.size, 7, none⟩ = some (.int .i64 0) := by go_simp
            have e8 : (w3.alloc (.cells #[.int .i64 0, .int .i64 0, .int .i64 0, .int .i64 0, .int .i64 0, .int .i64 0, .int .i64 0, .int .i64 0, .int .i64 0, .bool false] 33)).cell? ⟨w3.heap.size, 8, none⟩ = some (.int .i64 0) := by go_simp
            have e9 : (w3.alloc (.cells #[.int .i64 0, .int .i64 0, .int .i64 0, .int .i64 0, .int .i64 0, .int .i64 0, .int .i64 0, .int .i64 0, .int .i64 0, .bool false] 33)).cell? ⟨w3.heap.size, 9, none⟩ = some (.bool false) := by go_simp
            generalize (w3.alloc (.cells #[.int .i64 0, .int .i64 0, .int .i64 0, .int .i64 0, .int .i64 0, .int .i64 0, .int .i64 0, .int .i64 0, .int .i64 0, .bool false] 33)) = w4 at hr4 e0 e1 e2 e3 e4 e5 e6 e7 e8 e9 ⊢
            go_quiet (fail)
            go_wp2_with fail
            all_goals
              have hr5 := hr4.below (below_drewN (Below.refl _ _) nq)
              clear hr4
              refine (since_m _ _ K n ask.toNat 0 (keepP p) ask _ (by omega) hr5.1 (by omega) (by omega)).mono ?_
              rintro e w5 ⟨A5, cap5, rfl, hcs, hb5⟩
              have hb50 : Below w.heap.size w w5 := (hr5.below hb5).2.1
              clear hcs hr5 hb5
              have z1 : ¬ (0 : Int) < n - ask := by omega
              go_wp2_with fail
              all_goals (refine wp_loop_rounds 1 ?_; rw [rounds_succ]; go_wp2_with fail; go_returns; exact ⟨rfl, hb50⟩)
          · by_cases k5 : ask = F
            · subst k5
              have k2 : decide (F < (n : Int)) = true := decide_eq_true (by omega)
              have k3 : decide (F ≤ (F : Int)) = true := decide_eq_true (by omega)
              have k2' : decide (F < n) = true := decide_eq_true (by omega)
              have k3' : decide (F ≤ (F : Nat)) = true := decide_eq_true (by omega)
              go_wp2_with fail
              refine (hr.hit F _ ⟨(F : Int), (F : Int) * 3, (p F).v2, (p F).v3, (p F).v4, (p F).v5, (p F).v6, (p F).v7, (p F).v8, (p F).v9⟩ (by omega) (by omega) (by omega) (by omega) (by rfl)).mono ?_
              rintro e w3 ⟨rfl, hb3⟩
              have hr4 := (hr.below hb3).alloc (.cells #[.int .i64 F, .int .i64 ((F : Int) * 3), .int .i64 (p F).v2, .int .i64 (p F).v3, .int .i64 (p F).v4, .int .i64 (p F).v5, .int .i64 (p F).v6, .int .i64 (p F).v7, .int .i64 (p F).v8, .bool (p F).v9] 33)
              obtain ⟨b, o, rfl, c0, c1, c2, c3, c4, c5, c6, c7⟩ := H.out.at hr4.2.1 (show F < n by omega)
              clear hr hb3
              go_wp2_with fail
              have e0 : (w3.alloc (.cells #[.int .i64 F, .int .i64 ((F : Int) * 3), .int .i64 (p F).v2, .int .i64 (p F).v3, .int .i64 (p F).v4, .int .i64 (p F).v5, .int .i64 (p F).v6, .int .i64 (p F).v7, .int .i64 (p F).v8, .bool (p F).v9] 33)).cell? ⟨w3.heap.size, 0, none⟩ = some (.int .i64 F) := by go_simp
              have e1 : (w3.alloc (.cells #[.int .i64 F, .int .i64 ((F : Int) * 3), .int .i64 (p F).v2, .int .i64 (p F).v3, .int .i64 (p F).v4, .int .i64 (p F).v5, .int .i64 (p F).v6, .int .i64 (p F).v7, .int .i64 (p F).v8, .bool (p F).v9] 33)).cell? ⟨w3.heap.size, 1, none⟩ = some (.int .i64 ((F : Int) * 3)) := by go_simp
              have e2 : (w3.alloc (.cells #[.int .i64 F, .int .i64 ((F : Int) * 3), .int .i64 (p F).v2, .int .i64 (p F).v3, .int .i64 (p F).v4, .int .i64 (p F).v5, .int .i64 (p F).v6, .int .i64 (p F).v7, .int .i64 (p F).v8, .bool (p F).v9] 33)).cell? ⟨w3.heap.size, 2, none⟩ = some (.int .i64 (p F).v2) := by go_simp
              have e3 : (w3.alloc (.cells #[.int .i64 F, .int .i64 ((F : Int) * 3), .int .i64 (p F).v2, .int .i64 (p F).v3, .int .i64 (p F).v4, .int .i64 (p F).v5, .int .i64 (p F).v6, .int .i64 (p F).v7, .int .i64 (p F).v8, .bool (p F).v9] 33)).cell? ⟨w3.heap.size, 3, none⟩ = some (.int .i64 (p F).v3) := by go_simp
              have e4 : (w3.alloc (.cells #[.int .i64 F, .int .i64 ((F : Int) * 3), .int .i64 (p F).v2, .int .i64 (p F).v3, .int .i64 (p F).v4, .int .i64 (p F).v5, .int .i64 (p F).v6, .int .i64 (p F).v7, .int .i64 (p F).v8, .bool (p F).v9] 33)).cell? ⟨w3.heap.size, 4, none⟩ = some (.int .i64 (p F).v4) := by go_simp
              have e5 : (w3.alloc (.cells #[.int .i64 F, .int .i64 ((F : Int) * 3), .int .i64 (p F).v2, .int .i64 (p F).v3, .int .i64 (p F).v4, .int .i64 (p F).v5, .int .i64 (p F).v6, .int .i64 (p F).v7, .int .i64 (p F).v8, .bool (p F).v9] 33)).cell? ⟨w3.heap.size, 5, none⟩ = some (.int .i64 (p F).v5) := by go_simp
              have e6 : (w3.alloc (.cells #[.int .i64 F, .int .i64 ((F : Int) * 3), .int .i64 (p F).v2, .int .i64 (p F).v3, .int .i64 (p F).v4, .int .i64 (p F).v5, .int .i64 (p F).v6, .int .i64 (p F).v7, .int .i64 (p F).v8, .bool (p F).v9] 33)).cell? ⟨w3.heap.size, 6, none⟩ = some (.int .i64 (p F).v6) := by go_simp
              have e7 : (w3.alloc (.cells #[.int .i64 F, .int .i64 ((F : Int) * 3), .int .i64 (p F).v2, .int .i64 (p F).v3, .int .i64 (p F).v4, .int .i64 (p F).v5, .int .i64 (p F).v6, .int .i64 (p F).v7, .int .i64 (p F).v8, .bool (p F).v9] 33)).cell? ⟨w3.heap.size, 7, none⟩ = some (.int .i64 (p F).v7) := by go_simp
              have e8 : (w3.alloc (.cells #[.int .i64 F, .int .i64 ((F : Int) * 3), .int .i64 (p F).v2, .int .i64 (p F).v3, .int .i64 (p F).v4, .int .i64 (p F).v5, .int .i64 (p F).v6, .int .i64 (p F).v7, .int .i64 (p F).v8, .bool (p F).v9] 33)).cell? ⟨w3.heap.size, 8, none⟩ = some (.int .i64 (p F).v8) := by go_simp
              have e9 : (w3.alloc (.cells #[.int .i64 F, .int .i64 ((F : Int) * 3), .int .i64 (p F).v2, .int .i64 (p F).v3, .int .i64 (p F).v4, .int .i64 (p F).v5, .int .i64 (p F).v6, .int .i64 (p F).v7, .int .i64 (p F).v8, .bool (p F).v9] 33)).cell? ⟨w3.heap.size, 9, none⟩ = some (.bool (p F).v9) := by go_simp
              generalize (w3.alloc (.cells #[.int .i64 F, .int .i64 ((F : Int) * 3), .int .i64 (p F).v2, .int .i64 (p F).v3, .int .i64 (p F).v4, .int .i64 (p F).v5, .int .i64 (p F).v6, .int .i64 (p F).v7, .int .i64 (p F).v8, .bool (p F).v9] 33)) = w4 at hr4 e0 e1 e2 e3 e4 e5 e6 e7 e8 e9 c0 c1 c2 c3 c4 c5 c6 c7 ⊢
              have hkn : (F : Int) < n := by omega
              have hkn' : F < n := by omega
              have hk3 : IntKind.i64.wrap ((F : Int) * 3) = (F : Int) * 3 := IntWalk.i64_in _ (by omega)
              go_quiet (fail)
              go_wp2_with fail
              clear c0 c1 c2 c3 c4 c5 c6 c7
              obtain ⟨M, hM⟩ : ∃ M : Nat, (n : Int) - F = M := ⟨n - F, by omega⟩
              have hr5 := hr4.below (below_drewN (Below.refl _ _) nq)
              clear hr4
              by_cases hm0 : M = 0
              · refine (since_m _ _ K n F 0 (keepP p) F _ (by omega) hr5.1 (by omega) (by omega)).mono ?_
                rintro e w5 ⟨A5, cap5, rfl, hcs, hb5⟩
                have HC := Lib.hid hcs
                have hb50 : Below w.heap.size w w5 := (hr5.below hb5).2.1
                clear hcs hr5 hb5
                have z1 : (M : Int) = 0 := by omega
                go_wp2_with fail
                have HM := Lib.hid hM
                clear hM
                all_goals (refine wp_loop_rounds 1 ?_; rw [rounds_succ]; go_wp2_with fail; go_returns; exact ⟨rfl, hb50⟩)

              · refine (since_m _ _ K n F M (keepP p) F _ (by omega) hr5.1 (by omega) (by omega)).mono ?_
                rintro e w5 ⟨A5, cap5, rfl, hcs, hb5⟩
                have HC := Lib.hid hcs
                have hb50 : Below w.heap.size w w5 := (hr5.below hb5).2.1
                clear hcs hr5 hb5
                have z1 : (0 : Int) < M := by omega
                have z2 : 0 < M := by omega
                go_wp2_with fail
                have HM := Lib.hid hM
                clear hM
                go_loopw [16] (fun i wr => ∃ j : Nat, j ≤ M ∧ i = .int .i64 j ∧ Below w5.heap.size w5 wr) (fun i _ => M - (intOf i).toNat)
                case atStart => exact ⟨0, by omega, rfl, Below.refl _ _⟩
                case round =>
                  obtain ⟨j, hj, rfl, hbj⟩ := hrel
                  by_cases hjl : j < M
                  · obtain ⟨g, rfl, hg, hcg⟩ := HC.out j hjl
                    have hg5 : g < w5.heap.size := lt_cell (v := .int .i64 ((F + j : Nat) : Int)) (hcg 0 (by omega))
                    have HCG := Lib.hid hcg
                    have s0 : wr.cell? ⟨g, j * 10, none⟩ = some (.int .i64 ((F : Int) + j)) := by rw [hbj.cell (p := ⟨g, _, none⟩) hg5]; exact (HCG.out 0 (by omega)).trans (by simp [Ent.cells, keepP])
                    have s2 : wr.cell? ⟨g, j * 10 + 2, none⟩ = some (.int .i64 (p (F + j)).v2) := by rw [hbj.cell (p := ⟨g, _, none⟩) hg5]; exact HCG.out 2 (by omega)
                    have s3 : wr.cell? ⟨g, j * 10 + 3, none⟩ = some (.int .i64 (p (F + j)).v3) := by rw [hbj.cell (p := ⟨g, _, none⟩) hg5]; exact HCG.out 3 (by omega)
                    have s4 : wr.cell? ⟨g, j * 10 + 4, none⟩ = some (.int .i64 (p (F + j)).v4) := by rw [hbj.cell (p := ⟨g, _, none⟩) hg5]; exact HCG.out 4 (by omega)
                    have s5 : wr.cell? ⟨g, j * 10 + 5, none⟩ = some (.int .i64 (p (F + j)).v5) := by rw [hbj.cell (p := ⟨g, _, none⟩) hg5]; exact HCG.out 5 (by omega)
                    have s6 : wr.cell? ⟨g, j * 10 + 6, none⟩ = some (.int .i64 (p (F + j)).v6) := by rw [hbj.cell (p := ⟨g, _, none⟩) hg5]; exact HCG.out 6 (by omega)
                    have s7 : wr.cell? ⟨g, j * 10 + 7, none⟩ = some (.int .i64 (p (F + j)).v7) := by rw [hbj.cell (p := ⟨g, _, none⟩) hg5]; exact HCG.out 7 (by omega)
                    have s8 : wr.cell? ⟨g, j * 10 + 8, none⟩ = some (.int .i64 (p (F + j)).v8) := by rw [hbj.cell (p := ⟨g, _, none⟩) hg5]; exact HCG.out 8 (by omega)
                    have s9 : wr.cell? ⟨g, j * 10 + 9, none⟩ = some (.bool (p (F + j)).v9) := by rw [hbj.cell (p := ⟨g, _, none⟩) hg5]; exact HCG.out 9 (by omega)
                    have hnj : F + j < n := by first | omega | (have := HM.out; omega)
                    obtain ⟨b, o, hA, c0, c1, c2, c3, c4, c5, c6, c7⟩ := H.out.at (hb50.trans (hbj.mono hb50.size)) hnj
                    cases hA
                    clear hcg
                    generalize hfj : (F + j : Nat) = fj at hnj s2 s3 s4 s5 s6 s7 s8 s9 c0 c1 c2 c3 c4 c5 c6 c7
                    have hfi : (F : Int) + j = fj := by omega
                    have hfn : (fj : Int) < n := by omega
                    have hjm : (j : Int) < (M : Nat) := by omega
                    have hsw : IntKind.i64.wrap ((F : Int) + j) = fj := by rw [IntWalk.i64_in _ (by omega)]; omega
                    clear hfj
                    go_wp2_with fail
                    go_quiet (fail)
                    go_wp2_with fail
                    go_roundw
                    case rel => exact ⟨j + 1, by omega, by go_num, below_drewN hbj _⟩
                    case measure => simp [intOf]; omega
                  · have hje : decide ((j : Int) < M) = false := by simp; omega
                    go_wp2_with fail
                    go_returns
                    exact ⟨rfl, hb50.trans (hbj.mono hb50.size)⟩
            · obtain ⟨k, rfl⟩ : ∃ k : Nat, ask = k := ⟨ask.toNat, by omega⟩
              have k6 : (F : Int) < k := by omega
              have k2 : decide (k < (n : Int)) = true := decide_eq_true (by omega)
              have k3 : decide (F ≤ (k : Int)) = true := decide_eq_true (by omega)
              have k2' : decide (k < n) = true := decide_eq_true (by omega)
              have k3' : decide (F ≤ (k : Nat)) = true := decide_eq_true (by omega)
              go_wp2_with fail
              refine (hr.hit k _ ⟨(k : Int), (k : Int) * 3, (p k).v2, (p k).v3, (p k).v4, (p k).v5, (p k).v6, (p k).v7, (p k).v8, (p k).v9⟩ (by omega) (by omega) (by omega) (by omega) (by rfl)).mono ?_
              rintro e w3 ⟨rfl, hb3⟩
              have hr4 := (hr.below hb3).alloc (.cells #[.int .i64 k, .int .i64 ((k : Int) * 3), .int .i64 (p k).v2, .int .i64 (p k).v3, .int .i64 (p k).v4, .int .i64 (p k).v5, .int .i64 (p k).v6, .int .i64 (p k).v7, .int .i64 (p k).v8, .bool (p k).v9] 33)
              obtain ⟨b, o, rfl, c0, c1, c2, c3, c4, c5, c6, c7⟩ := H.out.at hr4.2.1 (show k < n by omega)
              clear hr hb3
              go_wp2_with fail
              have e0 : (w3.alloc (.cells #[.int .i64 k, .int .i64 ((k : Int) * 3), .int .i64 (p k).v2, .int .i64 (p k).v3, .int .i64 (p k).v4, .int .i64 (p k).v5, .int .i64 (p k).v6, .int .i64 (p k).v7, .int .i64 (p k).v8, .bool (p k).v9] 33)).cell? ⟨w3.heap.size, 0, none⟩ = some (.int .i64 k) := by go_simp
              have e1 : (w3.alloc (.cells #[.int .i64 k, .int .i64 ((k : Int) * 3), .int .i64 (p k).v2, .int .i64 (p k).v3, .int .i64 (p k).v4, .int .i64 (p k).v5, .int .i64 (p k).v6, .int .i64 (p k).v7, .int .i64 (p k).v8, .bool (p k).v9] 33)).cell? ⟨w3.heap.size, 1, none⟩ = some (.int .i64 ((k : Int) * 3)) := by go_simp
              have e2 : (w3.alloc (.cells #[.int .i64 k, .int .i64 ((k : Int) * 3), .int .i64 (p k).v2, .int .i64 (p k).v3, .int .i64 (p k).v4, .int .i64 (p k).v5, .int .i64 (p k).v6, .int .i64 (p k).v7, .int .i64 (p k).v8, .bool (p k).v9] 33)).cell? ⟨w3.heap.size, 2, none⟩ = some (.int .i64 (p k).v2) := by go_simp
              have e3 : (w3.alloc (.cells #[.int .i64 k, .int .i64 ((k : Int) * 3), .int .i64 (p k).v2, .int .i64 (p k).v3, .int .i64 (p k).v4, .int .i64 (p k).v5, .int .i64 (p k).v6, .int .i64 (p k).v7, .int .i64 (p k).v8, .bool (p k).v9] 33)).cell? ⟨w3.heap.size, 3, none⟩ = some (.int .i64 (p k).v3) := by go_simp
              have e4 : (w3.alloc (.cells #[.int .i64 k, .int .i64 ((k : Int) * 3), .int .i64 (p k).v2, .int .i64 (p k).v3, .int .i64 (p k).v4, .int .i64 (p k).v5, .int .i64 (p k).v6, .int .i64 (p k).v7, .int .i64 (p k).v8, .bool (p k).v9] 33)).cell? ⟨w3.heap.size, 4, none⟩ = some (.int .i64 (p k).v4) := by go_simp
              have e5 : (w3.alloc (.cells #[.int .i64 k, .int .i64 ((k : Int) * 3), .int .i64 (p k).v2, .int .i64 (p k).v3, .int .i64 (p k).v4, .int .i64 (p k).v5, .int .i64 (p k).v6, .int .i64 (p k).v7, .int .i64 (p k).v8, .bool (p k).v9] 33)).cell? ⟨w3.heap.size, 5, none⟩ = some (.int .i64 (p k).v5) := by go_simp
              have e6 : (w3.alloc (.cells #[.int .i64 k, .int .i64 ((k : Int) * 3), .int .i64 (p k).v2, .int .i64 (p k).v3, .int .i64 (p k).v4, .int .i64 (p k).v5, .int .i64 (p k).v6, .int .i64 (p k).v7, .int .i64 (p k).v8, .bool (p k).v9] 33)).cell? ⟨w3.heap.size, 6, none⟩ = some (.int .i64 (p k).v6) := by go_simp
              have e7 : (w3.alloc (.cells #[.int .i64 k, .int .i64 ((k : Int) * 3), .int .i64 (p k).v2, .int .i64 (p k).v3, .int .i64 (p k).v4, .int .i64 (p k).v5, .int .i64 (p k).v6, .int .i64 (p k).v7, .int .i64 (p k).v8, .bool (p k).v9] 33)).cell? ⟨w3.heap.size, 7, none⟩ = some (.int .i64 (p k).v7) := by go_simp
              have e8 : (w3.alloc (.cells #[.int .i64 k, .int .i64 ((k : Int) * 3), .int .i64 (p k).v2, .int .i64 (p k).v3, .int .i64 (p k).v4, .int .i64 (p k).v5, .int .i64 (p k).v6, .int .i64 (p k).v7, .int .i64 (p k).v8, .bool (p k).v9] 33)).cell? ⟨w3.heap.size, 8, none⟩ = some (.int .i64 (p k).v8) := by go_simp
              have e9 : (w3.alloc (.cells #[.int .i64 k, .int .i64 ((k : Int) * 3), .int .i64 (p k).v2, .int .i64 (p k).v3, .int .i64 (p k).v4, .int .i64 (p k).v5, .int .i64 (p k).v6, .int .i64 (p k).v7, .int .i64 (p k).v8, .bool (p k).v9] 33)).cell? ⟨w3.heap.size, 9, none⟩ = some (.bool (p k).v9) := by go_simp
              generalize (w3.alloc (.cells #[.int .i64 k, .int .i64 ((k : Int) * 3), .int .i64 (p k).v2, .int .i64 (p k).v3, .int .i64 (p k).v4, .int .i64 (p k).v5, .int .i64 (p k).v6, .int .i64 (p k).v7, .int .i64 (p k).v8, .bool (p k).v9] 33)) = w4 at hr4 e0 e1 e2 e3 e4 e5 e6 e7 e8 e9 c0 c1 c2 c3 c4 c5 c6 c7 ⊢
              have hkn : (k : Int) < n := by omega
              have hkn' : k < n := by omega
              have hk3 : IntKind.i64.wrap ((k : Int) * 3) = (k : Int) * 3 := IntWalk.i64_in _ (by omega)
              go_quiet (fail)
              go_wp2_with fail
              clear c0 c1 c2 c3 c4 c5 c6 c7
              obtain ⟨M, hM⟩ : ∃ M : Nat, (n : Int) - k = M := ⟨n - k, by omega⟩
              have hr5 := hr4.below (below_drewN (Below.refl _ _) nq)
              clear hr4
              by_cases hm0 : M = 0
              · refine (since_m _ _ K n k 0 (keepP p) k _ (by omega) hr5.1 (by omega) (by omega)).mono ?_
                rintro e w5 ⟨A5, cap5, rfl, hcs, hb5⟩
                have HC := Lib.hid hcs
                have hb50 : Below w.heap.size w w5 := (hr5.below hb5).2.1
                clear hcs hr5 hb5
                have z1 : (M : Int) = 0 := by omega
                go_wp2_with fail
                have HM := Lib.hid hM
                clear hM
                all_goals (refine wp_loop_rounds 1 ?_; rw [rounds_succ]; go_wp2_with fail; go_returns; exact ⟨rfl, hb50⟩)

              · refine (since_m _ _ K n k M (keepP p) k _ (by omega) hr5.1 (by omega) (by omega)).mono ?_
                rintro e w5 ⟨A5, cap5, rfl, hcs, hb5⟩
                have HC := Lib.hid hcs
                have hb50 : Below w.heap.size w w5 := (hr5.below hb5).2.1
                clear hcs hr5 hb5
                have z1 : (0 : Int) < M := by omega
                have z2 : 0 < M := by omega
                go_wp2_with fail
                have HM := Lib.hid hM
                clear hM
                go_loopw [16] (fun i wr => ∃ j : Nat, j ≤ M ∧ i = .int .i64 j ∧ Below w5.heap.size w5 wr) (fun i _ => M - (intOf i).toNat)
                case atStart => exact ⟨0, by omega, rfl, Below.refl _ _⟩
                case round =>
                  obtain ⟨j, hj, rfl, hbj⟩ := hrel
                  by_cases hjl : j < M
                  · obtain ⟨g, rfl, hg, hcg⟩ := HC.out j hjl
                    have hg5 : g < w5.heap.size := lt_cell (v := .int .i64 ((k + j : Nat) : Int)) (hcg 0 (by omega))
                    have HCG := Lib.hid hcg
                    have s0 : wr.cell? ⟨g, j * 10, none⟩ = some (.int .i64 ((k : Int) + j)) := by rw [hbj.cell (p := ⟨g, _, none⟩) hg5]; exact (HCG.out 0 (by omega)).trans (by simp [Ent.cells, keepP])
                    have s2 : wr.cell? ⟨g, j * 10 + 2, none⟩ = some (.int .i64 (p (k + j)).v2) := by rw [hbj.cell (p := ⟨g, _, none⟩) hg5]; exact HCG.out 2 (by omega)
                    have s3 : wr.cell? ⟨g, j * 10 + 3, none⟩ = some (.int .i64 (p (k + j)).v3) := by rw [hbj.cell (p := ⟨g, _, none⟩) hg5]; exact HCG.out 3 (by omega)
                    have s4 : wr.cell? ⟨g, j * 10 + 4, none⟩ = some (.int .i64 (p (k + j)).v4) := by rw [hbj.cell (p := ⟨g, _, none⟩) hg5]; exact HCG.out 4 (by omega)
                    have s5 : wr.cell? ⟨g, j * 10 + 5, none⟩ = some (.int .i64 (p (k + j)).v5) := by rw [hbj.cell (p := ⟨g, _, none⟩) hg5]; exact HCG.out 5 (by omega)
                    have s6 : wr.cell? ⟨g, j * 10 + 6, none⟩ = some (.int .i64 (p (k + j)).v6) := by rw [hbj.cell (p := ⟨g, _, none⟩) hg5]; exact HCG.out 6 (by omega)
                    have s7 : wr.cell? ⟨g, j * 10 + 7, none⟩ = some (.int .i64 (p (k + j)).v7) := by rw [hbj.cell (p := ⟨g, _, none⟩) hg5]; exact HCG.out 7 (by omega)
                    have s8 : wr.cell? ⟨g, j * 10 + 8, none⟩ = some (.int .i64 (p (k + j)).v8) := by rw [hbj.cell (p := ⟨g, _, none⟩) hg5]; exact HCG.out 8 (by omega)
                    have s9 : wr.cell? ⟨g, j * 10 + 9, none⟩ = some (.bool (p (k + j)).v9) := by rw [hbj.cell (p := ⟨g, _, none⟩) hg5]; exact HCG.out 9 (by omega)
                    have hnj : k + j < n := by first | omega | (have := HM.out; omega)
                    obtain ⟨b, o, hA, c0, c1, c2, c3, c4, c5, c6, c7⟩ := H.out.at (hb50.trans (hbj.mono hb50.size)) hnj
                    cases hA
                    clear hcg
                    generalize hfj : (k + j : Nat) = fj at hnj s2 s3 s4 s5 s6 s7 s8 s9 c0 c1 c2 c3 c4 c5 c6 c7
                    have hfi : (k : Int) + j = fj := by omega
                    have hfn : (fj : Int) < n := by omega
                    have hjm : (j : Int) < (M : Nat) := by omega
                    have hsw : IntKind.i64.wrap ((k : Int) + j) = fj := by rw [IntWalk.i64_in _ (by omega)]; omega
                    clear hfj
                    go_wp2_with fail
                    go_quiet (fail)
                    go_wp2_with fail
                    go_roundw
                    case rel => exact ⟨j + 1, by omega, by go_num, below_drewN hbj _⟩
                    case measure => simp [intOf]; omega
                  · have hje : decide ((j : Int) < M) = false := by simp; omega
                    go_wp2_with fail
                    go_returns
                    exact ⟨rfl, hb50.trans (hbj.mono hb50.size)⟩
end Go.Proofs.Ytiajdfipkojodaa
