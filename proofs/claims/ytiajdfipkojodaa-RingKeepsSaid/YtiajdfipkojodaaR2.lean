/- The ring's Put. -/
import Derived.Test.YtiajdfipkojodaaR1
namespace Go.Proofs.Ytiajdfipkojodaa
open Go.RowKit
set_option linter.unusedSimpArgs false
set_option linter.unusedVariables false

/-- Values stored one behind another. -/
def writes : World → Nat → Nat → List Value → World
  | w, _, _, [] => w
  | w, a, o, v :: vs => writes (w.setCell ⟨a, o, none⟩ v) a (o + 1) vs

/-- The world behind a Put that keeps its piece. -/
def PutPost (r a o : Nat) (c : Int) (vs : List Value) (w : World) (e : Ending) (w' : World) : Prop :=
  ∃ w1, Below w.heap.size w w1 ∧ e = .returned (.int .i64 c) ∧ w' = ((writes w1 a o vs).setCell ⟨r, 1, none⟩ (.int .i64 (c + 1))).drew

theorem put_none (r a c : Nat) (clk : Int) (p0 p1 p2 p3 p4 p5 p6 : Int) (p7 : Bool) (w : World) (hcb : c ≤ 1000000000000)
    (hs : w.cell? ⟨r, 0, none⟩ = some (.slice (some ⟨a, 0, none⟩) 0 0)) (hc : w.cell? ⟨r, 1, none⟩ = some (.int .i64 c)) (hf : w.frozen? ⟨r, 1, none⟩ = false) :
    Calls Try.prog 8 #[.pointer (some ⟨r, 0, none⟩), .int .i64 clk, .agg #[.int .i64 p0, .int .i64 p1, .int .i64 p2, .int .i64 p3, .int .i64 p4, .int .i64 p5, .int .i64 p6, .bool p7]] w fun e w' =>
      e = .returned (.int .i64 c) ∧ (w.setCell ⟨r, 1, none⟩ (.int .i64 (c + 1))).alloc (.cells #[.int .i64 p0, .int .i64 p1, .int .i64 p2, .int .i64 p3, .int .i64 p4, .int .i64 p5, .int .i64 p6, .bool p7] 30) = w' := by
  have hlt := lt_cell hc
  go_enter Try.func8, Try.ntmps8
  go_wp2_with fail
  refine (int_load _ _ (c : Int) _ (by go_simp)).mono ?_
  rintro e w' ⟨rfl, rfl⟩
  go_wp2_with fail
  refine (int_store _ _ (c : Int) _ _ (by go_simp) (by go_simp)).mono ?_
  rintro e w' ⟨rfl, rfl⟩
  go_wp2_with fail
  go_returns
  exact ⟨rfl, rfl⟩

set_option maxHeartbeats 800000 in
theorem put_some (r a n c m : Nat) (clk : Int) (p0 p1 p2 p3 p4 p5 p6 : Int) (p7 : Bool) (w : World) (hcb : c ≤ 1000000000000) (hn0 : 0 < n) (hn : n ≤ 4096) (hne : a ≠ r) (hm : m < n) (HM : Hid ((c : Int).tmod n = m))
    (hs : w.cell? ⟨r, 0, none⟩ = some (.slice (some ⟨a, 0, none⟩) n n)) (hc : w.cell? ⟨r, 1, none⟩ = some (.int .i64 c)) (hf : w.frozen? ⟨r, 1, none⟩ = false)
    (v0 v1 v2 v3 v4 v5 v6 v7 v8 v9 : Value)
    (h0 : w.cell? ⟨a, m * 10, none⟩ = some v0) (f0 : w.frozen? ⟨a, m * 10, none⟩ = false)
    (h1 : w.cell? ⟨a, m * 10 + 1, none⟩ = some v1) (f1 : w.frozen? ⟨a, m * 10 + 1, none⟩ = false)
    (h2 : w.cell? ⟨a, m * 10 + 2, none⟩ = some v2) (f2 : w.frozen? ⟨a, m * 10 + 2, none⟩ = false)
    (h3 : w.cell? ⟨a, m * 10 + 3, none⟩ = some v3) (f3 : w.frozen? ⟨a, m * 10 + 3, none⟩ = false)
    (h4 : w.cell? ⟨a, m * 10 + 4, none⟩ = some v4) (f4 : w.frozen? ⟨a, m * 10 + 4, none⟩ = false)
    (h5 : w.cell? ⟨a, m * 10 + 5, none⟩ = some v5) (f5 : w.frozen? ⟨a, m * 10 + 5, none⟩ = false)
    (h6 : w.cell? ⟨a, m * 10 + 6, none⟩ = some v6) (f6 : w.frozen? ⟨a, m * 10 + 6, none⟩ = false)
    (h7 : w.cell? ⟨a, m * 10 + 7, none⟩ = some v7) (f7 : w.frozen? ⟨a, m * 10 + 7, none⟩ = false)
    (h8 : w.cell? ⟨a, m * 10 + 8, none⟩ = some v8) (f8 : w.frozen? ⟨a, m * 10 + 8, none⟩ = false)
    (h9 : w.cell? ⟨a, m * 10 + 9, none⟩ = some v9) (f9 : w.frozen? ⟨a, m * 10 + 9, none⟩ = false) :
    Calls Try.prog 8 #[.pointer (some ⟨r, 0, none⟩), .int .i64 clk, .agg #[.int .i64 p0, .int .i64 p1, .int .i64 p2, .int .i64 p3, .int .i64 p4, .int .i64 p5, .int .i64 p6, .bool p7]] w (PutPost r a (m * 10) c [.int .i64 c, .int .i64 clk, .int .i64 p0, .int .i64 p1, .int .i64 p2, .int .i64 p3, .int .i64 p4, .int .i64 p5, .int .i64 p6, .bool p7] w) := by
  have hlt := lt_cell hc
  have hlta := lt_cell h0
  go_enter Try.func8, Try.ntmps8
  go_wp2_with fail
  refine (int_load _ _ (c : Int) _ (by go_simp)).mono ?_
  rintro e w' ⟨rfl, rfl⟩
  go_wp2_with fail
  have gs : (w.alloc (.cells #[.int .i64 p0, .int .i64 p1, .int .i64 p2, .int .i64 p3, .int .i64 p4, .int .i64 p5, .int .i64 p6, .bool p7] 30)).cell? ⟨r, 0, none⟩ = some (.slice (some ⟨a, 0, none⟩) n n) := by go_simp
  have gc : (w.alloc (.cells #[.int .i64 p0, .int .i64 p1, .int .i64 p2, .int .i64 p3, .int .i64 p4, .int .i64 p5, .int .i64 p6, .bool p7] 30)).cell? ⟨r, 1, none⟩ = some (.int .i64 c) := by go_simp
  have gf : (w.alloc (.cells #[.int .i64 p0, .int .i64 p1, .int .i64 p2, .int .i64 p3, .int .i64 p4, .int .i64 p5, .int .i64 p6, .bool p7] 30)).frozen? ⟨r, 1, none⟩ = false := by go_simp
  have g0 : (w.alloc (.cells #[.int .i64 p0, .int .i64 p1, .int .i64 p2, .int .i64 p3, .int .i64 p4, .int .i64 p5, .int .i64 p6, .bool p7] 30)).cell? ⟨a, m * 10, none⟩ = some v0 := by go_simp
  have k0 : (w.alloc (.cells #[.int .i64 p0, .int .i64 p1, .int .i64 p2, .int .i64 p3, .int .i64 p4, .int .i64 p5, .int .i64 p6, .bool p7] 30)).frozen? ⟨a, m * 10, none⟩ = false := by go_simp
  have g1 : (w.alloc (.cells #[.int .i64 p0, .int .i64 p1, .int .i64 p2, .int .i64 p3, .int .i64 p4, .int .i64 p5, .int .i64 p6, .bool p7] 30)).cell? ⟨a, m * 10 + 1, none⟩ = some v1 := by go_simp
  have k1 : (w.alloc (.cells #[.int .i64 p0, .int .i64 p1, .int .i64 p2, .int .i64 p3, .int .i64 p4, .int .i64 p5, .int .i64 p6, .bool p7] 30)).frozen? ⟨a, m * 10 + 1, none⟩ = false := by go_simp
  have g2 : (w.alloc (.cells #[.int .i64 p0, .int .i64 p1, .int .i64 p2, .int .i64 p3, .int .i64 p4, .int .i64 p5, .int .i64 p6, .bool p7] 30)).cell? ⟨a, m * 10 + 2, none⟩ = some v2 := by go_simp
  have k2 : (w.alloc (.cells #[.int .i64 p0, .int .i64 p1, .int .i64 p2, .int .i64 p3, .int .i64 p4, .int .i64 p5, .int .i64 p6, .bool p7] 30)).frozen? ⟨a, m * 10 + 2, none⟩ = false := by go_simp
  have g3 : (w.alloc (.cells #[.int .i64 p0, .int .i64 p1, .int .i64 p2, .int .i64 p3, .int .i64 p4, .int .i64 p5, .int .i64 p6, .bool p7] 30)).cell? ⟨a, m * 10 + 3, none⟩ = some v3 := by go_simp
  have k3 : (w.alloc (.cells #[.int .i64 p0, .int .i64 p1, .int .i64 p2, .int .i64 p3, .int .i64 p4, .int .i64 p5, .int .i64 p6, .bool p7] 30)).frozen? ⟨a, m * 10 + 3, none⟩ = false := by go_simp
  have g4 : (w.alloc (.cells #[.int .i64 p0, .int .i64 p1, .int .i64 p2, .int .i64 p3, .int .i64 p4, .int .i64 p5, .int .i64 p6, .bool p7] 30)).cell? ⟨a, m * 10 + 4, none⟩ = some v4 := by go_simp
  have k4 : (w.alloc (.cells #[.int .i64 p0, .int .i64 p1, .int .i64 p2, .int .i64 p3, .int .i64 p4, .int .i64 p5, .int .i64 p6, .bool p7] 30)).frozen? ⟨a, m * 10 + 4, none⟩ = false := by go_simp
  have g5 : (w.alloc (.cells #[.int .i64 p0, .int .i64 p1, .int .i64 p2, .int .i64 p3, .int .i64 p4, .int .i64 p5, .int .i64 p6, .bool p7] 30)).cell? ⟨a, m * 10 + 5, none⟩ = some v5 := by go_simp
  have k5 : (w.alloc (.cells #[.int .i64 p0, .int .i64 p1, .int .i64 p2, .int .i64 p3, .int .i64 p4, .int .i64 p5, .int .i64 p6, .bool p7] 30)).frozen? ⟨a, m * 10 + 5, none⟩ = false := by go_simp
  have g6 : (w.alloc (.cells #[.int .i64 p0, .int .i64 p1, .int .i64 p2, .int .i64 p3, .int .i64 p4, .int .i64 p5, .int .i64 p6, .bool p7] 30)).cell? ⟨a, m * 10 + 6, none⟩ = some v6 := by go_simp
  have k6 : (w.alloc (.cells #[.int .i64 p0, .int .i64 p1, .int .i64 p2, .int .i64 p3, .int .i64 p4, .int .i64 p5, .int .i64 p6, .bool p7] 30)).frozen? ⟨a, m * 10 + 6, none⟩ = false := by go_simp
  have g7 : (w.alloc (.cells #[.int .i64 p0, .int .i64 p1, .int .i64 p2, .int .i64 p3, .int .i64 p4, .int .i64 p5, .int .i64 p6, .bool p7] 30)).cell? ⟨a, m * 10 + 7, none⟩ = some v7 := by go_simp
  have k7 : (w.alloc (.cells #[.int .i64 p0, .int .i64 p1, .int .i64 p2, .int .i64 p3, .int .i64 p4, .int .i64 p5, .int .i64 p6, .bool p7] 30)).frozen? ⟨a, m * 10 + 7, none⟩ = false := by go_simp
  have g8 : (w.alloc (.cells #[.int .i64 p0, .int .i64 p1, .int .i64 p2, .int .i64 p3, .int .i64 p4, .int .i64 p5, .int .i64 p6, .bool p7] 30)).cell? ⟨a, m * 10 + 8, none⟩ = some v8 := by go_simp
  have k8 : (w.alloc (.cells #[.int .i64 p0, .int .i64 p1, .int .i64 p2, .int .i64 p3, .int .i64 p4, .int .i64 p5, .int .i64 p6, .bool p7] 30)).frozen? ⟨a, m * 10 + 8, none⟩ = false := by go_simp
  have g9 : (w.alloc (.cells #[.int .i64 p0, .int .i64 p1, .int .i64 p2, .int .i64 p3, .int .i64 p4, .int .i64 p5, .int .i64 p6, .bool p7] 30)).cell? ⟨a, m * 10 + 9, none⟩ = some v9 := by go_simp
  have k9 : (w.alloc (.cells #[.int .i64 p0, .int .i64 p1, .int .i64 p2, .int .i64 p3, .int .i64 p4, .int .i64 p5, .int .i64 p6, .bool p7] 30)).frozen? ⟨a, m * 10 + 9, none⟩ = false := by go_simp
  have b0 : (w.alloc (.cells #[.int .i64 p0, .int .i64 p1, .int .i64 p2, .int .i64 p3, .int .i64 p4, .int .i64 p5, .int .i64 p6, .bool p7] 30)).cell? ⟨w.heap.size, 0, none⟩ = some (.int .i64 p0) := by go_simp
  have b1 : (w.alloc (.cells #[.int .i64 p0, .int .i64 p1, .int .i64 p2, .int .i64 p3, .int .i64 p4, .int .i64 p5, .int .i64 p6, .bool p7] 30)).cell? ⟨w.heap.size, 1, none⟩ = some (.int .i64 p1) := by go_simp
  have b2 : (w.alloc (.cells #[.int .i64 p0, .int .i64 p1, .int .i64 p2, .int .i64 p3, .int .i64 p4, .int .i64 p5, .int .i64 p6, .bool p7] 30)).cell? ⟨w.heap.size, 2, none⟩ = some (.int .i64 p2) := by go_simp
  have b3 : (w.alloc (.cells #[.int .i64 p0, .int .i64 p1, .int .i64 p2, .int .i64 p3, .int .i64 p4, .int .i64 p5, .int .i64 p6, .bool p7] 30)).cell? ⟨w.heap.size, 3, none⟩ = some (.int .i64 p3) := by go_simp
  have b4 : (w.alloc (.cells #[.int .i64 p0, .int .i64 p1, .int .i64 p2, .int .i64 p3, .int .i64 p4, .int .i64 p5, .int .i64 p6, .bool p7] 30)).cell? ⟨w.heap.size, 4, none⟩ = some (.int .i64 p4) := by go_simp
  have b5 : (w.alloc (.cells #[.int .i64 p0, .int .i64 p1, .int .i64 p2, .int .i64 p3, .int .i64 p4, .int .i64 p5, .int .i64 p6, .bool p7] 30)).cell? ⟨w.heap.size, 5, none⟩ = some (.int .i64 p5) := by go_simp
  have b6 : (w.alloc (.cells #[.int .i64 p0, .int .i64 p1, .int .i64 p2, .int .i64 p3, .int .i64 p4, .int .i64 p5, .int .i64 p6, .bool p7] 30)).cell? ⟨w.heap.size, 6, none⟩ = some (.int .i64 p6) := by go_simp
  have b7 : (w.alloc (.cells #[.int .i64 p0, .int .i64 p1, .int .i64 p2, .int .i64 p3, .int .i64 p4, .int .i64 p5, .int .i64 p6, .bool p7] 30)).cell? ⟨w.heap.size, 7, none⟩ = some (.bool p7) := by go_simp
  have hbw : Below w.heap.size w (w.alloc (.cells #[.int .i64 p0, .int .i64 p1, .int .i64 p2, .int .i64 p3, .int .i64 p4, .int .i64 p5, .int .i64 p6, .bool p7] 30)) := (Below.refl _ _).alloc (Nat.le_refl _) _
  generalize (w.alloc (.cells #[.int .i64 p0, .int .i64 p1, .int .i64 p2, .int .i64 p3, .int .i64 p4, .int .i64 p5, .int .i64 p6, .bool p7] 30)) = w1 at gs gc gf g0 k0 g1 k1 g2 k2 g3 k3 g4 k4 g5 k5 g6 k6 g7 k7 g8 k8 g9 k9 b0 b1 b2 b3 b4 b5 b6 b7 hbw ⊢
  clear hs hc hf h0 f0 h1 f1 h2 f2 h3 f3 h4 f4 h5 f5 h6 f6 h7 f7 h8 f8 h9 f9
  have hm' := HM.out
  have hmi : (m : Int) < n := by omega
  have hn0i : ¬ (n : Int) = 0 := by omega
  have hn0n : ¬ n = 0 := by omega
  have hmw : IntKind.i64.wrap ((c : Int).tmod n) = m := by rw [hm', IntWalk.i64_in _ (by omega)]
  have hmn : IntKind.i64.wrap (m : Int) = m := IntWalk.i64_in _ (by omega)
  go_still_tail 12, (by kernel_rfl)
  go_wp2_with fail
  refine (int_store _ _ (c : Int) _ _ (by go_simp) (by go_simp)).mono ?_
  rintro e w' ⟨rfl, rfl⟩
  go_wp2_with fail
  go_returns
  exact ⟨w1, hbw, rfl, rfl⟩
end Go.Proofs.Ytiajdfipkojodaa
