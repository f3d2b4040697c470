/- The ring's Get. -/
import Derived.Test.YtiajdfipkojodaaR2
namespace Go.Proofs.Ytiajdfipkojodaa
open Go.RowKit
set_option linter.unusedSimpArgs false
set_option linter.unusedVariables false

attribute [local go_sem] setCell_drewN alloc_drewN

/-- What Get hands back, and that below the old heap's end nothing has turned. -/
def GetPost (v : Value) (b : Bool) (w : World) (e : Ending) (w' : World) : Prop := e = .returned (.tuple #[v, .bool b]) ∧ Below w.heap.size w w'

theorem below_drewN {B : Nat} {a w : World} (h : Below B a w) (q : Nat) : Below B a (w.drewN q) := ⟨h.os, h.tape, h.output, h.size, h.block⟩

theorem get_out (r a n c : Nat) (k : Int) (w : World) (hcb : c ≤ 1000000000000) (hn : n ≤ 4096) (hout : k < ((c - n : Nat) : Int) ∨ (c : Int) ≤ k)
    (hs : w.cell? ⟨r, 0, none⟩ = some (.slice (some ⟨a, 0, none⟩) n n)) (hc : w.cell? ⟨r, 1, none⟩ = some (.int .i64 c)) :
    Calls Try.prog 10 #[.pointer (some ⟨r, 0, none⟩), .int .i64 k] w (GetPost (.agg #[.int .i64 0, .int .i64 0, .int .i64 0, .int .i64 0, .int .i64 0, .int .i64 0, .int .i64 0, .int .i64 0, .int .i64 0, .bool false]) false w) := by
  have hlt := lt_cell hc
  by_cases h1 : k < ((c - n : Nat) : Int)
  · go_enter Try.func10, Try.ntmps10
    go_wp2_with fail
    refine (first_any r a n c _ (by go_simp) (by go_simp) hn hcb).mono ?_
    rintro e w' ⟨rfl, q, rfl⟩
    go_wp2_with fail
    refine bodyPost_ret (v := .tuple #[.agg #[.int .i64 0, .int .i64 0, .int .i64 0, .int .i64 0, .int .i64 0, .int .i64 0, .int .i64 0, .int .i64 0, .int .i64 0, .bool false], .bool false]) (by simp [results, Try.results10, go_sem]) rfl ⟨rfl, below_drewN ((Below.refl _ _).alloc (Nat.le_refl _) _) q⟩
  · have h2 : (c : Int) ≤ k := by omega
    have h3 : ((c - n : Nat) : Int) ≤ k := by omega
    go_enter Try.func10, Try.ntmps10
    go_wp2_with fail
    refine (first_any r a n c _ (by go_simp) (by go_simp) hn hcb).mono ?_
    rintro e w' ⟨rfl, q, rfl⟩
    go_wp2_with fail
    refine (int_load _ _ (c : Int) _ (by go_simp)).mono ?_
    rintro e w' ⟨rfl, rfl⟩
    go_wp2_with fail
    refine bodyPost_ret (v := .tuple #[.agg #[.int .i64 0, .int .i64 0, .int .i64 0, .int .i64 0, .int .i64 0, .int .i64 0, .int .i64 0, .int .i64 0, .int .i64 0, .bool false], .bool false]) (by simp [results, Try.results10, go_sem]) rfl ⟨rfl, below_drewN ((Below.refl _ _).alloc (Nat.le_refl _) _) q⟩

set_option maxHeartbeats 800000 in
theorem get_in (r a n c m k : Nat) (w : World) (hcb : c ≤ 1000000000000) (hn0 : 0 < n) (hn : n ≤ 4096) (hlo : c ≤ k + n) (hhi : k < c) (hm : m < n) (HM : Hid ((k : Int).tmod n = m))
    (hs : w.cell? ⟨r, 0, none⟩ = some (.slice (some ⟨a, 0, none⟩) n n)) (hc : w.cell? ⟨r, 1, none⟩ = some (.int .i64 c))
    (v0 v1 v2 v3 v4 v5 v6 v7 v8 : Int) (v9 : Bool)
    (h0 : w.cell? ⟨a, m * 10, none⟩ = some (.int .i64 v0)) (h1 : w.cell? ⟨a, m * 10 + 1, none⟩ = some (.int .i64 v1)) (h2 : w.cell? ⟨a, m * 10 + 2, none⟩ = some (.int .i64 v2)) (h3 : w.cell? ⟨a, m * 10 + 3, none⟩ = some (.int .i64 v3)) (h4 : w.cell? ⟨a, m * 10 + 4, none⟩ = some (.int .i64 v4)) (h5 : w.cell? ⟨a, m * 10 + 5, none⟩ = some (.int .i64 v5)) (h6 : w.cell? ⟨a, m * 10 + 6, none⟩ = some (.int .i64 v6)) (h7 : w.cell? ⟨a, m * 10 + 7, none⟩ = some (.int .i64 v7)) (h8 : w.cell? ⟨a, m * 10 + 8, none⟩ = some (.int .i64 v8)) (h9 : w.cell? ⟨a, m * 10 + 9, none⟩ = some (.bool v9)) :
    Calls Try.prog 10 #[.pointer (some ⟨r, 0, none⟩), .int .i64 k] w (GetPost (.agg #[.int .i64 v0, .int .i64 v1, .int .i64 v2, .int .i64 v3, .int .i64 v4, .int .i64 v5, .int .i64 v6, .int .i64 v7, .int .i64 v8, .bool v9]) true w) := by
  have hlt := lt_cell hc
  have hlta := lt_cell h0
  have i1 : decide ((k : Int) < ((c - n : Nat) : Int)) = false := by simp; omega
  have i2 : decide (k < c - n) = false := by simp; omega
  have i3 : decide ((c : Int) ≤ k) = false := by simp; omega
  have i4 : decide (c ≤ k) = false := by simp; omega
  go_enter Try.func10, Try.ntmps10
  go_wp2_with fail
  refine (first_any r a n c _ (by go_simp) (by go_simp) hn hcb).mono ?_
  rintro e w' ⟨rfl, q, rfl⟩
  go_wp2_with fail
  refine (int_load _ _ (c : Int) _ (by go_simp)).mono ?_
  rintro e w' ⟨rfl, rfl⟩
  go_wp2_with fail
  have gs : ((w.alloc (.cells #[.int .i64 0, .int .i64 0, .int .i64 0, .int .i64 0, .int .i64 0, .int .i64 0, .int .i64 0, .int .i64 0, .int .i64 0, .bool false] 33)).drewN q).cell? ⟨r, 0, none⟩ = some (.slice (some ⟨a, 0, none⟩) n n) := by go_simp
  have g0 : ((w.alloc (.cells #[.int .i64 0, .int .i64 0, .int .i64 0, .int .i64 0, .int .i64 0, .int .i64 0, .int .i64 0, .int .i64 0, .int .i64 0, .bool false] 33)).drewN q).cell? ⟨a, m * 10, none⟩ = some (.int .i64 v0) := by go_simp
  have g1 : ((w.alloc (.cells #[.int .i64 0, .int .i64 0, .int .i64 0, .int .i64 0, .int .i64 0, .int .i64 0, .int .i64 0, .int .i64 0, .int .i64 0, .bool false] 33)).drewN q).cell? ⟨a, m * 10 + 1, none⟩ = some (.int .i64 v1) := by go_simp
  have g2 : ((w.alloc (.cells #[.int .i64 0, .int .i64 0, .int .i64 0, .int .i64 0, .int .i64 0, .int .i64 0, .int .i64 0, .int .i64 0, .int .i64 0, .bool false] 33)).drewN q).cell? ⟨a, m * 10 + 2, none⟩ = some (.int .i64 v2) := by go_simp
  have g3 : ((w.alloc (.cells #[.int .i64 0, .int .i64 0, .int .i64 0, .int .i64 0, .int .i64 0, .int .i64 0, .int .i64 0, .int .i64 0, .int .i64 0, .bool false] 33)).drewN q).cell? ⟨a, m * 10 + 3, none⟩ = some (.int .i64 v3) := by go_simp
  have g4 : ((w.alloc (.cells #[.int .i64 0, .int .i64 0, .int .i64 0, .int .i64 0, .int .i64 0, .int .i64 0, .int .i64 0, .int .i64 0, .int .i64 0, .bool false] 33)).drewN q).cell? ⟨a, m * 10 + 4, none⟩ = some (.int .i64 v4) := by go_simp
  have g5 : ((w.alloc (.cells #[.int .i64 0, .int .i64 0, .int .i64 0, .int .i64 0, .int .i64 0, .int .i64 0, .int .i64 0, .int .i64 0, .int .i64 0, .bool false] 33)).drewN q).cell? ⟨a, m * 10 + 5, none⟩ = some (.int .i64 v5) := by go_simp
  have g6 : ((w.alloc (.cells #[.int .i64 0, .int .i64 0, .int .i64 0, .int .i64 0, .int .i64 0, .int .i64 0, .int .i64 0, .int .i64 0, .int .i64 0, .bool false] 33)).drewN q).cell? ⟨a, m * 10 + 6, none⟩ = some (.int .i64 v6) := by go_simp
  have g7 : ((w.alloc (.cells #[.int .i64 0, .int .i64 0, .int .i64 0, .int .i64 0, .int .i64 0, .int .i64 0, .int .i64 0, .int .i64 0, .int .i64 0, .bool false] 33)).drewN q).cell? ⟨a, m * 10 + 7, none⟩ = some (.int .i64 v7) := by go_simp
  have g8 : ((w.alloc (.cells #[.int .i64 0, .int .i64 0, .int .i64 0, .int .i64 0, .int .i64 0, .int .i64 0, .int .i64 0, .int .i64 0, .int .i64 0, .bool false] 33)).drewN q).cell? ⟨a, m * 10 + 8, none⟩ = some (.int .i64 v8) := by go_simp
  have g9 : ((w.alloc (.cells #[.int .i64 0, .int .i64 0, .int .i64 0, .int .i64 0, .int .i64 0, .int .i64 0, .int .i64 0, .int .i64 0, .int .i64 0, .bool false] 33)).drewN q).cell? ⟨a, m * 10 + 9, none⟩ = some (.bool v9) := by go_simp
  have b0 : ((w.alloc (.cells #[.int .i64 0, .int .i64 0, .int .i64 0, .int .i64 0, .int .i64 0, .int .i64 0, .int .i64 0, .int .i64 0, .int .i64 0, .bool false] 33)).drewN q).cell? ⟨w.heap.size, 0, none⟩ = some (.int .i64 0) := by go_simp
  have d0 : ((w.alloc (.cells #[.int .i64 0, .int .i64 0, .int .i64 0, .int .i64 0, .int .i64 0, .int .i64 0, .int .i64 0, .int .i64 0, .int .i64 0, .bool false] 33)).drewN q).frozen? ⟨w.heap.size, 0, none⟩ = false := by go_simp
  have b1 : ((w.alloc (.cells #[.int .i64 0, .int .i64 0, .int .i64 0, .int .i64 0, .int .i64 0, .int .i64 0, .int .i64 0, .int .i64 0, .int .i64 0, .bool false] 33)).drewN q).cell? ⟨w.heap.size, 1, none⟩ = some (.int .i64 0) := by go_simp
  have d1 : ((w.alloc (.cells #[.int .i64 0, .int .i64 0, .int .i64 0, .int .i64 0, .int .i64 0, .int .i64 0, .int .i64 0, .int .i64 0, .int .i64 0, .bool false] 33)).drewN q).frozen? ⟨w.heap.size, 1, none⟩ = false := by go_simp
  have b2 : ((w.alloc (.cells #[.int .i64 0, .int .i64 0, .int .i64 0, .int .i64 0, .int .i64 0, .int .i64 0, .int .i64 0, .int .i64 0, .int .i64 0, .bool false] 33)).drewN q).cell? ⟨w.heap.size, 2, none⟩ = some (.int .i64 0) := by go_simp
  have d2 : ((w.alloc (.cells #[.int .i64 0, .int .i64 0, .int .i64 0, .int .i64 0, .int .i64 0, .int .i64 0, .int .i64 0, .int .i64 0, .int .i64 0, .bool false] 33)).drewN q).frozen? ⟨w.heap.size, 2, none⟩ = false := by go_simp
  have b3 : ((w.alloc (.cells #[.int .i64 0, .int .i64 0, .int .i64 0, .int .i64 0, .int .i64 0, .int .i64 0, .int .i64 0, .int .i64 0, .int .i64 0, .bool false] 33)).drewN q).cell? ⟨w.heap.size, 3, none⟩ = some (.int .i64 0) := by go_simp
  have d3 : ((w.alloc (.cells #[.int .i64 0, .int .i64 0, .int .i64 0, .int .i64 0, .int .i64 0, .int .i64 0, .int .i64 0, .int .i64 0, .int .i64 0, .bool false] 33)).drewN q).frozen? ⟨w.heap.size, 3, none⟩ = false := by go_simp
  have b4 : ((w.alloc (.cells #[.int .i64 0, .int .i64 0, .int .i64 0, .int .i64 0, .int .i64 0, .int .i64 0, .int .i64 0, .int .i64 0, .int .i64 0, .bool false] 33)).drewN q).cell? ⟨w.heap.size, 4, none⟩ = some (.int .i64 0) := by go_simp
  have d4 : ((w.alloc (.cells #[.int .i64 0, .int .i64 0, .int .i64 0, .int .i64 0, .int .i64 0, .int .i64 0, .int .i64 0, .int .i64 0, .int .i64 0, .bool false] 33)).drewN q).frozen? ⟨w.heap.size, 4, none⟩ = false := by go_simp
  have b5 : ((w.alloc (.cells #[.int .i64 0, .int .i64 0, .int .i64 0, .int .i64 0, .int .i64 0, .int .i64 0, .int .i64 0, .int .i64 0, .int .i64 0, .bool false] 33)).drewN q).cell? ⟨w.heap.size, 5, none⟩ = some (.int .i64 0) := by go_simp
  have d5 : ((w.alloc (.cells #[.int .i64 0, .int .i64 0, .int .i64 0, .int .i64 0, .int .i64 0, .int .i64 0, .int .i64 0, .int .i64 0, .int .i64 0, .bool false] 33)).drewN q).frozen? ⟨w.heap.size, 5, none⟩ = false := by go_simp
  have b6 : ((w.alloc (.cells #[.int .i64 0, .int .i64 0, .int .i64 0, .int .i64 0, .int .i64 0, .int .i64 0, .int .i64 0, .int .i64 0, .int .i64 0, .bool false] 33)).drewN q).cell? ⟨w.heap.size, 6, none⟩ = some (.int .i64 0) := by go_simp
  have d6 : ((w.alloc (.cells #[.int .i64 0, .int .i64 0, .int .i64 0, .int .i64 0, .int .i64 0, .int .i64 0, .int .i64 0, .int .i64 0, .int .i64 0, .bool false] 33)).drewN q).frozen? ⟨w.heap.size, 6, none⟩ = false := by go_simp
  have b7 : ((w.alloc (.cells #[.int .i64 0, .int .i64 0, .int .i64 0, .int .i64 0, .int .i64 0, .int .i64 0, .int .i64 0, .int .i64 0, .int .i64 0, .bool false] 33)).drewN q).cell? ⟨w.heap.size, 7, none⟩ = some (.int .i64 0) := by go_simp
  have d7 : ((w.alloc (.cells #[.int .i64 0, .int .i64 0, .int .i64 0, .int .i64 0, .int .i64 0, .int .i64 0, .int .i64 0, .int .i64 0, .int .i64 0, .bool false] 33)).drewN q).frozen? ⟨w.heap.size, 7, none⟩ = false := by go_simp
  have b8 : ((w.alloc (.cells #[.int .i64 0, .int .i64 0, .int .i64 0, .int .i64 0, .int .i64 0, .int .i64 0, .int .i64 0, .int .i64 0, .int .i64 0, .bool false] 33)).drewN q).cell? ⟨w.heap.size, 8, none⟩ = some (.int .i64 0) := by go_simp
  have d8 : ((w.alloc (.cells #[.int .i64 0, .int .i64 0, .int .i64 0, .int .i64 0, .int .i64 0, .int .i64 0, .int .i64 0, .int .i64 0, .int .i64 0, .bool false] 33)).drewN q).frozen? ⟨w.heap.size, 8, none⟩ = false := by go_simp
  have b9 : ((w.alloc (.cells #[.int .i64 0, .int .i64 0, .int .i64 0, .int .i64 0, .int .i64 0, .int .i64 0, .int .i64 0, .int .i64 0, .int .i64 0, .bool false] 33)).drewN q).cell? ⟨w.heap.size, 9, none⟩ = some (.bool false) := by go_simp
  have d9 : ((w.alloc (.cells #[.int .i64 0, .int .i64 0, .int .i64 0, .int .i64 0, .int .i64 0, .int .i64 0, .int .i64 0, .int .i64 0, .int .i64 0, .bool false] 33)).drewN q).frozen? ⟨w.heap.size, 9, none⟩ = false := by go_simp
  have hbw : Below w.heap.size w ((w.alloc (.cells #[.int .i64 0, .int .i64 0, .int .i64 0, .int .i64 0, .int .i64 0, .int .i64 0, .int .i64 0, .int .i64 0, .int .i64 0, .bool false] 33)).drewN q) := below_drewN ((Below.refl _ _).alloc (Nat.le_refl _) _) q
  generalize ((w.alloc (.cells #[.int .i64 0, .int .i64 0, .int .i64 0, .int .i64 0, .int .i64 0, .int .i64 0, .int .i64 0, .int .i64 0, .int .i64 0, .bool false] 33)).drewN q) = w1 at gs g0 g1 g2 g3 g4 g5 g6 g7 g8 g9 b0 d0 b1 d1 b2 d2 b3 d3 b4 d4 b5 d5 b6 d6 b7 d7 b8 d8 b9 d9 hbw ⊢
  clear hs hc h0 h1 h2 h3 h4 h5 h6 h7 h8 h9
  have hm' := HM.out
  have hmi : (m : Int) < n := by omega
  have hn0i : ¬ (n : Int) = 0 := by omega
  have hn0n : ¬ n = 0 := by omega
  have hmw : IntKind.i64.wrap ((k : Int).tmod n) = m := by rw [hm', IntWalk.i64_in _ (by omega)]
  have hmn : IntKind.i64.wrap (m : Int) = m := IntWalk.i64_in _ (by omega)
  go_still_tail 13, (by kernel_rfl)
  go_wp2_with fail
  refine bodyPost_ret (v := .tuple #[.agg #[.int .i64 v0, .int .i64 v1, .int .i64 v2, .int .i64 v3, .int .i64 v4, .int .i64 v5, .int .i64 v6, .int .i64 v7, .int .i64 v8, .bool v9], .bool true]) (by simp [results, Try.results10, go_sem, b0, b1, b2, b3, b4, b5, b6, b7, b8, b9]) rfl ⟨rfl, ?_⟩
  exact ((((((((((hbw.setCell (Nat.le_refl _) _).setCell (Nat.le_refl _) _).setCell (Nat.le_refl _) _).setCell (Nat.le_refl _) _).setCell (Nat.le_refl _) _).setCell (Nat.le_refl _) _).setCell (Nat.le_refl _) _).setCell (Nat.le_refl _) _).setCell (Nat.le_refl _) _).setCell (Nat.le_refl _) _).drew
end Go.Proofs.Ytiajdfipkojodaa
