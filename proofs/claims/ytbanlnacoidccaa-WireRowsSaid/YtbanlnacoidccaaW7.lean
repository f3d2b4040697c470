/- A command's bytes: the law's own. -/
import Derived.Test.YtbanlnacoidccaaW6
namespace Go.Proofs.Ytbanlnacoidccaa
open Go.RowKit
set_option linter.unusedSimpArgs false
set_option linter.unusedVariables false

set_option maxRecDepth 100000 in
set_option maxHeartbeats 1600000 in
theorem law_low (op id e p : Int) (w : World) (h : op < 1) :
    Calls Try.prog 12 #[.agg #[.int .i64 op, .int .i64 id, .int .i64 e, .int .i64 p]] w (BytesPost [] (.bool false) w) := by
  have t0 : (op == 1) = false := by simp; omega
  have t1 : (op == 2) = false := by simp; omega
  have t2 : (op == 7) = false := by simp; omega
  have t3 : decide (op < 1) = true := by exact decide_eq_true (by omega)
  go_enter Try.func12, Try.ntmps12
  go_wp2_with fail
  go_returns
  exact ⟨_, rfl, OB_nil _ _, by go_grown⟩

set_option maxRecDepth 100000 in
set_option maxHeartbeats 1600000 in
theorem law_high (op id e p : Int) (w : World) (h : 8 < op) :
    Calls Try.prog 12 #[.agg #[.int .i64 op, .int .i64 id, .int .i64 e, .int .i64 p]] w (BytesPost [] (.bool false) w) := by
  have t0 : (op == 1) = false := by simp; omega
  have t1 : (op == 2) = false := by simp; omega
  have t2 : (op == 7) = false := by simp; omega
  have t3 : decide (op < 1) = false := by exact decide_eq_false (by omega)
  have t4 : decide (8 < op) = true := by exact decide_eq_true (by omega)
  go_enter Try.func12, Try.ntmps12
  go_wp2_with fail
  go_returns
  exact ⟨_, rfl, OB_nil _ _, by go_grown⟩

set_option maxRecDepth 100000 in
set_option maxHeartbeats 1600000 in
theorem law_one1_idlow (id e p : Int) (w : World) (r : id < 0) :
    Calls Try.prog 12 #[.agg #[.int .i64 1, .int .i64 id, .int .i64 e, .int .i64 p]] w (BytesPost [] (.bool false) w) := by
  have t0 : decide (id < 0) = true := by exact decide_eq_true (by omega)
  go_enter Try.func12, Try.ntmps12
  go_wp2_with fail
  go_returns
  exact ⟨_, rfl, OB_nil _ _, by go_grown⟩

set_option maxRecDepth 100000 in
set_option maxHeartbeats 1600000 in
theorem law_one1_idhigh (id e p : Int) (w : World) (id0 : 0 ≤ id) (r : 65535 < id) :
    Calls Try.prog 12 #[.agg #[.int .i64 1, .int .i64 id, .int .i64 e, .int .i64 p]] w (BytesPost [] (.bool false) w) := by
  have t0 : decide (id < 0) = false := by exact decide_eq_false (by omega)
  have t1 : decide (65535 < id) = true := by exact decide_eq_true (by omega)
  go_enter Try.func12, Try.ntmps12
  go_wp2_with fail
  go_returns
  exact ⟨_, rfl, OB_nil _ _, by go_grown⟩

set_option maxRecDepth 100000 in
set_option maxHeartbeats 1600000 in
theorem law_one1_elow (id e p : Int) (w : World) (id0 : 0 ≤ id) (id1 : id ≤ 65535) (r : e < 0) :
    Calls Try.prog 12 #[.agg #[.int .i64 1, .int .i64 id, .int .i64 e, .int .i64 p]] w (BytesPost [] (.bool false) w) := by
  have t0 : decide (id < 0) = false := by exact decide_eq_false (by omega)
  have t1 : decide (65535 < id) = false := by exact decide_eq_false (by omega)
  have t2 : decide (e < 0) = true := by exact decide_eq_true (by omega)
  go_enter Try.func12, Try.ntmps12
  go_wp2_with fail
  go_returns
  exact ⟨_, rfl, OB_nil _ _, by go_grown⟩

set_option maxRecDepth 100000 in
set_option maxHeartbeats 1600000 in
theorem law_one1_ehigh (id e p : Int) (w : World) (id0 : 0 ≤ id) (id1 : id ≤ 65535) (e0 : 0 ≤ e) (r : 4294967295 < e) :
    Calls Try.prog 12 #[.agg #[.int .i64 1, .int .i64 id, .int .i64 e, .int .i64 p]] w (BytesPost [] (.bool false) w) := by
  have t0 : decide (id < 0) = false := by exact decide_eq_false (by omega)
  have t1 : decide (65535 < id) = false := by exact decide_eq_false (by omega)
  have t2 : decide (e < 0) = false := by exact decide_eq_false (by omega)
  have t3 : decide (4294967295 < e) = true := by exact decide_eq_true (by omega)
  go_enter Try.func12, Try.ntmps12
  go_wp2_with fail
  go_returns
  exact ⟨_, rfl, OB_nil _ _, by go_grown⟩

set_option maxRecDepth 100000 in
set_option maxHeartbeats 1600000 in
theorem law_one1_plow (id e p : Int) (w : World) (id0 : 0 ≤ id) (id1 : id ≤ 65535) (e0 : 0 ≤ e) (e1 : e ≤ 4294967295) (r : p < 0) :
    Calls Try.prog 12 #[.agg #[.int .i64 1, .int .i64 id, .int .i64 e, .int .i64 p]] w (BytesPost [] (.bool false) w) := by
  have t0 : decide (id < 0) = false := by exact decide_eq_false (by omega)
  have t1 : decide (65535 < id) = false := by exact decide_eq_false (by omega)
  have t2 : decide (e < 0) = false := by exact decide_eq_false (by omega)
  have t3 : decide (4294967295 < e) = false := by exact decide_eq_false (by omega)
  have t4 : decide (p < 0) = true := by exact decide_eq_true (by omega)
  go_enter Try.func12, Try.ntmps12
  go_wp2_with fail
  go_returns
  exact ⟨_, rfl, OB_nil _ _, by go_grown⟩

set_option maxRecDepth 100000 in
set_option maxHeartbeats 1600000 in
theorem law_one1_phigh (id e p : Int) (w : World) (id0 : 0 ≤ id) (id1 : id ≤ 65535) (e0 : 0 ≤ e) (e1 : e ≤ 4294967295) (p0 : 0 ≤ p) (r : 4294967295 < p) :
    Calls Try.prog 12 #[.agg #[.int .i64 1, .int .i64 id, .int .i64 e, .int .i64 p]] w (BytesPost [] (.bool false) w) := by
  have t0 : decide (id < 0) = false := by exact decide_eq_false (by omega)
  have t1 : decide (65535 < id) = false := by exact decide_eq_false (by omega)
  have t2 : decide (e < 0) = false := by exact decide_eq_false (by omega)
  have t3 : decide (4294967295 < e) = false := by exact decide_eq_false (by omega)
  have t4 : decide (p < 0) = false := by exact decide_eq_false (by omega)
  have t5 : decide (4294967295 < p) = true := by exact decide_eq_true (by omega)
  go_enter Try.func12, Try.ntmps12
  go_wp2_with fail
  go_returns
  exact ⟨_, rfl, OB_nil _ _, by go_grown⟩

set_option maxRecDepth 100000 in
set_option maxHeartbeats 1600000 in
theorem law_one1_ok (id e p : Int) (w : World) (id0 : 0 ≤ id) (id1 : id ≤ 65535) (e0 : 0 ≤ e) (e1 : e ≤ 4294967295) (p0 : 0 ≤ p) (p1 : p ≤ 4294967295)  :
    Calls Try.prog 12 #[.agg #[.int .i64 1, .int .i64 id, .int .i64 e, .int .i64 p]] w (BytesPost ([1] ++ be id 2 ++ be e 4 ++ be p 4) (.bool true) w) := by
  have t0 : decide (id < 0) = false := by exact decide_eq_false (by omega)
  have t1 : decide (65535 < id) = false := by exact decide_eq_false (by omega)
  have t2 : decide (e < 0) = false := by exact decide_eq_false (by omega)
  have t3 : decide (4294967295 < e) = false := by exact decide_eq_false (by omega)
  have t4 : decide (p < 0) = false := by exact decide_eq_false (by omega)
  have t5 : decide (4294967295 < p) = false := by exact decide_eq_false (by omega)
  go_enter Try.func12, Try.ntmps12
  go_wp2_with fail
  refine (put21 (w.heap.size + 1) _ [1] id 2 _ (by omega) (by omega) (by omega) (by simp [be_len]) (OB_one _ _ (w.heap.size + 1) _ (by simp) (by omega)) (by simp)).mono ?_
  rintro en w2 ⟨v1, rfl, hO1, hb1⟩
  have hB1 : Below (w.heap.size + 1) (w.alloc (.cells #[.int .i64 1, .int .i64 id, .int .i64 e, .int .i64 p] 23)) w2 := ((Below.refl (w.heap.size + 1) (w.alloc (.cells #[.int .i64 1, .int .i64 id, .int .i64 e, .int .i64 p] 23))).alloc (by simp) _).trans hb1
  have hs1 : w.heap.size + 1 ≤ w2.heap.size := by have := hB1.size; simpa using this
  have x10 : w2.cell? ⟨w.heap.size, 0, none⟩ = some (.int .i64 1) := cells_of_box hB1 0 _ rfl
  have x11 : w2.cell? ⟨w.heap.size, 1, none⟩ = some (.int .i64 id) := cells_of_box hB1 1 _ rfl
  have x12 : w2.cell? ⟨w.heap.size, 2, none⟩ = some (.int .i64 e) := cells_of_box hB1 2 _ rfl
  have x13 : w2.cell? ⟨w.heap.size, 3, none⟩ = some (.int .i64 p) := cells_of_box hB1 3 _ rfl
  clear hb1
  go_wp2_with fail
  refine (put21 (w.heap.size + 1) _ ([1] ++ be id 2) e 4 _ (by omega) (by omega) (by omega) (by simp [be_len]) hO1 (by omega)).mono ?_
  rintro en w3 ⟨v2, rfl, hO2, hb2⟩
  have hB2 : Below (w.heap.size + 1) (w.alloc (.cells #[.int .i64 1, .int .i64 id, .int .i64 e, .int .i64 p] 23)) w3 := hB1.trans hb2
  have hs2 : w.heap.size + 1 ≤ w3.heap.size := by have := hB2.size; simpa using this
  have x20 : w3.cell? ⟨w.heap.size, 0, none⟩ = some (.int .i64 1) := cells_of_box hB2 0 _ rfl
  have x21 : w3.cell? ⟨w.heap.size, 1, none⟩ = some (.int .i64 id) := cells_of_box hB2 1 _ rfl
  have x22 : w3.cell? ⟨w.heap.size, 2, none⟩ = some (.int .i64 e) := cells_of_box hB2 2 _ rfl
  have x23 : w3.cell? ⟨w.heap.size, 3, none⟩ = some (.int .i64 p) := cells_of_box hB2 3 _ rfl
  clear hb2
  clear hO1 hB1 x10 x11 x12 x13
  go_wp2_with fail
  refine (put21 (w.heap.size + 1) _ ([1] ++ be id 2 ++ be e 4) p 4 _ (by omega) (by omega) (by omega) (by simp [be_len]) hO2 (by omega)).mono ?_
  rintro en w4 ⟨v3, rfl, hO3, hb3⟩
  have hB3 : Below (w.heap.size + 1) (w.alloc (.cells #[.int .i64 1, .int .i64 id, .int .i64 e, .int .i64 p] 23)) w4 := hB2.trans hb3
  have hs3 : w.heap.size + 1 ≤ w4.heap.size := by have := hB3.size; simpa using this
  have x30 : w4.cell? ⟨w.heap.size, 0, none⟩ = some (.int .i64 1) := cells_of_box hB3 0 _ rfl
  have x31 : w4.cell? ⟨w.heap.size, 1, none⟩ = some (.int .i64 id) := cells_of_box hB3 1 _ rfl
  have x32 : w4.cell? ⟨w.heap.size, 2, none⟩ = some (.int .i64 e) := cells_of_box hB3 2 _ rfl
  have x33 : w4.cell? ⟨w.heap.size, 3, none⟩ = some (.int .i64 p) := cells_of_box hB3 3 _ rfl
  clear hb3
  clear hO2 hB2 x20 x21 x22 x23
  go_wp2_with fail
  go_returns
  exact ⟨_, rfl, hO3.mono (by omega), (((Below.refl _ _).alloc (Nat.le_refl _) _).trans (hB3.mono (by omega)))⟩

set_option maxRecDepth 100000 in
set_option maxHeartbeats 1600000 in
theorem law_two_idlow (id e p : Int) (w : World) (r : id < 0) :
    Calls Try.prog 12 #[.agg #[.int .i64 2, .int .i64 id, .int .i64 e, .int .i64 p]] w (BytesPost [] (.bool false) w) := by
  have t0 : decide (id < 0) = true := by exact decide_eq_true (by omega)
  go_enter Try.func12, Try.ntmps12
  go_wp2_with fail
  go_returns
  exact ⟨_, rfl, OB_nil _ _, by go_grown⟩

set_option maxRecDepth 100000 in
set_option maxHeartbeats 1600000 in
theorem law_two_idhigh (id e p : Int) (w : World) (id0 : 0 ≤ id) (r : 65535 < id) :
    Calls Try.prog 12 #[.agg #[.int .i64 2, .int .i64 id, .int .i64 e, .int .i64 p]] w (BytesPost [] (.bool false) w) := by
  have t0 : decide (id < 0) = false := by exact decide_eq_false (by omega)
  have t1 : decide (65535 < id) = true := by exact decide_eq_true (by omega)
  go_enter Try.func12, Try.ntmps12
  go_wp2_with fail
  go_returns
  exact ⟨_, rfl, OB_nil _ _, by go_grown⟩

set_option maxRecDepth 100000 in
set_option maxHeartbeats 1600000 in
theorem law_two_elow (id e p : Int) (w : World) (id0 : 0 ≤ id) (id1 : id ≤ 65535) (r : e < 0) :
    Calls Try.prog 12 #[.agg #[.int .i64 2, .int .i64 id, .int .i64 e, .int .i64 p]] w (BytesPost [] (.bool false) w) := by
  have t0 : decide (id < 0) = false := by exact decide_eq_false (by omega)
  have t1 : decide (65535 < id) = false := by exact decide_eq_false (by omega)
  have t2 : decide (e < 0) = true := by exact decide_eq_true (by omega)
  go_enter Try.func12, Try.ntmps12
  go_wp2_with fail
  go_returns
  exact ⟨_, rfl, OB_nil _ _, by go_grown⟩

set_option maxRecDepth 100000 in
set_option maxHeartbeats 1600000 in
theorem law_two_ehigh (id e p : Int) (w : World) (id0 : 0 ≤ id) (id1 : id ≤ 65535) (e0 : 0 ≤ e) (r : 4294967295 < e) :
    Calls Try.prog 12 #[.agg #[.int .i64 2, .int .i64 id, .int .i64 e, .int .i64 p]] w (BytesPost [] (.bool false) w) := by
  have t0 : decide (id < 0) = false := by exact decide_eq_false (by omega)
  have t1 : decide (65535 < id) = false := by exact decide_eq_false (by omega)
  have t2 : decide (e < 0) = false := by exact decide_eq_false (by omega)
  have t3 : decide (4294967295 < e) = true := by exact decide_eq_true (by omega)
  go_enter Try.func12, Try.ntmps12
  go_wp2_with fail
  go_returns
  exact ⟨_, rfl, OB_nil _ _, by go_grown⟩

set_option maxRecDepth 100000 in
set_option maxHeartbeats 1600000 in
theorem law_two_plow (id e p : Int) (w : World) (id0 : 0 ≤ id) (id1 : id ≤ 65535) (e0 : 0 ≤ e) (e1 : e ≤ 4294967295) (r : p < 0) :
    Calls Try.prog 12 #[.agg #[.int .i64 2, .int .i64 id, .int .i64 e, .int .i64 p]] w (BytesPost [] (.bool false) w) := by
  have t0 : decide (id < 0) = false := by exact decide_eq_false (by omega)
  have t1 : decide (65535 < id) = false := by exact decide_eq_false (by omega)
  have t2 : decide (e < 0) = false := by exact decide_eq_false (by omega)
  have t3 : decide (4294967295 < e) = false := by exact decide_eq_false (by omega)
  have t4 : decide (p < 0) = true := by exact decide_eq_true (by omega)
  go_enter Try.func12, Try.ntmps12
  go_wp2_with fail
  go_returns
  exact ⟨_, rfl, OB_nil _ _, by go_grown⟩

set_option maxRecDepth 100000 in
set_option maxHeartbeats 1600000 in
theorem law_two_phigh (id e p : Int) (w : World) (id0 : 0 ≤ id) (id1 : id ≤ 65535) (e0 : 0 ≤ e) (e1 : e ≤ 4294967295) (p0 : 0 ≤ p) (r : 4294967295 < p) :
    Calls Try.prog 12 #[.agg #[.int .i64 2, .int .i64 id, .int .i64 e, .int .i64 p]] w (BytesPost [] (.bool false) w) := by
  have t0 : decide (id < 0) = false := by exact decide_eq_false (by omega)
  have t1 : decide (65535 < id) = false := by exact decide_eq_false (by omega)
  have t2 : decide (e < 0) = false := by exact decide_eq_false (by omega)
  have t3 : decide (4294967295 < e) = false := by exact decide_eq_false (by omega)
  have t4 : decide (p < 0) = false := by exact decide_eq_false (by omega)
  have t5 : decide (4294967295 < p) = true := by exact decide_eq_true (by omega)
  go_enter Try.func12, Try.ntmps12
  go_wp2_with fail
  go_returns
  exact ⟨_, rfl, OB_nil _ _, by go_grown⟩

set_option maxRecDepth 100000 in
set_option maxHeartbeats 1600000 in
theorem law_two_ok (id e p : Int) (w : World) (id0 : 0 ≤ id) (id1 : id ≤ 65535) (e0 : 0 ≤ e) (e1 : e ≤ 4294967295) (p0 : 0 ≤ p) (p1 : p ≤ 4294967295)  :
    Calls Try.prog 12 #[.agg #[.int .i64 2, .int .i64 id, .int .i64 e, .int .i64 p]] w (BytesPost ([2] ++ be id 2 ++ be e 4 ++ be p 4) (.bool true) w) := by
  have t0 : decide (id < 0) = false := by exact decide_eq_false (by omega)
  have t1 : decide (65535 < id) = false := by exact decide_eq_false (by omega)
  have t2 : decide (e < 0) = false := by exact decide_eq_false (by omega)
  have t3 : decide (4294967295 < e) = false := by exact decide_eq_false (by omega)
  have t4 : decide (p < 0) = false := by exact decide_eq_false (by omega)
  have t5 : decide (4294967295 < p) = false := by exact decide_eq_false (by omega)
  go_enter Try.func12, Try.ntmps12
  go_wp2_with fail
  refine (put21 (w.heap.size + 1) _ [2] id 2 _ (by omega) (by omega) (by omega) (by simp [be_len]) (OB_one _ _ (w.heap.size + 1) _ (by simp) (by omega)) (by simp)).mono ?_
  rintro en w2 ⟨v1, rfl, hO1, hb1⟩
  have hB1 : Below (w.heap.size + 1) (w.alloc (.cells #[.int .i64 2, .int .i64 id, .int .i64 e, .int .i64 p] 23)) w2 := ((Below.refl (w.heap.size + 1) (w.alloc (.cells #[.int .i64 2, .int .i64 id, .int .i64 e, .int .i64 p] 23))).alloc (by simp) _).trans hb1
  have hs1 : w.heap.size + 1 ≤ w2.heap.size := by have := hB1.size; simpa using this
  have x10 : w2.cell? ⟨w.heap.size, 0, none⟩ = some (.int .i64 2) := cells_of_box hB1 0 _ rfl
  have x11 : w2.cell? ⟨w.heap.size, 1, none⟩ = some (.int .i64 id) := cells_of_box hB1 1 _ rfl
  have x12 : w2.cell? ⟨w.heap.size, 2, none⟩ = some (.int .i64 e) := cells_of_box hB1 2 _ rfl
  have x13 : w2.cell? ⟨w.heap.size, 3, none⟩ = some (.int .i64 p) := cells_of_box hB1 3 _ rfl
  clear hb1
  go_wp2_with fail
  refine (put21 (w.heap.size + 1) _ ([2] ++ be id 2) e 4 _ (by omega) (by omega) (by omega) (by simp [be_len]) hO1 (by omega)).mono ?_
  rintro en w3 ⟨v2, rfl, hO2, hb2⟩
  have hB2 : Below (w.heap.size + 1) (w.alloc (.cells #[.int .i64 2, .int .i64 id, .int .i64 e, .int .i64 p] 23)) w3 := hB1.trans hb2
  have hs2 : w.heap.size + 1 ≤ w3.heap.size := by have := hB2.size; simpa using this
  have x20 : w3.cell? ⟨w.heap.size, 0, none⟩ = some (.int .i64 2) := cells_of_box hB2 0 _ rfl
  have x21 : w3.cell? ⟨w.heap.size, 1, none⟩ = some (.int .i64 id) := cells_of_box hB2 1 _ rfl
  have x22 : w3.cell? ⟨w.heap.size, 2, none⟩ = some (.int .i64 e) := cells_of_box hB2 2 _ rfl
  have x23 : w3.cell? ⟨w.heap.size, 3, none⟩ = some (.int .i64 p) := cells_of_box hB2 3 _ rfl
  clear hb2
  clear hO1 hB1 x10 x11 x12 x13
  go_wp2_with fail
  refine (put21 (w.heap.size + 1) _ ([2] ++ be id 2 ++ be e 4) p 4 _ (by omega) (by omega) (by omega) (by simp [be_len]) hO2 (by omega)).mono ?_
  rintro en w4 ⟨v3, rfl, hO3, hb3⟩
  have hB3 : Below (w.heap.size + 1) (w.alloc (.cells #[.int .i64 2, .int .i64 id, .int .i64 e, .int .i64 p] 23)) w4 := hB2.trans hb3
  have hs3 : w.heap.size + 1 ≤ w4.heap.size := by have := hB3.size; simpa using this
  have x30 : w4.cell? ⟨w.heap.size, 0, none⟩ = some (.int .i64 2) := cells_of_box hB3 0 _ rfl
  have x31 : w4.cell? ⟨w.heap.size, 1, none⟩ = some (.int .i64 id) := cells_of_box hB3 1 _ rfl
  have x32 : w4.cell? ⟨w.heap.size, 2, none⟩ = some (.int .i64 e) := cells_of_box hB3 2 _ rfl
  have x33 : w4.cell? ⟨w.heap.size, 3, none⟩ = some (.int .i64 p) := cells_of_box hB3 3 _ rfl
  clear hb3
  clear hO2 hB2 x20 x21 x22 x23
  go_wp2_with fail
  go_returns
  exact ⟨_, rfl, hO3.mono (by omega), (((Below.refl _ _).alloc (Nat.le_refl _) _).trans (hB3.mono (by omega)))⟩

set_option maxRecDepth 100000 in
set_option maxHeartbeats 1600000 in
theorem law_back_idlow (id e p : Int) (w : World) (r : id < 0) :
    Calls Try.prog 12 #[.agg #[.int .i64 7, .int .i64 id, .int .i64 e, .int .i64 p]] w (BytesPost [] (.bool false) w) := by
  have t0 : decide (id < 0) = true := by exact decide_eq_true (by omega)
  go_enter Try.func12, Try.ntmps12
  go_wp2_with fail
  go_returns
  exact ⟨_, rfl, OB_nil _ _, by go_grown⟩

set_option maxRecDepth 100000 in
set_option maxHeartbeats 1600000 in
theorem law_back_idhigh (id e p : Int) (w : World) (id0 : 0 ≤ id) (r : 65535 < id) :
    Calls Try.prog 12 #[.agg #[.int .i64 7, .int .i64 id, .int .i64 e, .int .i64 p]] w (BytesPost [] (.bool false) w) := by
  have t0 : decide (id < 0) = false := by exact decide_eq_false (by omega)
  have t1 : decide (65535 < id) = true := by exact decide_eq_true (by omega)
  go_enter Try.func12, Try.ntmps12
  go_wp2_with fail
  go_returns
  exact ⟨_, rfl, OB_nil _ _, by go_grown⟩

set_option maxRecDepth 100000 in
set_option maxHeartbeats 1600000 in
theorem law_back_elow (id e p : Int) (w : World) (id0 : 0 ≤ id) (id1 : id ≤ 65535) (r : e < 0) :
    Calls Try.prog 12 #[.agg #[.int .i64 7, .int .i64 id, .int .i64 e, .int .i64 p]] w (BytesPost [] (.bool false) w) := by
  have t0 : decide (id < 0) = false := by exact decide_eq_false (by omega)
  have t1 : decide (65535 < id) = false := by exact decide_eq_false (by omega)
  have t2 : decide (e < 0) = true := by exact decide_eq_true (by omega)
  go_enter Try.func12, Try.ntmps12
  go_wp2_with fail
  go_returns
  exact ⟨_, rfl, OB_nil _ _, by go_grown⟩

set_option maxRecDepth 100000 in
set_option maxHeartbeats 1600000 in
theorem law_back_ehigh (id e p : Int) (w : World) (id0 : 0 ≤ id) (id1 : id ≤ 65535) (e0 : 0 ≤ e) (r : 4294967295 < e) :
    Calls Try.prog 12 #[.agg #[.int .i64 7, .int .i64 id, .int .i64 e, .int .i64 p]] w (BytesPost [] (.bool false) w) := by
  have t0 : decide (id < 0) = false := by exact decide_eq_false (by omega)
  have t1 : decide (65535 < id) = false := by exact decide_eq_false (by omega)
  have t2 : decide (e < 0) = false := by exact decide_eq_false (by omega)
  have t3 : decide (4294967295 < e) = true := by exact decide_eq_true (by omega)
  go_enter Try.func12, Try.ntmps12
  go_wp2_with fail
  go_returns
  exact ⟨_, rfl, OB_nil _ _, by go_grown⟩

set_option maxRecDepth 100000 in
set_option maxHeartbeats 1600000 in
theorem law_back_plow (id e p : Int) (w : World) (id0 : 0 ≤ id) (id1 : id ≤ 65535) (e0 : 0 ≤ e) (e1 : e ≤ 4294967295) (r : p < 0) :
    Calls Try.prog 12 #[.agg #[.int .i64 7, .int .i64 id, .int .i64 e, .int .i64 p]] w (BytesPost [] (.bool false) w) := by
  have t0 : decide (id < 0) = false := by exact decide_eq_false (by omega)
  have t1 : decide (65535 < id) = false := by exact decide_eq_false (by omega)
  have t2 : decide (e < 0) = false := by exact decide_eq_false (by omega)
  have t3 : decide (4294967295 < e) = false := by exact decide_eq_false (by omega)
  have t4 : decide (p < 0) = true := by exact decide_eq_true (by omega)
  go_enter Try.func12, Try.ntmps12
  go_wp2_with fail
  go_returns
  exact ⟨_, rfl, OB_nil _ _, by go_grown⟩

set_option maxRecDepth 100000 in
set_option maxHeartbeats 1600000 in
theorem law_back_phigh (id e p : Int) (w : World) (id0 : 0 ≤ id) (id1 : id ≤ 65535) (e0 : 0 ≤ e) (e1 : e ≤ 4294967295) (p0 : 0 ≤ p) (r : 4294967295 < p) :
    Calls Try.prog 12 #[.agg #[.int .i64 7, .int .i64 id, .int .i64 e, .int .i64 p]] w (BytesPost [] (.bool false) w) := by
  have t0 : decide (id < 0) = false := by exact decide_eq_false (by omega)
  have t1 : decide (65535 < id) = false := by exact decide_eq_false (by omega)
  have t2 : decide (e < 0) = false := by exact decide_eq_false (by omega)
  have t3 : decide (4294967295 < e) = false := by exact decide_eq_false (by omega)
  have t4 : decide (p < 0) = false := by exact decide_eq_false (by omega)
  have t5 : decide (4294967295 < p) = true := by exact decide_eq_true (by omega)
  go_enter Try.func12, Try.ntmps12
  go_wp2_with fail
  go_returns
  exact ⟨_, rfl, OB_nil _ _, by go_grown⟩

set_option maxRecDepth 100000 in
set_option maxHeartbeats 1600000 in
theorem law_back_hasp (id e p : Int) (w : World) (id0 : 0 ≤ id) (id1 : id ≤ 65535) (e0 : 0 ≤ e) (e1 : e ≤ 4294967295) (p0 : 0 ≤ p) (p1 : p ≤ 4294967295) (r : ¬ p = 0) :
    Calls Try.prog 12 #[.agg #[.int .i64 7, .int .i64 id, .int .i64 e, .int .i64 p]] w (BytesPost [] (.bool false) w) := by
  have t0 : decide (id < 0) = false := by exact decide_eq_false (by omega)
  have t1 : decide (65535 < id) = false := by exact decide_eq_false (by omega)
  have t2 : decide (e < 0) = false := by exact decide_eq_false (by omega)
  have t3 : decide (4294967295 < e) = false := by exact decide_eq_false (by omega)
  have t4 : decide (p < 0) = false := by exact decide_eq_false (by omega)
  have t5 : decide (4294967295 < p) = false := by exact decide_eq_false (by omega)
  have t6 : (p != 0) = true := by simp; omega
  have t7 : (p == 0) = false := by simp; omega
  go_enter Try.func12, Try.ntmps12
  go_wp2_with fail
  go_returns
  exact ⟨_, rfl, OB_nil _ _, by go_grown⟩

set_option maxRecDepth 100000 in
set_option maxHeartbeats 1600000 in
theorem law_back_ok (id e p : Int) (w : World) (id0 : 0 ≤ id) (id1 : id ≤ 65535) (e0 : 0 ≤ e) (e1 : e ≤ 4294967295) (p0 : 0 ≤ p) (p1 : p ≤ 4294967295) (pz : Hid (p = 0))  :
    Calls Try.prog 12 #[.agg #[.int .i64 7, .int .i64 id, .int .i64 e, .int .i64 p]] w (BytesPost ([7] ++ be id 2 ++ be e 4) (.bool true) w) := by
  have t0 : decide (id < 0) = false := by exact decide_eq_false (by omega)
  have t1 : decide (65535 < id) = false := by exact decide_eq_false (by omega)
  have t2 : decide (e < 0) = false := by exact decide_eq_false (by omega)
  have t3 : decide (4294967295 < e) = false := by exact decide_eq_false (by omega)
  have t4 : decide (p < 0) = false := by exact decide_eq_false (by omega)
  have t5 : decide (4294967295 < p) = false := by exact decide_eq_false (by omega)
  have t6 : (p != 0) = false := by simp [pz.out]
  have t7 : (p == 0) = true := by simp [pz.out]
  go_enter Try.func12, Try.ntmps12
  go_wp2_with fail
  refine (put21 (w.heap.size + 1) _ [7] id 2 _ (by omega) (by omega) (by omega) (by simp [be_len]) (OB_one _ _ (w.heap.size + 1) _ (by simp) (by omega)) (by simp)).mono ?_
  rintro en w2 ⟨v1, rfl, hO1, hb1⟩
  have hB1 : Below (w.heap.size + 1) (w.alloc (.cells #[.int .i64 7, .int .i64 id, .int .i64 e, .int .i64 p] 23)) w2 := ((Below.refl (w.heap.size + 1) (w.alloc (.cells #[.int .i64 7, .int .i64 id, .int .i64 e, .int .i64 p] 23))).alloc (by simp) _).trans hb1
  have hs1 : w.heap.size + 1 ≤ w2.heap.size := by have := hB1.size; simpa using this
  have x10 : w2.cell? ⟨w.heap.size, 0, none⟩ = some (.int .i64 7) := cells_of_box hB1 0 _ rfl
  have x11 : w2.cell? ⟨w.heap.size, 1, none⟩ = some (.int .i64 id) := cells_of_box hB1 1 _ rfl
  have x12 : w2.cell? ⟨w.heap.size, 2, none⟩ = some (.int .i64 e) := cells_of_box hB1 2 _ rfl
  have x13 : w2.cell? ⟨w.heap.size, 3, none⟩ = some (.int .i64 p) := cells_of_box hB1 3 _ rfl
  clear hb1
  go_wp2_with fail
  refine (put21 (w.heap.size + 1) _ ([7] ++ be id 2) e 4 _ (by omega) (by omega) (by omega) (by simp [be_len]) hO1 (by omega)).mono ?_
  rintro en w3 ⟨v2, rfl, hO2, hb2⟩
  have hB2 : Below (w.heap.size + 1) (w.alloc (.cells #[.int .i64 7, .int .i64 id, .int .i64 e, .int .i64 p] 23)) w3 := hB1.trans hb2
  have hs2 : w.heap.size + 1 ≤ w3.heap.size := by have := hB2.size; simpa using this
  have x20 : w3.cell? ⟨w.heap.size, 0, none⟩ = some (.int .i64 7) := cells_of_box hB2 0 _ rfl
  have x21 : w3.cell? ⟨w.heap.size, 1, none⟩ = some (.int .i64 id) := cells_of_box hB2 1 _ rfl
  have x22 : w3.cell? ⟨w.heap.size, 2, none⟩ = some (.int .i64 e) := cells_of_box hB2 2 _ rfl
  have x23 : w3.cell? ⟨w.heap.size, 3, none⟩ = some (.int .i64 p) := cells_of_box hB2 3 _ rfl
  clear hb2
  clear hO1 hB1 x10 x11 x12 x13
  go_wp2_with fail
  go_returns
  exact ⟨_, rfl, hO2.mono (by omega), (((Below.refl _ _).alloc (Nat.le_refl _) _).trans (hB2.mono (by omega)))⟩

set_option maxRecDepth 100000 in
set_option maxHeartbeats 1600000 in
theorem law_some_idlow (op id e p : Int) (w : World) (h : 3 ≤ op ∧ op ≤ 6) (r : id < 0) :
    Calls Try.prog 12 #[.agg #[.int .i64 op, .int .i64 id, .int .i64 e, .int .i64 p]] w (BytesPost [] (.bool false) w) := by
  have t0 : decide (op < 1) = false := by exact decide_eq_false (by omega)
  have t1 : decide (8 < op) = false := by exact decide_eq_false (by omega)
  have t2 : (op == 1) = false := by simp; omega
  have t3 : (op == 2) = false := by simp; omega
  have t4 : (op == 7) = false := by simp; omega
  have t5 : (op == 8) = false := by simp; omega
  have t6 : (op != 8) = true := by simp; omega
  have t7 : decide (id < 0) = true := by exact decide_eq_true (by omega)
  go_enter Try.func12, Try.ntmps12
  go_wp2_with fail
  go_returns
  exact ⟨_, rfl, OB_nil _ _, by go_grown⟩

set_option maxRecDepth 100000 in
set_option maxHeartbeats 1600000 in
theorem law_some_idhigh (op id e p : Int) (w : World) (h : 3 ≤ op ∧ op ≤ 6) (id0 : 0 ≤ id) (r : 65535 < id) :
    Calls Try.prog 12 #[.agg #[.int .i64 op, .int .i64 id, .int .i64 e, .int .i64 p]] w (BytesPost [] (.bool false) w) := by
  have t0 : decide (op < 1) = false := by exact decide_eq_false (by omega)
  have t1 : decide (8 < op) = false := by exact decide_eq_false (by omega)
  have t2 : (op == 1) = false := by simp; omega
  have t3 : (op == 2) = false := by simp; omega
  have t4 : (op == 7) = false := by simp; omega
  have t5 : (op == 8) = false := by simp; omega
  have t6 : (op != 8) = true := by simp; omega
  have t7 : decide (id < 0) = false := by exact decide_eq_false (by omega)
  have t8 : decide (65535 < id) = true := by exact decide_eq_true (by omega)
  go_enter Try.func12, Try.ntmps12
  go_wp2_with fail
  go_returns
  exact ⟨_, rfl, OB_nil _ _, by go_grown⟩

set_option maxRecDepth 100000 in
set_option maxHeartbeats 1600000 in
theorem law_some_elow (op id e p : Int) (w : World) (h : 3 ≤ op ∧ op ≤ 6) (id0 : 0 ≤ id) (id1 : id ≤ 65535) (r : e < 0) :
    Calls Try.prog 12 #[.agg #[.int .i64 op, .int .i64 id, .int .i64 e, .int .i64 p]] w (BytesPost [] (.bool false) w) := by
  have t0 : decide (op < 1) = false := by exact decide_eq_false (by omega)
  have t1 : decide (8 < op) = false := by exact decide_eq_false (by omega)
  have t2 : (op == 1) = false := by simp; omega
  have t3 : (op == 2) = false := by simp; omega
  have t4 : (op == 7) = false := by simp; omega
  have t5 : (op == 8) = false := by simp; omega
  have t6 : (op != 8) = true := by simp; omega
  have t7 : decide (id < 0) = false := by exact decide_eq_false (by omega)
  have t8 : decide (65535 < id) = false := by exact decide_eq_false (by omega)
  have t9 : decide (e < 0) = true := by exact decide_eq_true (by omega)
  go_enter Try.func12, Try.ntmps12
  go_wp2_with fail
  go_returns
  exact ⟨_, rfl, OB_nil _ _, by go_grown⟩

set_option maxRecDepth 100000 in
set_option maxHeartbeats 1600000 in
theorem law_some_ehigh (op id e p : Int) (w : World) (h : 3 ≤ op ∧ op ≤ 6) (id0 : 0 ≤ id) (id1 : id ≤ 65535) (e0 : 0 ≤ e) (r : 4294967295 < e) :
    Calls Try.prog 12 #[.agg #[.int .i64 op, .int .i64 id, .int .i64 e, .int .i64 p]] w (BytesPost [] (.bool false) w) := by
  have t0 : decide (op < 1) = false := by exact decide_eq_false (by omega)
  have t1 : decide (8 < op) = false := by exact decide_eq_false (by omega)
  have t2 : (op == 1) = false := by simp; omega
  have t3 : (op == 2) = false := by simp; omega
  have t4 : (op == 7) = false := by simp; omega
  have t5 : (op == 8) = false := by simp; omega
  have t6 : (op != 8) = true := by simp; omega
  have t7 : decide (id < 0) = false := by exact decide_eq_false (by omega)
  have t8 : decide (65535 < id) = false := by exact decide_eq_false (by omega)
  have t9 : decide (e < 0) = false := by exact decide_eq_false (by omega)
  have t10 : decide (4294967295 < e) = true := by exact decide_eq_true (by omega)
  go_enter Try.func12, Try.ntmps12
  go_wp2_with fail
  go_returns
  exact ⟨_, rfl, OB_nil _ _, by go_grown⟩

set_option maxRecDepth 100000 in
set_option maxHeartbeats 1600000 in
theorem law_some_plow (op id e p : Int) (w : World) (h : 3 ≤ op ∧ op ≤ 6) (id0 : 0 ≤ id) (id1 : id ≤ 65535) (e0 : 0 ≤ e) (e1 : e ≤ 4294967295) (r : p < 0) :
    Calls Try.prog 12 #[.agg #[.int .i64 op, .int .i64 id, .int .i64 e, .int .i64 p]] w (BytesPost [] (.bool false) w) := by
  have t0 : decide (op < 1) = false := by exact decide_eq_false (by omega)
  have t1 : decide (8 < op) = false := by exact decide_eq_false (by omega)
  have t2 : (op == 1) = false := by simp; omega
  have t3 : (op == 2) = false := by simp; omega
  have t4 : (op == 7) = false := by simp; omega
  have t5 : (op == 8) = false := by simp; omega
  have t6 : (op != 8) = true := by simp; omega
  have t7 : decide (id < 0) = false := by exact decide_eq_false (by omega)
  have t8 : decide (65535 < id) = false := by exact decide_eq_false (by omega)
  have t9 : decide (e < 0) = false := by exact decide_eq_false (by omega)
  have t10 : decide (4294967295 < e) = false := by exact decide_eq_false (by omega)
  have t11 : decide (p < 0) = true := by exact decide_eq_true (by omega)
  go_enter Try.func12, Try.ntmps12
  go_wp2_with fail
  go_returns
  exact ⟨_, rfl, OB_nil _ _, by go_grown⟩

set_option maxRecDepth 100000 in
set_option maxHeartbeats 1600000 in
theorem law_some_phigh (op id e p : Int) (w : World) (h : 3 ≤ op ∧ op ≤ 6) (id0 : 0 ≤ id) (id1 : id ≤ 65535) (e0 : 0 ≤ e) (e1 : e ≤ 4294967295) (p0 : 0 ≤ p) (r : 4294967295 < p) :
    Calls Try.prog 12 #[.agg #[.int .i64 op, .int .i64 id, .int .i64 e, .int .i64 p]] w (BytesPost [] (.bool false) w) := by
  have t0 : decide (op < 1) = false := by exact decide_eq_false (by omega)
  have t1 : decide (8 < op) = false := by exact decide_eq_false (by omega)
  have t2 : (op == 1) = false := by simp; omega
  have t3 : (op == 2) = false := by simp; omega
  have t4 : (op == 7) = false := by simp; omega
  have t5 : (op == 8) = false := by simp; omega
  have t6 : (op != 8) = true := by simp; omega
  have t7 : decide (id < 0) = false := by exact decide_eq_false (by omega)
  have t8 : decide (65535 < id) = false := by exact decide_eq_false (by omega)
  have t9 : decide (e < 0) = false := by exact decide_eq_false (by omega)
  have t10 : decide (4294967295 < e) = false := by exact decide_eq_false (by omega)
  have t11 : decide (p < 0) = false := by exact decide_eq_false (by omega)
  have t12 : decide (4294967295 < p) = true := by exact decide_eq_true (by omega)
  go_enter Try.func12, Try.ntmps12
  go_wp2_with fail
  go_returns
  exact ⟨_, rfl, OB_nil _ _, by go_grown⟩

set_option maxRecDepth 100000 in
set_option maxHeartbeats 1600000 in
theorem law_some_hasp (op id e p : Int) (w : World) (h : 3 ≤ op ∧ op ≤ 6) (id0 : 0 ≤ id) (id1 : id ≤ 65535) (e0 : 0 ≤ e) (e1 : e ≤ 4294967295) (p0 : 0 ≤ p) (p1 : p ≤ 4294967295) (r : ¬ p = 0) :
    Calls Try.prog 12 #[.agg #[.int .i64 op, .int .i64 id, .int .i64 e, .int .i64 p]] w (BytesPost [] (.bool false) w) := by
  have t0 : decide (op < 1) = false := by exact decide_eq_false (by omega)
  have t1 : decide (8 < op) = false := by exact decide_eq_false (by omega)
  have t2 : (op == 1) = false := by simp; omega
  have t3 : (op == 2) = false := by simp; omega
  have t4 : (op == 7) = false := by simp; omega
  have t5 : (op == 8) = false := by simp; omega
  have t6 : (op != 8) = true := by simp; omega
  have t7 : decide (id < 0) = false := by exact decide_eq_false (by omega)
  have t8 : decide (65535 < id) = false := by exact decide_eq_false (by omega)
  have t9 : decide (e < 0) = false := by exact decide_eq_false (by omega)
  have t10 : decide (4294967295 < e) = false := by exact decide_eq_false (by omega)
  have t11 : decide (p < 0) = false := by exact decide_eq_false (by omega)
  have t12 : decide (4294967295 < p) = false := by exact decide_eq_false (by omega)
  have t13 : (p != 0) = true := by simp; omega
  have t14 : (p == 0) = false := by simp; omega
  go_enter Try.func12, Try.ntmps12
  go_wp2_with fail
  go_returns
  exact ⟨_, rfl, OB_nil _ _, by go_grown⟩

set_option maxRecDepth 100000 in
set_option maxHeartbeats 1600000 in
theorem law_some_hase (op id e p : Int) (w : World) (h : 3 ≤ op ∧ op ≤ 6) (id0 : 0 ≤ id) (id1 : id ≤ 65535) (e0 : 0 ≤ e) (e1 : e ≤ 4294967295) (p0 : 0 ≤ p) (p1 : p ≤ 4294967295) (pz : Hid (p = 0)) (r : ¬ e = 0) :
    Calls Try.prog 12 #[.agg #[.int .i64 op, .int .i64 id, .int .i64 e, .int .i64 p]] w (BytesPost [] (.bool false) w) := by
  have t0 : decide (op < 1) = false := by exact decide_eq_false (by omega)
  have t1 : decide (8 < op) = false := by exact decide_eq_false (by omega)
  have t2 : (op == 1) = false := by simp; omega
  have t3 : (op == 2) = false := by simp; omega
  have t4 : (op == 7) = false := by simp; omega
  have t5 : (op == 8) = false := by simp; omega
  have t6 : (op != 8) = true := by simp; omega
  have t7 : decide (id < 0) = false := by exact decide_eq_false (by omega)
  have t8 : decide (65535 < id) = false := by exact decide_eq_false (by omega)
  have t9 : decide (e < 0) = false := by exact decide_eq_false (by omega)
  have t10 : decide (4294967295 < e) = false := by exact decide_eq_false (by omega)
  have t11 : decide (p < 0) = false := by exact decide_eq_false (by omega)
  have t12 : decide (4294967295 < p) = false := by exact decide_eq_false (by omega)
  have t13 : (p != 0) = false := by simp [pz.out]
  have t14 : (p == 0) = true := by simp [pz.out]
  have t15 : (e != 0) = true := by simp; omega
  have t16 : (e == 0) = false := by simp; omega
  go_enter Try.func12, Try.ntmps12
  go_wp2_with fail
  go_returns
  exact ⟨_, rfl, OB_nil _ _, by go_grown⟩

set_option maxRecDepth 100000 in
set_option maxHeartbeats 1600000 in
theorem law_some_ok (op id e p : Int) (w : World) (h : 3 ≤ op ∧ op ≤ 6) (id0 : 0 ≤ id) (id1 : id ≤ 65535) (e0 : 0 ≤ e) (e1 : e ≤ 4294967295) (p0 : 0 ≤ p) (p1 : p ≤ 4294967295) (pz : Hid (p = 0)) (ez : Hid (e = 0))  :
    Calls Try.prog 12 #[.agg #[.int .i64 op, .int .i64 id, .int .i64 e, .int .i64 p]] w (BytesPost ([op] ++ be id 2) (.bool true) w) := by
  have t0 : decide (op < 1) = false := by exact decide_eq_false (by omega)
  have t1 : decide (8 < op) = false := by exact decide_eq_false (by omega)
  have t2 : (op == 1) = false := by simp; omega
  have t3 : (op == 2) = false := by simp; omega
  have t4 : (op == 7) = false := by simp; omega
  have t5 : (op == 8) = false := by simp; omega
  have t6 : (op != 8) = true := by simp; omega
  have t7 : decide (id < 0) = false := by exact decide_eq_false (by omega)
  have t8 : decide (65535 < id) = false := by exact decide_eq_false (by omega)
  have t9 : decide (e < 0) = false := by exact decide_eq_false (by omega)
  have t10 : decide (4294967295 < e) = false := by exact decide_eq_false (by omega)
  have t11 : decide (p < 0) = false := by exact decide_eq_false (by omega)
  have t12 : decide (4294967295 < p) = false := by exact decide_eq_false (by omega)
  have t13 : (p != 0) = false := by simp [pz.out]
  have t14 : (p == 0) = true := by simp [pz.out]
  have t15 : (e != 0) = false := by simp [ez.out]
  have t16 : (e == 0) = true := by simp [ez.out]
  go_enter Try.func12, Try.ntmps12
  go_wp2_with fail
  refine (put21 (w.heap.size + 1) _ [op] id 2 _ (by omega) (by omega) (by omega) (by simp [be_len]) (OB_one _ _ (w.heap.size + 1) _ (by simp) (by omega)) (by simp)).mono ?_
  rintro en w2 ⟨v1, rfl, hO1, hb1⟩
  have hB1 : Below (w.heap.size + 1) (w.alloc (.cells #[.int .i64 op, .int .i64 id, .int .i64 e, .int .i64 p] 23)) w2 := ((Below.refl (w.heap.size + 1) (w.alloc (.cells #[.int .i64 op, .int .i64 id, .int .i64 e, .int .i64 p] 23))).alloc (by simp) _).trans hb1
  have hs1 : w.heap.size + 1 ≤ w2.heap.size := by have := hB1.size; simpa using this
  have x10 : w2.cell? ⟨w.heap.size, 0, none⟩ = some (.int .i64 op) := cells_of_box hB1 0 _ rfl
  have x11 : w2.cell? ⟨w.heap.size, 1, none⟩ = some (.int .i64 id) := cells_of_box hB1 1 _ rfl
  have x12 : w2.cell? ⟨w.heap.size, 2, none⟩ = some (.int .i64 e) := cells_of_box hB1 2 _ rfl
  have x13 : w2.cell? ⟨w.heap.size, 3, none⟩ = some (.int .i64 p) := cells_of_box hB1 3 _ rfl
  clear hb1
  go_wp2_with fail
  go_returns
  exact ⟨_, rfl, hO1.mono (by omega), (((Below.refl _ _).alloc (Nat.le_refl _) _).trans (hB1.mono (by omega)))⟩

set_option maxRecDepth 100000 in
set_option maxHeartbeats 1600000 in
theorem law_tick_idlow (id e p : Int) (w : World) (r : id < 0) :
    Calls Try.prog 12 #[.agg #[.int .i64 8, .int .i64 id, .int .i64 e, .int .i64 p]] w (BytesPost [] (.bool false) w) := by
  have t0 : decide (id < 0) = true := by exact decide_eq_true (by omega)
  go_enter Try.func12, Try.ntmps12
  go_wp2_with fail
  go_returns
  exact ⟨_, rfl, OB_nil _ _, by go_grown⟩

set_option maxRecDepth 100000 in
set_option maxHeartbeats 1600000 in
theorem law_tick_idhigh (id e p : Int) (w : World) (id0 : 0 ≤ id) (r : 65535 < id) :
    Calls Try.prog 12 #[.agg #[.int .i64 8, .int .i64 id, .int .i64 e, .int .i64 p]] w (BytesPost [] (.bool false) w) := by
  have t0 : decide (id < 0) = false := by exact decide_eq_false (by omega)
  have t1 : decide (65535 < id) = true := by exact decide_eq_true (by omega)
  go_enter Try.func12, Try.ntmps12
  go_wp2_with fail
  go_returns
  exact ⟨_, rfl, OB_nil _ _, by go_grown⟩

set_option maxRecDepth 100000 in
set_option maxHeartbeats 1600000 in
theorem law_tick_elow (id e p : Int) (w : World) (id0 : 0 ≤ id) (id1 : id ≤ 65535) (r : e < 0) :
    Calls Try.prog 12 #[.agg #[.int .i64 8, .int .i64 id, .int .i64 e, .int .i64 p]] w (BytesPost [] (.bool false) w) := by
  have t0 : decide (id < 0) = false := by exact decide_eq_false (by omega)
  have t1 : decide (65535 < id) = false := by exact decide_eq_false (by omega)
  have t2 : decide (e < 0) = true := by exact decide_eq_true (by omega)
  go_enter Try.func12, Try.ntmps12
  go_wp2_with fail
  go_returns
  exact ⟨_, rfl, OB_nil _ _, by go_grown⟩

set_option maxRecDepth 100000 in
set_option maxHeartbeats 1600000 in
theorem law_tick_ehigh (id e p : Int) (w : World) (id0 : 0 ≤ id) (id1 : id ≤ 65535) (e0 : 0 ≤ e) (r : 4294967295 < e) :
    Calls Try.prog 12 #[.agg #[.int .i64 8, .int .i64 id, .int .i64 e, .int .i64 p]] w (BytesPost [] (.bool false) w) := by
  have t0 : decide (id < 0) = false := by exact decide_eq_false (by omega)
  have t1 : decide (65535 < id) = false := by exact decide_eq_false (by omega)
  have t2 : decide (e < 0) = false := by exact decide_eq_false (by omega)
  have t3 : decide (4294967295 < e) = true := by exact decide_eq_true (by omega)
  go_enter Try.func12, Try.ntmps12
  go_wp2_with fail
  go_returns
  exact ⟨_, rfl, OB_nil _ _, by go_grown⟩

set_option maxRecDepth 100000 in
set_option maxHeartbeats 1600000 in
theorem law_tick_plow (id e p : Int) (w : World) (id0 : 0 ≤ id) (id1 : id ≤ 65535) (e0 : 0 ≤ e) (e1 : e ≤ 4294967295) (r : p < 0) :
    Calls Try.prog 12 #[.agg #[.int .i64 8, .int .i64 id, .int .i64 e, .int .i64 p]] w (BytesPost [] (.bool false) w) := by
  have t0 : decide (id < 0) = false := by exact decide_eq_false (by omega)
  have t1 : decide (65535 < id) = false := by exact decide_eq_false (by omega)
  have t2 : decide (e < 0) = false := by exact decide_eq_false (by omega)
  have t3 : decide (4294967295 < e) = false := by exact decide_eq_false (by omega)
  have t4 : decide (p < 0) = true := by exact decide_eq_true (by omega)
  go_enter Try.func12, Try.ntmps12
  go_wp2_with fail
  go_returns
  exact ⟨_, rfl, OB_nil _ _, by go_grown⟩

set_option maxRecDepth 100000 in
set_option maxHeartbeats 1600000 in
theorem law_tick_phigh (id e p : Int) (w : World) (id0 : 0 ≤ id) (id1 : id ≤ 65535) (e0 : 0 ≤ e) (e1 : e ≤ 4294967295) (p0 : 0 ≤ p) (r : 4294967295 < p) :
    Calls Try.prog 12 #[.agg #[.int .i64 8, .int .i64 id, .int .i64 e, .int .i64 p]] w (BytesPost [] (.bool false) w) := by
  have t0 : decide (id < 0) = false := by exact decide_eq_false (by omega)
  have t1 : decide (65535 < id) = false := by exact decide_eq_false (by omega)
  have t2 : decide (e < 0) = false := by exact decide_eq_false (by omega)
  have t3 : decide (4294967295 < e) = false := by exact decide_eq_false (by omega)
  have t4 : decide (p < 0) = false := by exact decide_eq_false (by omega)
  have t5 : decide (4294967295 < p) = true := by exact decide_eq_true (by omega)
  go_enter Try.func12, Try.ntmps12
  go_wp2_with fail
  go_returns
  exact ⟨_, rfl, OB_nil _ _, by go_grown⟩

set_option maxRecDepth 100000 in
set_option maxHeartbeats 1600000 in
theorem law_tick_hasid (id e p : Int) (w : World) (id0 : 0 ≤ id) (id1 : id ≤ 65535) (e0 : 0 ≤ e) (e1 : e ≤ 4294967295) (p0 : 0 ≤ p) (p1 : p ≤ 4294967295) (r : ¬ id = 0) :
    Calls Try.prog 12 #[.agg #[.int .i64 8, .int .i64 id, .int .i64 e, .int .i64 p]] w (BytesPost [] (.bool false) w) := by
  have t0 : decide (id < 0) = false := by exact decide_eq_false (by omega)
  have t1 : decide (65535 < id) = false := by exact decide_eq_false (by omega)
  have t2 : decide (e < 0) = false := by exact decide_eq_false (by omega)
  have t3 : decide (4294967295 < e) = false := by exact decide_eq_false (by omega)
  have t4 : decide (p < 0) = false := by exact decide_eq_false (by omega)
  have t5 : decide (4294967295 < p) = false := by exact decide_eq_false (by omega)
  have t6 : (id != 0) = true := by simp; omega
  have t7 : (id == 0) = false := by simp; omega
  go_enter Try.func12, Try.ntmps12
  go_wp2_with fail
  go_returns
  exact ⟨_, rfl, OB_nil _ _, by go_grown⟩

set_option maxRecDepth 100000 in
set_option maxHeartbeats 1600000 in
theorem law_tick_hasp (id e p : Int) (w : World) (id0 : 0 ≤ id) (id1 : id ≤ 65535) (e0 : 0 ≤ e) (e1 : e ≤ 4294967295) (p0 : 0 ≤ p) (p1 : p ≤ 4294967295) (idz : Hid (id = 0)) (r : ¬ p = 0) :
    Calls Try.prog 12 #[.agg #[.int .i64 8, .int .i64 id, .int .i64 e, .int .i64 p]] w (BytesPost [] (.bool false) w) := by
  have t0 : decide (id < 0) = false := by exact decide_eq_false (by omega)
  have t1 : decide (65535 < id) = false := by exact decide_eq_false (by omega)
  have t2 : decide (e < 0) = false := by exact decide_eq_false (by omega)
  have t3 : decide (4294967295 < e) = false := by exact decide_eq_false (by omega)
  have t4 : decide (p < 0) = false := by exact decide_eq_false (by omega)
  have t5 : decide (4294967295 < p) = false := by exact decide_eq_false (by omega)
  have t6 : (id != 0) = false := by simp [idz.out]
  have t7 : (id == 0) = true := by simp [idz.out]
  have t8 : (p != 0) = true := by simp; omega
  have t9 : (p == 0) = false := by simp; omega
  go_enter Try.func12, Try.ntmps12
  go_wp2_with fail
  go_returns
  exact ⟨_, rfl, OB_nil _ _, by go_grown⟩

set_option maxRecDepth 100000 in
set_option maxHeartbeats 1600000 in
theorem law_tick_hase (id e p : Int) (w : World) (id0 : 0 ≤ id) (id1 : id ≤ 65535) (e0 : 0 ≤ e) (e1 : e ≤ 4294967295) (p0 : 0 ≤ p) (p1 : p ≤ 4294967295) (idz : Hid (id = 0)) (pz : Hid (p = 0)) (r : ¬ e = 0) :
    Calls Try.prog 12 #[.agg #[.int .i64 8, .int .i64 id, .int .i64 e, .int .i64 p]] w (BytesPost [] (.bool false) w) := by
  have t0 : decide (id < 0) = false := by exact decide_eq_false (by omega)
  have t1 : decide (65535 < id) = false := by exact decide_eq_false (by omega)
  have t2 : decide (e < 0) = false := by exact decide_eq_false (by omega)
  have t3 : decide (4294967295 < e) = false := by exact decide_eq_false (by omega)
  have t4 : decide (p < 0) = false := by exact decide_eq_false (by omega)
  have t5 : decide (4294967295 < p) = false := by exact decide_eq_false (by omega)
  have t6 : (id != 0) = false := by simp [idz.out]
  have t7 : (id == 0) = true := by simp [idz.out]
  have t8 : (p != 0) = false := by simp [pz.out]
  have t9 : (p == 0) = true := by simp [pz.out]
  have t10 : (e != 0) = true := by simp; omega
  have t11 : (e == 0) = false := by simp; omega
  go_enter Try.func12, Try.ntmps12
  go_wp2_with fail
  go_returns
  exact ⟨_, rfl, OB_nil _ _, by go_grown⟩

set_option maxRecDepth 100000 in
set_option maxHeartbeats 1600000 in
theorem law_tick_ok (id e p : Int) (w : World) (id0 : 0 ≤ id) (id1 : id ≤ 65535) (e0 : 0 ≤ e) (e1 : e ≤ 4294967295) (p0 : 0 ≤ p) (p1 : p ≤ 4294967295) (idz : Hid (id = 0)) (pz : Hid (p = 0)) (ez : Hid (e = 0))  :
    Calls Try.prog 12 #[.agg #[.int .i64 8, .int .i64 id, .int .i64 e, .int .i64 p]] w (BytesPost ([8]) (.bool true) w) := by
  have t0 : decide (id < 0) = false := by exact decide_eq_false (by omega)
  have t1 : decide (65535 < id) = false := by exact decide_eq_false (by omega)
  have t2 : decide (e < 0) = false := by exact decide_eq_false (by omega)
  have t3 : decide (4294967295 < e) = false := by exact decide_eq_false (by omega)
  have t4 : decide (p < 0) = false := by exact decide_eq_false (by omega)
  have t5 : decide (4294967295 < p) = false := by exact decide_eq_false (by omega)
  have t6 : (id != 0) = false := by simp [idz.out]
  have t7 : (id == 0) = true := by simp [idz.out]
  have t8 : (p != 0) = false := by simp [pz.out]
  have t9 : (p == 0) = true := by simp [pz.out]
  have t10 : (e != 0) = false := by simp [ez.out]
  have t11 : (e == 0) = true := by simp [ez.out]
  go_enter Try.func12, Try.ntmps12
  go_wp2_with fail
  go_returns
  exact ⟨_, rfl, OB_one _ w.heap.size (w.heap.size + 1) _ (by simp) (by omega), by go_grown⟩
end Go.Proofs.Ytbanlnacoidccaa
