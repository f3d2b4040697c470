/- A command's bytes: the program's and the law's. -/
import Derived.Test.YtbanlnacoidccaaW5
namespace Go.Proofs.Ytbanlnacoidccaa
open Go.RowKit
set_option linter.unusedSimpArgs false
set_option linter.unusedVariables false

theorem fits_lit (n most : Int) (has r : Bool) (w : World) (h : okF n most has = r) :
    Calls Try.prog 19 #[.int .i64 n, .int .i64 most, .bool has] w fun e w' => e = .returned (.bool r) ∧ w = w' := by
  subst h
  exact fits_any n most has w

/-- A command's bytes. -/
def enc (op id e p : Int) : List Int := [op] ++ (if hasID op then be id 2 else []) ++ (if hasE op then be e 4 else []) ++ (if hasP op then be p 4 else [])

/-- May a command be. -/
def valid (op id e p : Int) : Bool := isOp op && okF id 65535 (hasID op) && okF e 4294967295 (hasE op) && okF p 4294967295 (hasP op)

/-- What a call hands back that made bytes, and something beside. -/
def BytesPost (ys : List Int) (x : Value) (w : World) (en : Ending) (w' : World) : Prop :=
  ∃ v, en = .returned (.tuple #[v, x]) ∧ OB w' w.heap.size v ys ∧ Below w.heap.size w w'

theorem OB_nil (w : World) (base : Nat) : OB w base (.slice none 0 0) [] := ⟨rfl, Or.inl ⟨rfl, rfl⟩⟩

theorem OB_one (w : World) (base n : Nat) (x : Int) (hn : w.heap.size = n) (h : base ≤ n) : OB (w.alloc (.cells #[.int .u8 x] 5)) base (.slice (some ⟨n, 0, none⟩) 1 1) [x] := by
  subst hn
  exact ⟨rfl, Or.inr ⟨w.heap.size, 1, #[.int .u8 x], rfl, h, (MapKept.heap_alloc w _).1, by simp, by decide, rfl, rfl⟩⟩

theorem OB.mono {w : World} {base base' : Nat} {v : Value} {xs : List Int} (h : OB w base v xs) (hb : base' ≤ base) : OB w base' v xs := by
  obtain ⟨h1, h2⟩ := h
  refine ⟨h1, ?_⟩
  rcases h2 with h2 | ⟨g, cap, cur, hv, hg, r⟩
  · exact Or.inl h2
  · exact Or.inr ⟨g, cap, cur, hv, by omega, r⟩

theorem OB.below {w w' : World} {base : Nat} {v : Value} {xs : List Int} (h : OB w base v xs) (hb : Below w.heap.size w w') : OB w' base v xs := by
  obtain ⟨h1, h2⟩ := h
  refine ⟨h1, ?_⟩
  rcases h2 with h2 | ⟨g, cap, cur, hv, hg, hh, r⟩
  · exact Or.inl h2
  · exact Or.inr ⟨g, cap, cur, hv, hg, by rw [hb.block g (lt_of_block hh)]; exact hh, r⟩

theorem cells_of_box {w w' : World} {vs : Array Value} {t : TypeId} (hb : Below (w.heap.size + 1) (w.alloc (.cells vs t)) w') (j : Nat) (v : Value) (h : vs[j]? = some v) : w'.cell? ⟨w.heap.size, j, none⟩ = some v := by
  rw [hb.cell (p := ⟨w.heap.size, j, none⟩) (by simp), cell_alloc_new, h]


set_option maxRecDepth 100000 in
set_option maxHeartbeats 1600000 in
theorem bytes_noop (op id e p : Int) (w : World) (f1 f2 f3 : Bool) (h1 : Hid (hasID op = f1)) (h2 : Hid (hasE op = f2)) (h3 : Hid (hasP op = f3)) (h4 : Hid (isOp op = false)) :
    Calls Try.prog 11 #[.agg #[.int .i64 op, .int .i64 id, .int .i64 e, .int .i64 p]] w (BytesPost [] (.int .i64 2) w) := by
  go_enter Try.func11, Try.ntmps11
  go_wp2_with fail
  refine (fields_lit _ f1 f2 f3 false _ h1.out h2.out h3.out h4.out).mono ?_
  rintro en w1 ⟨rfl, rfl⟩
  go_wp2_with fail
  go_returns
  exact ⟨_, rfl, OB_nil _ _, by go_grown⟩

set_option maxRecDepth 100000 in
set_option maxHeartbeats 1600000 in
theorem bytes_noid (op id e p : Int) (w : World) (f1 f2 f3 : Bool) (h1 : Hid (hasID op = f1)) (h2 : Hid (hasE op = f2)) (h3 : Hid (hasP op = f3)) (h4 : Hid (isOp op = true)) (g1 : Hid (okF id 65535 f1 = false)) :
    Calls Try.prog 11 #[.agg #[.int .i64 op, .int .i64 id, .int .i64 e, .int .i64 p]] w (BytesPost [] (.int .i64 2) w) := by
  go_enter Try.func11, Try.ntmps11
  go_wp2_with fail
  refine (fields_lit _ f1 f2 f3 true _ h1.out h2.out h3.out h4.out).mono ?_
  rintro en w1 ⟨rfl, rfl⟩
  go_wp2_with fail
  refine (fits_lit _ _ _ false _ g1.out).mono ?_
  rintro en w1 ⟨rfl, rfl⟩
  go_wp2_with fail
  go_returns
  exact ⟨_, rfl, OB_nil _ _, by go_grown⟩

set_option maxRecDepth 100000 in
set_option maxHeartbeats 1600000 in
theorem bytes_noe (op id e p : Int) (w : World) (f1 f2 f3 : Bool) (h1 : Hid (hasID op = f1)) (h2 : Hid (hasE op = f2)) (h3 : Hid (hasP op = f3)) (h4 : Hid (isOp op = true)) (g1 : Hid (okF id 65535 f1 = true)) (g2 : Hid (okF e 4294967295 f2 = false)) :
    Calls Try.prog 11 #[.agg #[.int .i64 op, .int .i64 id, .int .i64 e, .int .i64 p]] w (BytesPost [] (.int .i64 2) w) := by
  go_enter Try.func11, Try.ntmps11
  go_wp2_with fail
  refine (fields_lit _ f1 f2 f3 true _ h1.out h2.out h3.out h4.out).mono ?_
  rintro en w1 ⟨rfl, rfl⟩
  go_wp2_with fail
  refine (fits_lit _ _ _ true _ g1.out).mono ?_
  rintro en w1 ⟨rfl, rfl⟩
  go_wp2_with fail
  refine (fits_lit _ _ _ false _ g2.out).mono ?_
  rintro en w1 ⟨rfl, rfl⟩
  go_wp2_with fail
  go_returns
  exact ⟨_, rfl, OB_nil _ _, by go_grown⟩

set_option maxRecDepth 100000 in
set_option maxHeartbeats 1600000 in
theorem bytes_nop (op id e p : Int) (w : World) (f1 f2 f3 : Bool) (h1 : Hid (hasID op = f1)) (h2 : Hid (hasE op = f2)) (h3 : Hid (hasP op = f3)) (h4 : Hid (isOp op = true)) (g1 : Hid (okF id 65535 f1 = true)) (g2 : Hid (okF e 4294967295 f2 = true)) (g3 : Hid (okF p 4294967295 f3 = false)) :
    Calls Try.prog 11 #[.agg #[.int .i64 op, .int .i64 id, .int .i64 e, .int .i64 p]] w (BytesPost [] (.int .i64 2) w) := by
  go_enter Try.func11, Try.ntmps11
  go_wp2_with fail
  refine (fields_lit _ f1 f2 f3 true _ h1.out h2.out h3.out h4.out).mono ?_
  rintro en w1 ⟨rfl, rfl⟩
  go_wp2_with fail
  refine (fits_lit _ _ _ true _ g1.out).mono ?_
  rintro en w1 ⟨rfl, rfl⟩
  go_wp2_with fail
  refine (fits_lit _ _ _ true _ g2.out).mono ?_
  rintro en w1 ⟨rfl, rfl⟩
  go_wp2_with fail
  refine (fits_lit _ _ _ false _ g3.out).mono ?_
  rintro en w1 ⟨rfl, rfl⟩
  go_wp2_with fail
  go_returns
  exact ⟨_, rfl, OB_nil _ _, by go_grown⟩

set_option maxRecDepth 100000 in
set_option maxHeartbeats 1600000 in
theorem bytes_long (op id e p : Int) (w : World) (o1 : 1 ≤ op) (o2 : op ≤ 8) (i0 : 0 ≤ id) (i1 : id ≤ 65535) (e0 : 0 ≤ e) (e1 : e ≤ 4294967295) (p0 : 0 ≤ p) (p1 : p ≤ 4294967295) (h1 : Hid (hasID op = true)) (h2 : Hid (hasE op = true)) (h3 : Hid (hasP op = true)) (h4 : Hid (isOp op = true)) (g1 : Hid (okF id 65535 true = true)) (g2 : Hid (okF e 4294967295 true = true)) (g3 : Hid (okF p 4294967295 true = true)) :
    Calls Try.prog 11 #[.agg #[.int .i64 op, .int .i64 id, .int .i64 e, .int .i64 p]] w (BytesPost ([op] ++ be id 2 ++ be e 4 ++ be p 4) (.int .i64 0) w) := by
  go_enter Try.func11, Try.ntmps11
  go_wp2_with fail
  refine (fields_lit _ true true true true _ h1.out h2.out h3.out h4.out).mono ?_
  rintro en w1 ⟨rfl, rfl⟩
  go_wp2_with fail
  refine (fits_lit _ _ _ true _ g1.out).mono ?_
  rintro en w1 ⟨rfl, rfl⟩
  go_wp2_with fail
  refine (fits_lit _ _ _ true _ g2.out).mono ?_
  rintro en w1 ⟨rfl, rfl⟩
  go_wp2_with fail
  refine (fits_lit _ _ _ true _ g3.out).mono ?_
  rintro en w1 ⟨rfl, rfl⟩
  go_wp2_with fail
  refine (put20 (w.heap.size + 1) _ [op] id 2 _ (by omega) (by omega) (by omega) (by simp [be_len]) (OB_one _ _ (w.heap.size + 1) _ (by simp) (by omega)) (by simp)).mono ?_
  rintro en w2 ⟨v1, rfl, hO1, hb1⟩
  have hB1 : Below (w.heap.size + 1) (w.alloc (.cells #[.int .i64 op, .int .i64 id, .int .i64 e, .int .i64 p] 23)) w2 := ((Below.refl (w.heap.size + 1) (w.alloc (.cells #[.int .i64 op, .int .i64 id, .int .i64 e, .int .i64 p] 23))).alloc (by simp) _).trans hb1
  have hs1 : w.heap.size + 1 ≤ w2.heap.size := by have := hB1.size; simpa using this
  have x10 : w2.cell? ⟨w.heap.size, 0, none⟩ = some (.int .i64 op) := cells_of_box hB1 0 _ rfl
  have x11 : w2.cell? ⟨w.heap.size, 1, none⟩ = some (.int .i64 id) := cells_of_box hB1 1 _ rfl
  have x12 : w2.cell? ⟨w.heap.size, 2, none⟩ = some (.int .i64 e) := cells_of_box hB1 2 _ rfl
  have x13 : w2.cell? ⟨w.heap.size, 3, none⟩ = some (.int .i64 p) := cells_of_box hB1 3 _ rfl
  clear hb1
  go_wp2_with fail
  refine (put20 (w.heap.size + 1) _ ([op] ++ be id 2) e 4 _ (by omega) (by omega) (by omega) (by simp [be_len]) hO1 (by omega)).mono ?_
  rintro en w3 ⟨v2, rfl, hO2, hb2⟩
  have hB2 : Below (w.heap.size + 1) (w.alloc (.cells #[.int .i64 op, .int .i64 id, .int .i64 e, .int .i64 p] 23)) w3 := hB1.trans hb2
  have hs2 : w.heap.size + 1 ≤ w3.heap.size := by have := hB2.size; simpa using this
  have x20 : w3.cell? ⟨w.heap.size, 0, none⟩ = some (.int .i64 op) := cells_of_box hB2 0 _ rfl
  have x21 : w3.cell? ⟨w.heap.size, 1, none⟩ = some (.int .i64 id) := cells_of_box hB2 1 _ rfl
  have x22 : w3.cell? ⟨w.heap.size, 2, none⟩ = some (.int .i64 e) := cells_of_box hB2 2 _ rfl
  have x23 : w3.cell? ⟨w.heap.size, 3, none⟩ = some (.int .i64 p) := cells_of_box hB2 3 _ rfl
  clear hb2
  clear hO1 hB1 x10 x11 x12 x13
  go_wp2_with fail
  refine (put20 (w.heap.size + 1) _ ([op] ++ be id 2 ++ be e 4) p 4 _ (by omega) (by omega) (by omega) (by simp [be_len]) hO2 (by omega)).mono ?_
  rintro en w4 ⟨v3, rfl, hO3, hb3⟩
  have hB3 : Below (w.heap.size + 1) (w.alloc (.cells #[.int .i64 op, .int .i64 id, .int .i64 e, .int .i64 p] 23)) w4 := hB2.trans hb3
  have hs3 : w.heap.size + 1 ≤ w4.heap.size := by have := hB3.size; simpa using this
  have x30 : w4.cell? ⟨w.heap.size, 0, none⟩ = some (.int .i64 op) := cells_of_box hB3 0 _ rfl
  have x31 : w4.cell? ⟨w.heap.size, 1, none⟩ = some (.int .i64 id) := cells_of_box hB3 1 _ rfl
  have x32 : w4.cell? ⟨w.heap.size, 2, none⟩ = some (.int .i64 e) := cells_of_box hB3 2 _ rfl
  have x33 : w4.cell? ⟨w.heap.size, 3, none⟩ = some (.int .i64 p) := cells_of_box hB3 3 _ rfl
  clear hb3
  clear hO2 hB2 x20 x21 x22 x23
  go_wp2_with fail
  go_returns
  exact ⟨_, rfl, hO3.mono (by omega), (((Below.refl _ _).alloc (Nat.le_refl _) _).trans (hB3.mono (by omega)))⟩

set_option maxRecDepth 100000 in
set_option maxHeartbeats 1600000 in
theorem bytes_back (op id e p : Int) (w : World) (o1 : 1 ≤ op) (o2 : op ≤ 8) (i0 : 0 ≤ id) (i1 : id ≤ 65535) (e0 : 0 ≤ e) (e1 : e ≤ 4294967295) (p0 : 0 ≤ p) (p1 : p ≤ 4294967295) (h1 : Hid (hasID op = true)) (h2 : Hid (hasE op = true)) (h3 : Hid (hasP op = false)) (h4 : Hid (isOp op = true)) (g1 : Hid (okF id 65535 true = true)) (g2 : Hid (okF e 4294967295 true = true)) (g3 : Hid (okF p 4294967295 false = true)) :
    Calls Try.prog 11 #[.agg #[.int .i64 op, .int .i64 id, .int .i64 e, .int .i64 p]] w (BytesPost ([op] ++ be id 2 ++ be e 4) (.int .i64 0) w) := by
  go_enter Try.func11, Try.ntmps11
  go_wp2_with fail
  refine (fields_lit _ true true false true _ h1.out h2.out h3.out h4.out).mono ?_
  rintro en w1 ⟨rfl, rfl⟩
  go_wp2_with fail
  refine (fits_lit _ _ _ true _ g1.out).mono ?_
  rintro en w1 ⟨rfl, rfl⟩
  go_wp2_with fail
  refine (fits_lit _ _ _ true _ g2.out).mono ?_
  rintro en w1 ⟨rfl, rfl⟩
  go_wp2_with fail
  refine (fits_lit _ _ _ true _ g3.out).mono ?_
  rintro en w1 ⟨rfl, rfl⟩
  go_wp2_with fail
  refine (put20 (w.heap.size + 1) _ [op] id 2 _ (by omega) (by omega) (by omega) (by simp [be_len]) (OB_one _ _ (w.heap.size + 1) _ (by simp) (by omega)) (by simp)).mono ?_
  rintro en w2 ⟨v1, rfl, hO1, hb1⟩
  have hB1 : Below (w.heap.size + 1) (w.alloc (.cells #[.int .i64 op, .int .i64 id, .int .i64 e, .int .i64 p] 23)) w2 := ((Below.refl (w.heap.size + 1) (w.alloc (.cells #[.int .i64 op, .int .i64 id, .int .i64 e, .int .i64 p] 23))).alloc (by simp) _).trans hb1
  have hs1 : w.heap.size + 1 ≤ w2.heap.size := by have := hB1.size; simpa using this
  have x10 : w2.cell? ⟨w.heap.size, 0, none⟩ = some (.int .i64 op) := cells_of_box hB1 0 _ rfl
  have x11 : w2.cell? ⟨w.heap.size, 1, none⟩ = some (.int .i64 id) := cells_of_box hB1 1 _ rfl
  have x12 : w2.cell? ⟨w.heap.size, 2, none⟩ = some (.int .i64 e) := cells_of_box hB1 2 _ rfl
  have x13 : w2.cell? ⟨w.heap.size, 3, none⟩ = some (.int .i64 p) := cells_of_box hB1 3 _ rfl
  clear hb1
  go_wp2_with fail
  refine (put20 (w.heap.size + 1) _ ([op] ++ be id 2) e 4 _ (by omega) (by omega) (by omega) (by simp [be_len]) hO1 (by omega)).mono ?_
  rintro en w3 ⟨v2, rfl, hO2, hb2⟩
  have hB2 : Below (w.heap.size + 1) (w.alloc (.cells #[.int .i64 op, .int .i64 id, .int .i64 e, .int .i64 p] 23)) w3 := hB1.trans hb2
  have hs2 : w.heap.size + 1 ≤ w3.heap.size := by have := hB2.size; simpa using this
  have x20 : w3.cell? ⟨w.heap.size, 0, none⟩ = some (.int .i64 op) := cells_of_box hB2 0 _ rfl
  have x21 : w3.cell? ⟨w.heap.size, 1, none⟩ = some (.int .i64 id) := cells_of_box hB2 1 _ rfl
  have x22 : w3.cell? ⟨w.heap.size, 2, none⟩ = some (.int .i64 e) := cells_of_box hB2 2 _ rfl
  have x23 : w3.cell? ⟨w.heap.size, 3, none⟩ = some (.int .i64 p) := cells_of_box hB2 3 _ rfl
  clear hb2
  clear hO1 hB1 x10 x11 x12 x13
  go_wp2_with fail
  go_returns
  exact ⟨_, rfl, hO2.mono (by omega), (((Below.refl _ _).alloc (Nat.le_refl _) _).trans (hB2.mono (by omega)))⟩

set_option maxRecDepth 100000 in
set_option maxHeartbeats 1600000 in
theorem bytes_one (op id e p : Int) (w : World) (o1 : 1 ≤ op) (o2 : op ≤ 8) (i0 : 0 ≤ id) (i1 : id ≤ 65535) (e0 : 0 ≤ e) (e1 : e ≤ 4294967295) (p0 : 0 ≤ p) (p1 : p ≤ 4294967295) (h1 : Hid (hasID op = true)) (h2 : Hid (hasE op = false)) (h3 : Hid (hasP op = false)) (h4 : Hid (isOp op = true)) (g1 : Hid (okF id 65535 true = true)) (g2 : Hid (okF e 4294967295 false = true)) (g3 : Hid (okF p 4294967295 false = true)) :
    Calls Try.prog 11 #[.agg #[.int .i64 op, .int .i64 id, .int .i64 e, .int .i64 p]] w (BytesPost ([op] ++ be id 2) (.int .i64 0) w) := by
  go_enter Try.func11, Try.ntmps11
  go_wp2_with fail
  refine (fields_lit _ true false false true _ h1.out h2.out h3.out h4.out).mono ?_
  rintro en w1 ⟨rfl, rfl⟩
  go_wp2_with fail
  refine (fits_lit _ _ _ true _ g1.out).mono ?_
  rintro en w1 ⟨rfl, rfl⟩
  go_wp2_with fail
  refine (fits_lit _ _ _ true _ g2.out).mono ?_
  rintro en w1 ⟨rfl, rfl⟩
  go_wp2_with fail
  refine (fits_lit _ _ _ true _ g3.out).mono ?_
  rintro en w1 ⟨rfl, rfl⟩
  go_wp2_with fail
  refine (put20 (w.heap.size + 1) _ [op] id 2 _ (by omega) (by omega) (by omega) (by simp [be_len]) (OB_one _ _ (w.heap.size + 1) _ (by simp) (by omega)) (by simp)).mono ?_
  rintro en w2 ⟨v1, rfl, hO1, hb1⟩
  have hB1 : Below (w.heap.size + 1) (w.alloc (.cells #[.int .i64 op, .int .i64 id, .int .i64 e, .int .i64 p] 23)) w2 := ((Below.refl (w.heap.size + 1) (w.alloc (.cells #[.int .i64 op, .int .i64 id, .int .i64 e, .int .i64 p] 23))).alloc (by simp) _).trans hb1
  have hs1 : w.heap.size + 1 ≤ w2.heap.size := by have := hB1.size; simpa using this
  have x10 : w2.cell? ⟨w.heap.size, 0, none⟩ = some (.int .i64 op) := cells_of_box hB1 0 _ rfl
  have x11 : w2.cell? ⟨w.heap.size, 1, none⟩ = some (.int .i64 id) := cells_of_box hB1 1 _ rfl
  have x12 : w2.cell? ⟨w.heap.size, 2, none⟩ = some (.int .i64 e) := cells_of_box hB1 2 _ rfl
  have x13 : w2.cell? ⟨w.heap.size, 3, none⟩ = some (.int .i64 p) := cells_of_box hB1 3 _ rfl
  clear hb1
  go_wp2_with fail
  go_returns
  exact ⟨_, rfl, hO1.mono (by omega), (((Below.refl _ _).alloc (Nat.le_refl _) _).trans (hB1.mono (by omega)))⟩

set_option maxRecDepth 100000 in
set_option maxHeartbeats 1600000 in
theorem bytes_tick (op id e p : Int) (w : World) (o1 : 1 ≤ op) (o2 : op ≤ 8) (i0 : 0 ≤ id) (i1 : id ≤ 65535) (e0 : 0 ≤ e) (e1 : e ≤ 4294967295) (p0 : 0 ≤ p) (p1 : p ≤ 4294967295) (h1 : Hid (hasID op = false)) (h2 : Hid (hasE op = false)) (h3 : Hid (hasP op = false)) (h4 : Hid (isOp op = true)) (g1 : Hid (okF id 65535 false = true)) (g2 : Hid (okF e 4294967295 false = true)) (g3 : Hid (okF p 4294967295 false = true)) :
    Calls Try.prog 11 #[.agg #[.int .i64 op, .int .i64 id, .int .i64 e, .int .i64 p]] w (BytesPost ([op]) (.int .i64 0) w) := by
  go_enter Try.func11, Try.ntmps11
  go_wp2_with fail
  refine (fields_lit _ false false false true _ h1.out h2.out h3.out h4.out).mono ?_
  rintro en w1 ⟨rfl, rfl⟩
  go_wp2_with fail
  refine (fits_lit _ _ _ true _ g1.out).mono ?_
  rintro en w1 ⟨rfl, rfl⟩
  go_wp2_with fail
  refine (fits_lit _ _ _ true _ g2.out).mono ?_
  rintro en w1 ⟨rfl, rfl⟩
  go_wp2_with fail
  refine (fits_lit _ _ _ true _ g3.out).mono ?_
  rintro en w1 ⟨rfl, rfl⟩
  go_wp2_with fail
  go_returns
  exact ⟨_, rfl, OB_one _ w.heap.size (w.heap.size + 1) _ (by simp) (by omega), by go_grown⟩
end Go.Proofs.Ytbanlnacoidccaa
