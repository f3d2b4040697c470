/- Read: the first command of bytes. -/
import Derived.Test.YtbanlnacoidccaaW4
namespace Go.Proofs.Ytbanlnacoidccaa
open Go.RowKit
set_option linter.unusedSimpArgs false
set_option linter.unusedVariables false

theorem fields_lit (op : Int) (f1 f2 f3 f4 : Bool) (w : World) (h1 : hasID op = f1) (h2 : hasE op = f2) (h3 : hasP op = f3) (h4 : isOp op = f4) :
    Calls Try.prog 18 #[.int .i64 op] w fun e w' => e = .returned (.tuple #[.bool f1, .bool f2, .bool f3, .bool f4]) ∧ w = w' := by
  subst h1 h2 h3 h4
  exact fields_any op w

/-- What Read hands back: a command, its length, an error; below the old heap's end nothing has turned. -/
def ReadPost (op id e p n err : Int) (w : World) (en : Ending) (w' : World) : Prop :=
  en = .returned (.tuple #[.agg #[.int .i64 op, .int .i64 id, .int .i64 e, .int .i64 p], .int .i64 n, .int .i64 err]) ∧ Below w.heap.size w w'

theorem read_empty (A : Option Addr) (cap : Nat) (w : World) : Calls Try.prog 13 #[.slice A 0 cap] w (ReadPost 0 0 0 0 0 1 w) := by
  go_enter Try.func13, Try.ntmps13
  go_wp2_with fail
  refine bodyPost_ret (v := .tuple #[.agg #[.int .i64 0, .int .i64 0, .int .i64 0, .int .i64 0], .int .i64 0, .int .i64 1]) (by simp [results, Try.results13, go_sem]) rfl ⟨rfl, by go_grown⟩

theorem Bytes.below {w w' : World} {b o : Nat} {xs : List Int} (h : Bytes w b o xs) (hb : Below w.heap.size w w') (hlt : b < w.heap.size) : Bytes w' b o xs := h.kept (hb.block b hlt)

set_option maxRecDepth 100000 in
set_option maxHeartbeats 1600000 in
theorem read_bad (b o cap : Nat) (op : Int) (xs : List Int) (w : World) (hl : 0 < xs.length) (hm : cap ≤ 9223372036854775807) (hnc : xs.length ≤ cap) (hX : Hid (Bytes w b o xs)) (hop : Hid (xs.getD 0 0 = op))
    (h1 : Hid (hasID op = false)) (h2 : Hid (hasE op = false)) (h3 : Hid (hasP op = false)) (h4 : Hid (isOp op = false)) :
    Calls Try.prog 13 #[.slice (some ⟨b, o, none⟩) xs.length cap] w (ReadPost 0 0 0 0 0 1 w) := by
  have hx := (hX.out 0 (by omega)).1
  have h0 := (hX.out 0 (by omega)).2.1
  have h255 := (hX.out 0 (by omega)).2.2
  rw [hop.out] at hx h0 h255
  simp only [Nat.add_zero] at hx
  have hb : b < w.heap.size := by
    rcases Nat.lt_or_ge b w.heap.size with h' | h'
    · exact h'
    · simp [World.cell?, Array.getElem?_eq_none h'] at hx
  have hni : (0 : Int) < xs.length := by omega
  have hnn : 0 < xs.length := by omega
  have hnz : (((xs.length : Int)) == 0) = false := by simp; intro e; simp [e] at hnn
  have hmf : ∀ (fn : Fn) (first cap : Array Value) (w : World), (Instr.makeFunc fn first cap).run Try.prog w = .ok (.func fn first cap) w := fun _ _ _ _ => rfl
  go_enter Try.func13, Try.ntmps13
  go_wp2_with fail
  refine (fields_lit _ false false false false _ h1.out h2.out h3.out h4.out).mono ?_
  rintro e w1 ⟨rfl, rfl⟩
  go_wp2_with fail
  refine wp_loop_rounds 4 ?_
  rw [rounds_succ]
  go_wp2_with fail
  rw [rounds_succ]
  go_wp2_with fail
  rw [rounds_succ]
  go_wp2_with fail
  rw [rounds_succ]
  go_wp2_with fail
  refine bodyPost_ret (v := .tuple #[.agg #[.int .i64 0, .int .i64 0, .int .i64 0, .int .i64 0], .int .i64 0, .int .i64 1]) (by simp [results, Try.results13, go_sem]) rfl ⟨rfl, by go_grown⟩

set_option maxRecDepth 100000 in
set_option maxHeartbeats 1600000 in
theorem read_short_long (b o cap : Nat) (op : Int) (xs : List Int) (w : World) (hl : 0 < xs.length) (hs : xs.length < 11) (hm : cap ≤ 9223372036854775807) (hnc : xs.length ≤ cap) (hX : Hid (Bytes w b o xs)) (hop : Hid (xs.getD 0 0 = op))
    (h1 : Hid (hasID op = true)) (h2 : Hid (hasE op = true)) (h3 : Hid (hasP op = true)) (h4 : Hid (isOp op = true)) :
    Calls Try.prog 13 #[.slice (some ⟨b, o, none⟩) xs.length cap] w (ReadPost 0 0 0 0 0 1 w) := by
  have hx := (hX.out 0 (by omega)).1
  have h0 := (hX.out 0 (by omega)).2.1
  have h255 := (hX.out 0 (by omega)).2.2
  rw [hop.out] at hx h0 h255
  simp only [Nat.add_zero] at hx
  have hb : b < w.heap.size := by
    rcases Nat.lt_or_ge b w.heap.size with h' | h'
    · exact h'
    · simp [World.cell?, Array.getElem?_eq_none h'] at hx
  have hni : (0 : Int) < xs.length := by omega
  have hnn : 0 < xs.length := by omega
  have hnz : (((xs.length : Int)) == 0) = false := by simp; intro e; simp [e] at hnn
  have hmf : ∀ (fn : Fn) (first cap : Array Value) (w : World), (Instr.makeFunc fn first cap).run Try.prog w = .ok (.func fn first cap) w := fun _ _ _ _ => rfl
  have hsz : decide ((xs.length : Int) < 11) = true := decide_eq_true (by omega)
  have hsn : decide (xs.length < 11) = true := decide_eq_true (by omega)
  go_enter Try.func13, Try.ntmps13
  go_wp2_with fail
  refine (fields_lit _ true true true true _ h1.out h2.out h3.out h4.out).mono ?_
  rintro e w1 ⟨rfl, rfl⟩
  go_wp2_with fail
  refine wp_loop_rounds 4 ?_
  rw [rounds_succ]
  go_wp2_with fail
  rw [rounds_succ]
  go_wp2_with fail
  rw [rounds_succ]
  go_wp2_with fail
  rw [rounds_succ]
  go_wp2_with fail
  refine bodyPost_ret (v := .tuple #[.agg #[.int .i64 0, .int .i64 0, .int .i64 0, .int .i64 0], .int .i64 0, .int .i64 1]) (by simp [results, Try.results13, go_sem]) rfl ⟨rfl, by go_grown⟩

set_option maxRecDepth 100000 in
set_option maxHeartbeats 1600000 in
theorem read_long (b o cap : Nat) (op : Int) (xs : List Int) (w : World) (hl : 11 ≤ xs.length) (hm : cap ≤ 9223372036854775807) (hnc : xs.length ≤ cap) (hX : Hid (Bytes w b o xs)) (hop : Hid (xs.getD 0 0 = op))
    (h1 : Hid (hasID op = true)) (h2 : Hid (hasE op = true)) (h3 : Hid (hasP op = true)) (h4 : Hid (isOp op = true)) :
    Calls Try.prog 13 #[.slice (some ⟨b, o, none⟩) xs.length cap] w (ReadPost op (num ((xs.drop 1).take 2)) (num ((xs.drop 3).take 4)) (num ((xs.drop 7).take 4)) 11 0 w) := by
  have hx := (hX.out 0 (by omega)).1
  have h0 := (hX.out 0 (by omega)).2.1
  have h255 := (hX.out 0 (by omega)).2.2
  rw [hop.out] at hx h0 h255
  simp only [Nat.add_zero] at hx
  have hb : b < w.heap.size := by
    rcases Nat.lt_or_ge b w.heap.size with h' | h'
    · exact h'
    · simp [World.cell?, Array.getElem?_eq_none h'] at hx
  have hni : (0 : Int) < xs.length := by omega
  have hnn : 0 < xs.length := by omega
  have hnz : (((xs.length : Int)) == 0) = false := by simp; intro e; simp [e] at hnn
  have hmf : ∀ (fn : Fn) (first cap : Array Value) (w : World), (Instr.makeFunc fn first cap).run Try.prog w = .ok (.func fn first cap) w := fun _ _ _ _ => rfl
  have hsz : decide ((xs.length : Int) < 11) = false := decide_eq_false (by omega)
  have hsn : decide (xs.length < 11) = false := decide_eq_false (by omega)
  go_enter Try.func13, Try.ntmps13
  go_wp2_with fail
  refine (fields_lit _ true true true true _ h1.out h2.out h3.out h4.out).mono ?_
  rintro e w1 ⟨rfl, rfl⟩
  go_wp2_with fail
  refine wp_loop_rounds 4 ?_
  rw [rounds_succ]
  go_wp2_with fail
  rw [rounds_succ]
  go_wp2_with fail
  rw [rounds_succ]
  go_wp2_with fail
  rw [rounds_succ]
  go_wp2_with fail
  refine (next_some 1 2 _ _ b o cap xs _ (by omega) (by omega) (by omega) hnc hm (hX.out.below (by go_grown) hb) (by omega) (by go_simp) (by go_simp) (by go_simp) (by omega)).mono ?_
  rintro e w2 ⟨rfl, rfl⟩
  go_wp2_with fail
  refine (next_some 3 4 _ _ b o cap xs _ (by omega) (by omega) (by omega) hnc hm (hX.out.below (by go_grown) hb) (by omega) (by go_simp) (by go_simp) (by go_simp) (by omega)).mono ?_
  rintro e w2 ⟨rfl, rfl⟩
  go_wp2_with fail
  refine (next_some 7 4 _ _ b o cap xs _ (by omega) (by omega) (by omega) hnc hm (hX.out.below (by go_grown) hb) (by omega) (by go_simp) (by go_simp) (by go_simp) (by omega)).mono ?_
  rintro e w2 ⟨rfl, rfl⟩
  go_wp2_with fail
  refine bodyPost_ret (v := .tuple #[.agg #[.int .i64 op, .int .i64 (num ((xs.drop 1).take 2)), .int .i64 (num ((xs.drop 3).take 4)), .int .i64 (num ((xs.drop 7).take 4))], .int .i64 11, .int .i64 0]) (by simp [results, Try.results13, go_sem]) rfl ⟨rfl, by go_grown⟩

set_option maxRecDepth 100000 in
set_option maxHeartbeats 1600000 in
theorem read_short_back (b o cap : Nat) (op : Int) (xs : List Int) (w : World) (hl : 0 < xs.length) (hs : xs.length < 7) (hm : cap ≤ 9223372036854775807) (hnc : xs.length ≤ cap) (hX : Hid (Bytes w b o xs)) (hop : Hid (xs.getD 0 0 = op))
    (h1 : Hid (hasID op = true)) (h2 : Hid (hasE op = true)) (h3 : Hid (hasP op = false)) (h4 : Hid (isOp op = true)) :
    Calls Try.prog 13 #[.slice (some ⟨b, o, none⟩) xs.length cap] w (ReadPost 0 0 0 0 0 1 w) := by
  have hx := (hX.out 0 (by omega)).1
  have h0 := (hX.out 0 (by omega)).2.1
  have h255 := (hX.out 0 (by omega)).2.2
  rw [hop.out] at hx h0 h255
  simp only [Nat.add_zero] at hx
  have hb : b < w.heap.size := by
    rcases Nat.lt_or_ge b w.heap.size with h' | h'
    · exact h'
    · simp [World.cell?, Array.getElem?_eq_none h'] at hx
  have hni : (0 : Int) < xs.length := by omega
  have hnn : 0 < xs.length := by omega
  have hnz : (((xs.length : Int)) == 0) = false := by simp; intro e; simp [e] at hnn
  have hmf : ∀ (fn : Fn) (first cap : Array Value) (w : World), (Instr.makeFunc fn first cap).run Try.prog w = .ok (.func fn first cap) w := fun _ _ _ _ => rfl
  have hsz : decide ((xs.length : Int) < 7) = true := decide_eq_true (by omega)
  have hsn : decide (xs.length < 7) = true := decide_eq_true (by omega)
  go_enter Try.func13, Try.ntmps13
  go_wp2_with fail
  refine (fields_lit _ true true false true _ h1.out h2.out h3.out h4.out).mono ?_
  rintro e w1 ⟨rfl, rfl⟩
  go_wp2_with fail
  refine wp_loop_rounds 4 ?_
  rw [rounds_succ]
  go_wp2_with fail
  rw [rounds_succ]
  go_wp2_with fail
  rw [rounds_succ]
  go_wp2_with fail
  rw [rounds_succ]
  go_wp2_with fail
  refine bodyPost_ret (v := .tuple #[.agg #[.int .i64 0, .int .i64 0, .int .i64 0, .int .i64 0], .int .i64 0, .int .i64 1]) (by simp [results, Try.results13, go_sem]) rfl ⟨rfl, by go_grown⟩

set_option maxRecDepth 100000 in
set_option maxHeartbeats 1600000 in
theorem read_back (b o cap : Nat) (op : Int) (xs : List Int) (w : World) (hl : 7 ≤ xs.length) (hm : cap ≤ 9223372036854775807) (hnc : xs.length ≤ cap) (hX : Hid (Bytes w b o xs)) (hop : Hid (xs.getD 0 0 = op))
    (h1 : Hid (hasID op = true)) (h2 : Hid (hasE op = true)) (h3 : Hid (hasP op = false)) (h4 : Hid (isOp op = true)) :
    Calls Try.prog 13 #[.slice (some ⟨b, o, none⟩) xs.length cap] w (ReadPost op (num ((xs.drop 1).take 2)) (num ((xs.drop 3).take 4)) 0 7 0 w) := by
  have hx := (hX.out 0 (by omega)).1
  have h0 := (hX.out 0 (by omega)).2.1
  have h255 := (hX.out 0 (by omega)).2.2
  rw [hop.out] at hx h0 h255
  simp only [Nat.add_zero] at hx
  have hb : b < w.heap.size := by
    rcases Nat.lt_or_ge b w.heap.size with h' | h'
    · exact h'
    · simp [World.cell?, Array.getElem?_eq_none h'] at hx
  have hni : (0 : Int) < xs.length := by omega
  have hnn : 0 < xs.length := by omega
  have hnz : (((xs.length : Int)) == 0) = false := by simp; intro e; simp [e] at hnn
  have hmf : ∀ (fn : Fn) (first cap : Array Value) (w : World), (Instr.makeFunc fn first cap).run Try.prog w = .ok (.func fn first cap) w := fun _ _ _ _ => rfl
  have hsz : decide ((xs.length : Int) < 7) = false := decide_eq_false (by omega)
  have hsn : decide (xs.length < 7) = false := decide_eq_false (by omega)
  go_enter Try.func13, Try.ntmps13
  go_wp2_with fail
  refine (fields_lit _ true true false true _ h1.out h2.out h3.out h4.out).mono ?_
  rintro e w1 ⟨rfl, rfl⟩
  go_wp2_with fail
  refine wp_loop_rounds 4 ?_
  rw [rounds_succ]
  go_wp2_with fail
  rw [rounds_succ]
  go_wp2_with fail
  rw [rounds_succ]
  go_wp2_with fail
  rw [rounds_succ]
  go_wp2_with fail
  refine (next_some 1 2 _ _ b o cap xs _ (by omega) (by omega) (by omega) hnc hm (hX.out.below (by go_grown) hb) (by omega) (by go_simp) (by go_simp) (by go_simp) (by omega)).mono ?_
  rintro e w2 ⟨rfl, rfl⟩
  go_wp2_with fail
  refine (next_some 3 4 _ _ b o cap xs _ (by omega) (by omega) (by omega) hnc hm (hX.out.below (by go_grown) hb) (by omega) (by go_simp) (by go_simp) (by go_simp) (by omega)).mono ?_
  rintro e w2 ⟨rfl, rfl⟩
  go_wp2_with fail
  refine (next_not _ _ _ _).mono ?_
  rintro e w2 ⟨rfl, rfl⟩
  go_wp2_with fail
  refine bodyPost_ret (v := .tuple #[.agg #[.int .i64 op, .int .i64 (num ((xs.drop 1).take 2)), .int .i64 (num ((xs.drop 3).take 4)), .int .i64 0], .int .i64 7, .int .i64 0]) (by simp [results, Try.results13, go_sem]) rfl ⟨rfl, by go_grown⟩

set_option maxRecDepth 100000 in
set_option maxHeartbeats 1600000 in
theorem read_short_one (b o cap : Nat) (op : Int) (xs : List Int) (w : World) (hl : 0 < xs.length) (hs : xs.length < 3) (hm : cap ≤ 9223372036854775807) (hnc : xs.length ≤ cap) (hX : Hid (Bytes w b o xs)) (hop : Hid (xs.getD 0 0 = op))
    (h1 : Hid (hasID op = true)) (h2 : Hid (hasE op = false)) (h3 : Hid (hasP op = false)) (h4 : Hid (isOp op = true)) :
    Calls Try.prog 13 #[.slice (some ⟨b, o, none⟩) xs.length cap] w (ReadPost 0 0 0 0 0 1 w) := by
  have hx := (hX.out 0 (by omega)).1
  have h0 := (hX.out 0 (by omega)).2.1
  have h255 := (hX.out 0 (by omega)).2.2
  rw [hop.out] at hx h0 h255
  simp only [Nat.add_zero] at hx
  have hb : b < w.heap.size := by
    rcases Nat.lt_or_ge b w.heap.size with h' | h'
    · exact h'
    · simp [World.cell?, Array.getElem?_eq_none h'] at hx
  have hni : (0 : Int) < xs.length := by omega
  have hnn : 0 < xs.length := by omega
  have hnz : (((xs.length : Int)) == 0) = false := by simp; intro e; simp [e] at hnn
  have hmf : ∀ (fn : Fn) (first cap : Array Value) (w : World), (Instr.makeFunc fn first cap).run Try.prog w = .ok (.func fn first cap) w := fun _ _ _ _ => rfl
  have hsz : decide ((xs.length : Int) < 3) = true := decide_eq_true (by omega)
  have hsn : decide (xs.length < 3) = true := decide_eq_true (by omega)
  go_enter Try.func13, Try.ntmps13
  go_wp2_with fail
  refine (fields_lit _ true false false true _ h1.out h2.out h3.out h4.out).mono ?_
  rintro e w1 ⟨rfl, rfl⟩
  go_wp2_with fail
  refine wp_loop_rounds 4 ?_
  rw [rounds_succ]
  go_wp2_with fail
  rw [rounds_succ]
  go_wp2_with fail
  rw [rounds_succ]
  go_wp2_with fail
  rw [rounds_succ]
  go_wp2_with fail
  refine bodyPost_ret (v := .tuple #[.agg #[.int .i64 0, .int .i64 0, .int .i64 0, .int .i64 0], .int .i64 0, .int .i64 1]) (by simp [results, Try.results13, go_sem]) rfl ⟨rfl, by go_grown⟩

set_option maxRecDepth 100000 in
set_option maxHeartbeats 1600000 in
theorem read_one (b o cap : Nat) (op : Int) (xs : List Int) (w : World) (hl : 3 ≤ xs.length) (hm : cap ≤ 9223372036854775807) (hnc : xs.length ≤ cap) (hX : Hid (Bytes w b o xs)) (hop : Hid (xs.getD 0 0 = op))
    (h1 : Hid (hasID op = true)) (h2 : Hid (hasE op = false)) (h3 : Hid (hasP op = false)) (h4 : Hid (isOp op = true)) :
    Calls Try.prog 13 #[.slice (some ⟨b, o, none⟩) xs.length cap] w (ReadPost op (num ((xs.drop 1).take 2)) 0 0 3 0 w) := by
  have hx := (hX.out 0 (by omega)).1
  have h0 := (hX.out 0 (by omega)).2.1
  have h255 := (hX.out 0 (by omega)).2.2
  rw [hop.out] at hx h0 h255
  simp only [Nat.add_zero] at hx
  have hb : b < w.heap.size := by
    rcases Nat.lt_or_ge b w.heap.size with h' | h'
    · exact h'
    · simp [World.cell?, Array.getElem?_eq_none h'] at hx
  have hni : (0 : Int) < xs.length := by omega
  have hnn : 0 < xs.length := by omega
  have hnz : (((xs.length : Int)) == 0) = false := by simp; intro e; simp [e] at hnn
  have hmf : ∀ (fn : Fn) (first cap : Array Value) (w : World), (Instr.makeFunc fn first cap).run Try.prog w = .ok (.func fn first cap) w := fun _ _ _ _ => rfl
  have hsz : decide ((xs.length : Int) < 3) = false := decide_eq_false (by omega)
  have hsn : decide (xs.length < 3) = false := decide_eq_false (by omega)
  go_enter Try.func13, Try.ntmps13
  go_wp2_with fail
  refine (fields_lit _ true false false true _ h1.out h2.out h3.out h4.out).mono ?_
  rintro e w1 ⟨rfl, rfl⟩
  go_wp2_with fail
  refine wp_loop_rounds 4 ?_
  rw [rounds_succ]
  go_wp2_with fail
  rw [rounds_succ]
  go_wp2_with fail
  rw [rounds_succ]
  go_wp2_with fail
  rw [rounds_succ]
  go_wp2_with fail
  refine (next_some 1 2 _ _ b o cap xs _ (by omega) (by omega) (by omega) hnc hm (hX.out.below (by go_grown) hb) (by omega) (by go_simp) (by go_simp) (by go_simp) (by omega)).mono ?_
  rintro e w2 ⟨rfl, rfl⟩
  go_wp2_with fail
  refine (next_not _ _ _ _).mono ?_
  rintro e w2 ⟨rfl, rfl⟩
  go_wp2_with fail
  refine (next_not _ _ _ _).mono ?_
  rintro e w2 ⟨rfl, rfl⟩
  go_wp2_with fail
  refine bodyPost_ret (v := .tuple #[.agg #[.int .i64 op, .int .i64 (num ((xs.drop 1).take 2)), .int .i64 0, .int .i64 0], .int .i64 3, .int .i64 0]) (by simp [results, Try.results13, go_sem]) rfl ⟨rfl, by go_grown⟩

set_option maxRecDepth 100000 in
set_option maxHeartbeats 1600000 in
theorem read_tick (b o cap : Nat) (op : Int) (xs : List Int) (w : World) (hl : 1 ≤ xs.length) (hm : cap ≤ 9223372036854775807) (hnc : xs.length ≤ cap) (hX : Hid (Bytes w b o xs)) (hop : Hid (xs.getD 0 0 = op))
    (h1 : Hid (hasID op = false)) (h2 : Hid (hasE op = false)) (h3 : Hid (hasP op = false)) (h4 : Hid (isOp op = true)) :
    Calls Try.prog 13 #[.slice (some ⟨b, o, none⟩) xs.length cap] w (ReadPost op 0 0 0 1 0 w) := by
  have hx := (hX.out 0 (by omega)).1
  have h0 := (hX.out 0 (by omega)).2.1
  have h255 := (hX.out 0 (by omega)).2.2
  rw [hop.out] at hx h0 h255
  simp only [Nat.add_zero] at hx
  have hb : b < w.heap.size := by
    rcases Nat.lt_or_ge b w.heap.size with h' | h'
    · exact h'
    · simp [World.cell?, Array.getElem?_eq_none h'] at hx
  have hni : (0 : Int) < xs.length := by omega
  have hnn : 0 < xs.length := by omega
  have hnz : (((xs.length : Int)) == 0) = false := by simp; intro e; simp [e] at hnn
  have hmf : ∀ (fn : Fn) (first cap : Array Value) (w : World), (Instr.makeFunc fn first cap).run Try.prog w = .ok (.func fn first cap) w := fun _ _ _ _ => rfl
  have hsz : decide ((xs.length : Int) < 1) = false := decide_eq_false (by omega)
  have hsn : decide (xs.length < 1) = false := decide_eq_false (by omega)
  go_enter Try.func13, Try.ntmps13
  go_wp2_with fail
  refine (fields_lit _ false false false true _ h1.out h2.out h3.out h4.out).mono ?_
  rintro e w1 ⟨rfl, rfl⟩
  go_wp2_with fail
  refine wp_loop_rounds 4 ?_
  rw [rounds_succ]
  go_wp2_with fail
  rw [rounds_succ]
  go_wp2_with fail
  rw [rounds_succ]
  go_wp2_with fail
  rw [rounds_succ]
  go_wp2_with fail
  refine (next_not _ _ _ _).mono ?_
  rintro e w2 ⟨rfl, rfl⟩
  go_wp2_with fail
  refine (next_not _ _ _ _).mono ?_
  rintro e w2 ⟨rfl, rfl⟩
  go_wp2_with fail
  refine (next_not _ _ _ _).mono ?_
  rintro e w2 ⟨rfl, rfl⟩
  go_wp2_with fail
  refine bodyPost_ret (v := .tuple #[.agg #[.int .i64 op, .int .i64 0, .int .i64 0, .int .i64 0], .int .i64 1, .int .i64 0]) (by simp [results, Try.results13, go_sem]) rfl ⟨rfl, by go_grown⟩
end Go.Proofs.Ytbanlnacoidccaa
