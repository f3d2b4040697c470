/- A meter as a function; the contracts over it; the document's example. -/
import Derived.Test.YtlihgdbmcddobaaM1
namespace Go.Proofs.Ytlihgdbmcddobaa
open Go.RowKit

/-- Block b is a meter whose counters are f. -/
def isM (w : World) (b : Nat) (f : Nat → Int) : Prop := ∀ k, k < 5 → w.cell? ⟨b, k, none⟩ = some (.int .i64 (f k)) ∧ w.frozen? ⟨b, k, none⟩ = false

/-- Of what was there nothing but block b has turned. -/
structure Only (b : Nat) (w w' : World) : Prop where
  os : w'.os = w.os
  tape : w'.tape = w.tape
  output : w'.output = w.output
  size : w.heap.size ≤ w'.heap.size
  block : ∀ k, k < w.heap.size → k ≠ b → w'.heap[k]? = w.heap[k]?

def upd (f : Nat → Int) (k : Nat) (v : Int) : Nat → Int := fun j => if j = k then v else f j

theorem Only.below {b B : Nat} {w w' : World} (h : Only b w w') (hB : B ≤ b) (hs : B ≤ w.heap.size) : Below B w w' :=
  ⟨h.os, h.tape, h.output, h.size, fun k hk => h.block k (by omega) (by omega)⟩
theorem Only.of_below {b : Nat} {w w' : World} (h : Below w.heap.size w w') : Only b w w' := ⟨h.os, h.tape, h.output, h.size, fun k hk _ => h.block k hk⟩
theorem Only.refl (b : Nat) (w : World) : Only b w w := ⟨rfl, rfl, rfl, Nat.le_refl _, fun _ _ _ => rfl⟩

theorem below_of_grown {W w' : World} (h : Below W.heap.size W w') : Below W.heap.size W w' := h

theorem isM.lt {w : World} {b : Nat} {f : Nat → Int} (h : isM w b f) : b < w.heap.size := lt_cell (h 0 (by omega)).1

theorem isM.kept {w w' : World} {b : Nat} {f : Nat → Int} (h : isM w b f) (hh : w'.heap[b]? = w.heap[b]?) : isM w' b f := fun k hk =>
  ⟨by rw [World.cell?_of_block (w := w) (a := ⟨b, k, none⟩) hh]; exact (h k hk).1, by rw [World.frozen?_of_block (w := w) (a := ⟨b, k, none⟩) hh]; exact (h k hk).2⟩

theorem isM.below {w w' : World} {b : Nat} {f : Nat → Int} (h : isM w b f) (hb : Below w.heap.size w w') : isM w' b f := h.kept (hb.block b h.lt)
theorem isM.only {w w' : World} {b c : Nat} {f : Nat → Int} (h : isM w b f) (hb : Only c w w') (hne : b ≠ c) : isM w' b f := h.kept (hb.block b h.lt hne)

theorem isM.set {w : World} {b k : Nat} {f : Nat → Int} {v : Int} (h : isM w b f) (hk : k < 5) : isM (w.setCell ⟨b, k, none⟩ (.int .i64 v)) b (upd f k v) := by
  intro j hj
  have hb := h.lt
  obtain ⟨hc, hf⟩ := h j hj
  refine ⟨?_, by simpa using hf⟩
  unfold upd
  by_cases e : j = k
  · subst e
    rw [if_pos rfl]
    have hc' := hc
    unfold World.cell? at hc'
    simp only [World.cell?, World.setCell, Array.getElem?_modify]
    split at hc' <;> simp_all
    obtain ⟨hlt, _⟩ := Array.getElem?_eq_some_iff.1 hc'
    simp [hlt]
  · rw [if_neg e]
    unfold World.cell? at hc ⊢
    simp only [World.setCell, Array.getElem?_modify]
    split at hc <;> simp_all
    rw [Array.getElem?_setIfInBounds, if_neg (by omega)]; exact hc

theorem new_m (w : World) :
    Calls Try.prog 9 #[] w fun e w' => e = .returned (.pointer (some ⟨w.heap.size, 0, none⟩)) ∧ isM w' w.heap.size (fun _ => 0) ∧ Below w.heap.size w w' ∧ w'.heap.size = w.heap.size + 1 := by
  refine (new_any w).mono ?_
  rintro e w' ⟨rfl, rfl⟩
  refine ⟨rfl, ?_, (Below.refl _ _).alloc (Nat.le_refl _) _, by simp⟩
  intro k hk
  have : k = 0 ∨ k = 1 ∨ k = 2 ∨ k = 3 ∨ k = 4 := by omega
  rcases this with rfl | rfl | rfl | rfl | rfl <;> exact ⟨by go_simp, by go_simp⟩

theorem add_m (b k : Nat) (n s : Int) (f : Nat → Int) (w : World) (hk : k < 5) (h : isM w b f) (hs : wrap64 (f k + n) = s) :
    Calls Try.prog 10 #[.pointer (some ⟨b, 0, none⟩), .int .i64 k, .int .i64 n] w fun e w' => e = .returned (.int .i64 s) ∧ isM w' b (upd f k s) ∧ Only b w w' := by
  subst hs
  refine (add_in b k (f k) n w hk (h k hk).1 (h k hk).2).mono ?_
  rintro e w' ⟨rfl, rfl⟩
  exact ⟨rfl, h.set hk, rfl, rfl, rfl, by simp [World.setCell], fun j _ hj => Below.heap_setCell _ _ _ _ hj⟩

theorem get_m (b k : Nat) (x : Int) (f : Nat → Int) (w : World) (hk : k < 5) (h : isM w b f) (hx : f k = x) :
    Calls Try.prog 11 #[.pointer (some ⟨b, 0, none⟩), .int .i64 k] w fun e w' => e = .returned (.int .i64 x) ∧ w = w' :=
  get_in b k x w hk (by rw [← hx]; exact (h k hk).1)

theorem all_m (b : Nat) (x0 x1 x2 x3 x4 : Int) (f : Nat → Int) (w : World) (h : isM w b f) (h0 : f 0 = x0) (h1 : f 1 = x1) (h2 : f 2 = x2) (h3 : f 3 = x3) (h4 : f 4 = x4) :
    Calls Try.prog 12 #[.pointer (some ⟨b, 0, none⟩)] w fun e w' => e = .returned (.agg #[.int .i64 x0, .int .i64 x1, .int .i64 x2, .int .i64 x3, .int .i64 x4]) ∧ isM w' b f ∧ Below w.heap.size w w' := by
  subst h0 h1 h2 h3 h4
  refine (all_any b (f 0) (f 1) (f 2) (f 3) (f 4) w (h 0 (by omega)).1 (h 1 (by omega)).1 (h 2 (by omega)).1 (h 3 (by omega)).1 (h 4 (by omega)).1).mono ?_
  rintro e w' ⟨rfl, hg⟩
  exact ⟨rfl, h.below hg, hg⟩

theorem index0 (x0 x1 x2 x3 x4 : Value) (w : World) : (Instr.index 26 (.agg #[x0, x1, x2, x3, x4]) (.int .i64 0)).run Try.prog w = .ok x0 w := by kernel_rfl

theorem awake_any (w : World) : Calls Try.prog 8 #[] w fun e w' => e = .returned (.bool true) ∧ Below w.heap.size w w' := by
  have hi := index0
  go_enter Try.func8, Try.ntmps8
  go_wp2_with fail
  refine (new_m _).mono ?_
  rintro e w1 ⟨rfl, hm, hb, hs⟩
  have HS := Lib.hid hs; clear hs
  go_wp2_with fail
  refine (add_m _ 0 2 2 _ _ (by omega) hm (by simp [wrap64])).mono ?_
  rintro e w2 ⟨rfl, hm2, ho2⟩
  go_wp2_with fail
  refine (add_m _ 0 3 5 _ _ (by omega) hm2 (by simp [wrap64, upd])).mono ?_
  rintro e w3 ⟨rfl, hm3, ho3⟩
  go_wp2_with fail
  refine (get_m _ 0 5 _ _ (by omega) hm3 (by rfl)).mono ?_
  rintro e w4 ⟨rfl, rfl⟩
  go_wp2_with fail
  refine (all_m _ 5 0 0 0 0 _ _ hm3 (by rfl) (by rfl) (by rfl) (by rfl) (by rfl)).mono ?_
  rintro e w5 ⟨rfl, hm5, ho5⟩
  go_wp2_with fail
  go_returns
  refine ⟨rfl, ?_⟩
  have h1 := hb.trans (ho2.below (Nat.le_refl _) hb.size)
  have h2 := h1.trans (ho3.below (Nat.le_refl _) h1.size)
  exact h2.trans (ho5.mono h2.size)

theorem known_any (w : World) : Calls Try.prog 5 #[] w fun e w' => e = .returned (.bool true) ∧ Below w.heap.size w w' := by
  have he := eqarr
  go_enter Try.func5, Try.ntmps5
  go_wp2_with fail
  refine (awake_any _).mono ?_
  rintro e w0 ⟨rfl, hb0⟩
  go_wp2_with fail
  refine (new_m _).mono ?_
  rintro e w1 ⟨rfl, hm, hb, hs⟩
  have HS := Lib.hid hs; clear hs
  go_wp2_with fail
  refine (add_m _ 4 9223372036854775807 9223372036854775807 _ _ (by omega) hm (by simp [wrap64])).mono ?_
  rintro e w2 ⟨rfl, hm2, ho2⟩
  go_wp2_with fail
  refine (add_m _ 4 1 (-9223372036854775808) _ _ (by omega) hm2 (by simp [wrap64, upd])).mono ?_
  rintro e w3 ⟨rfl, hm3, ho3⟩
  go_wp2_with fail
  refine (add_out _ _ _ _ (by omega)).mono ?_
  rintro e w4 ⟨rfl, rfl⟩
  go_wp2_with fail
  refine (add_out _ _ _ _ (by omega)).mono ?_
  rintro e w4 ⟨rfl, rfl⟩
  go_wp2_with fail
  refine (get_out _ _ _ (by omega)).mono ?_
  rintro e w4 ⟨rfl, rfl⟩
  go_wp2_with fail
  refine (get_out _ _ _ (by omega)).mono ?_
  rintro e w4 ⟨rfl, rfl⟩
  go_wp2_with fail
  refine (all_m _ 0 0 0 0 (-9223372036854775808) _ _ hm3 (by rfl) (by rfl) (by rfl) (by rfl) (by rfl)).mono ?_
  rintro e w5 ⟨rfl, hm5, ho5⟩
  go_wp2_with fail
  go_returns
  refine ⟨rfl, ?_⟩
  have h1 := hb.trans (ho2.below (Nat.le_refl _) hb.size)
  have h2 := h1.trans (ho3.below (Nat.le_refl _) h1.size)
  exact hb0.trans ((h2.trans (ho5.mono h2.size)).mono hb0.size)
end Go.Proofs.Ytlihgdbmcddobaa
