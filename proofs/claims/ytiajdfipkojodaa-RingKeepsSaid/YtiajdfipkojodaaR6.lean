/- The ring's example in the document. -/
import Derived.Test.YtiajdfipkojodaaR5
namespace Go.Proofs.Ytiajdfipkojodaa
open Go.RowKit
set_option linter.unusedSimpArgs false
set_option linter.unusedVariables false

theorem put_p (r a n c : Nat) (P : Nat → Ent) (clk : Int) (pv : Value) (x : Int) (w : World) (hcb : c ≤ 1000000000000) (h : isR w r a n c P) (h0 : (P c).v0 = c) (h1 : (P c).v1 = clk) (h2 : (P c).piece = pv) (hx : (c : Int) = x) :
    Calls Try.prog 8 #[.pointer (some ⟨r, 0, none⟩), .int .i64 clk, pv] w fun en w' => en = .returned (.int .i64 x) ∧ isR w' r a n (c + 1) P ∧ Only2 r a w w' := by
  subst h1 h2 hx
  refine (put_m r a n c P (P c) w hcb h h0).mono ?_
  rintro en w' ⟨rfl, h', ho⟩
  have e : putAt P c (P c) = P := by funext i; unfold putAt; split <;> simp_all
  rw [e] at h'
  exact ⟨rfl, h', ho⟩

theorem next_m (r a n c : Nat) (P : Nat → Ent) (x : Int) (w : World) (h : isR w r a n c P) (hx : (c : Int) = x) :
    Calls Try.prog 9 #[.pointer (some ⟨r, 0, none⟩)] w fun e w' => e = .returned (.int .i64 x) ∧ w = w' := by
  subst hx
  exact next_any r _ w h.nxt

theorem get_e (r a n c : Nat) (P : Nat → Ent) (k : Nat) (x : Int) (E : Ent) (w : World) (hcb : c ≤ 1000000000000) (h : isR w r a n c P) (h1 : c ≤ k + n) (h2 : k < c) (hx : (k : Int) = x) (hE : P k = E) :
    Calls Try.prog 10 #[.pointer (some ⟨r, 0, none⟩), .int .i64 x] w (GetPost (.agg #[.int .i64 E.v0, .int .i64 E.v1, .int .i64 E.v2, .int .i64 E.v3, .int .i64 E.v4, .int .i64 E.v5, .int .i64 E.v6, .int .i64 E.v7, .int .i64 E.v8, .bool E.v9]) true w) := by
  subst hx hE
  exact get_some_m r a n c P k w hcb h h1 h2

/-- What Since hands back, read: m entries from number f on. -/
def SinceRes (P : Nat → Ent) (f m : Nat) (w : World) (e : Ending) (w' : World) : Prop :=
  ∃ (A : Option Addr) (cap : Nat), e = .returned (.slice A m cap) ∧ (∀ i, i < m → ∃ g, A = some ⟨g, 0, none⟩ ∧ w.heap.size ≤ g ∧ ∀ q, q < 10 → w'.cell? ⟨g, i * 10 + q, none⟩ = (P (f + i)).cells[q]?) ∧ Below w.heap.size w w'

theorem SincePost.res {P : Nat → Ent} {f m : Nat} {w : World} {e : Ending} {w' : World} (h : SincePost P f m w e w') : SinceRes P f m w e w' := by
  obtain ⟨v, rfl, ⟨hl, hv⟩, hb⟩ := h
  rcases hv with ⟨rfl, rfl⟩ | ⟨g, cap, cur, rfl, hg, hh, hn, hc, hsz, htake⟩
  · exact ⟨none, 0, rfl, fun i hi => by omega, hb⟩
  · refine ⟨_, cap, rfl, fun i hi => ⟨g, rfl, hg, fun q hq => ?_⟩, hb⟩
    have e : w'.cell? ⟨g, i * 10 + q, none⟩ = cur[i * 10 + q]? := by
      unfold World.cell?
      simp only [hh]
      rfl
    rw [e, ← rows_get P f m i q hi hq, ← htake, List.getElem?_take_of_lt (by omega), Array.getElem?_toList]

theorem since_m (r a n c f m : Nat) (P : Nat → Ent) (s : Int) (w : World) (hcb : c ≤ 1000000000000) (h : isR w r a n c P) (hf : (f : Int) = max s ((c - n : Nat) : Int)) (hm : m = c - f) :
    Calls Try.prog 11 #[.pointer (some ⟨r, 0, none⟩), .int .i64 s] w (SinceRes P f m w) := by
  by_cases hfc : f ≤ c
  · subst hm
    exact (since_some r a n c f P s w hcb h hf hfc).mono fun _ _ h => h.res
  · obtain rfl : m = 0 := by omega
    refine (since_none r a n c P s w hcb h (by omega)).mono fun e w' h => ?_
    obtain ⟨A, cap, he, _, hb⟩ := h.res
    exact ⟨A, cap, he, fun i hi => by omega, hb⟩

/-- The entries of the example. -/
def exP : Nat → Ent := fun i => ⟨i, i, 0, 0, i, 0, 0, 0, 0, false⟩

set_option maxHeartbeats 800000 in
theorem awake_any (w : World) : Calls Try.prog 6 #[] w fun e w' => e = .returned (.bool true) ∧ Below w.heap.size w w' := by
  go_enter Try.func6, Try.ntmps6
  go_wp2_with fail
  refine (new_m 2 2 (by omega) exP _).mono ?_
  rintro e w1 ⟨rfl, h1, hb1⟩
  go_wp2_with fail
  refine wp_loop_rounds 4 ?_
  rw [rounds_succ]
  go_wp2_with fail
  refine (put_p _ _ 2 0 exP _ _ 0 _ (by omega) h1 (by rfl) (by rfl) (by rfl) (by rfl)).mono ?_
  rintro e w2 ⟨rfl, h2, ho2⟩
  go_wp2_with fail
  rw [rounds_succ]
  go_wp2_with fail
  refine (put_p _ _ 2 1 exP _ _ 1 _ (by omega) h2 (by rfl) (by rfl) (by rfl) (by rfl)).mono ?_
  rintro e w3 ⟨rfl, h3, ho3⟩
  go_wp2_with fail
  rw [rounds_succ]
  go_wp2_with fail
  refine (put_p _ _ 2 2 exP _ _ 2 _ (by omega) h3 (by rfl) (by rfl) (by rfl) (by rfl)).mono ?_
  rintro e w4 ⟨rfl, h4, ho4⟩
  go_wp2_with fail
  rw [rounds_succ]
  go_wp2_with fail
  have hb4 : Below w.heap.size w w4 := ((hb1.trans (ho2.below (by omega) (by omega) hb1.size)).trans (ho3.below (by omega) (by omega) (by have := hb1.size; have := ho2.size; omega))).trans (ho4.below (by omega) (by omega) (by have := hb1.size; have := ho2.size; have := ho3.size; omega))
  refine (get_none_m _ _ 2 3 exP 0 _ (by omega) h4 (by omega)).mono ?_
  rintro e w5 ⟨rfl, hb5⟩
  have h5 := h4.below hb5
  have hb50 := hb4.trans (hb5.mono hb4.size)
  clear hb1 h1 h2 h3 ho2 ho3 ho4 h4 hb5 hb4
  go_wp2_with fail
  refine (get_e _ _ 2 3 exP 2 2 ⟨2, 2, 0, 0, 2, 0, 0, 0, 0, false⟩ _ (by omega) (h5.below ((Below.refl _ _).alloc (Nat.le_refl _) _)) (by omega) (by omega) (by rfl) (by rfl)).mono ?_
  rintro e w6 ⟨rfl, hb6⟩
  have h6 := h5.below (((Below.refl _ _).alloc (Nat.le_refl _) _).trans (hb6.mono (by simp)))
  have hb60 := hb50.trans ((((Below.refl _ _).alloc (Nat.le_refl _) _).trans (hb6.mono (by simp))).mono hb50.size)
  clear hb6 hb50 h5
  go_wp2_with fail
  refine (next_m _ _ 2 3 exP 3 _ (h6.below ((Below.refl _ _).alloc (Nat.le_refl _) _)) (by rfl)).mono ?_
  rintro e w7 ⟨rfl, rfl⟩
  go_wp2_with fail
  refine (since_m _ _ 2 3 1 2 exP 0 _ (by omega) (h6.below ((Below.refl _ _).alloc (Nat.le_refl _) _)) (by omega) (by omega)).mono ?_
  rintro e w8 ⟨A, cap, rfl, _, hb8⟩
  go_wp2_with fail
  go_returns
  exact ⟨rfl, (hb60.alloc hb60.size _).trans (hb8.mono (by have := hb60.size; simp; omega))⟩
end Go.Proofs.Ytiajdfipkojodaa
