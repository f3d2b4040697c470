/- Read's own function: the next number. -/
import Derived.Test.YtbanlnacoidccaaW3
namespace Go.Proofs.Ytbanlnacoidccaa
open Go.RowKit
set_option linter.unusedSimpArgs false
set_option linter.unusedVariables false

theorem Bytes.sub {w : World} {b o : Nat} {xs : List Int} (h : Bytes w b o xs) (a s : Nat) : Bytes w b (o + a) ((xs.drop a).take s) := by
  intro i hi
  rw [List.length_take, List.length_drop] at hi
  have h1 := h (a + i) (by omega)
  have e : ((xs.drop a).take s).getD i 0 = xs.getD (a + i) 0 := by
    simp only [List.getD_eq_getElem?_getD]
    rw [List.getElem?_take_of_lt (by omega), List.getElem?_drop]
  rw [e, show o + a + i = o + (a + i) by omega]
  exact h1

theorem Bytes.kept {w w' : World} {b o : Nat} {xs : List Int} (h : Bytes w b o xs) (hh : w'.heap[b]? = w.heap[b]?) : Bytes w' b o xs := fun i hi => by
  rw [World.cell?_of_block (w := w) (a := ⟨b, o + i, none⟩) hh]; exact h i hi

theorem ret_int {k : IntKind} {a b : Int} (h : a = b) : Ending.returned (.int k a) = .returned (.int k b) := by rw [h]

theorem number_n (b o cap n : Nat) (xs : List Int) (w : World) (hx : Bytes w b o xs) (hn : xs.length = n) (hl : n ≤ 8) (hne : 0 < n) :
    Calls Try.prog 23 #[.slice (some ⟨b, o, none⟩) n cap] w fun e w' => e = .returned (.int .u64 (num xs)) ∧ w = w' := by
  subst hn
  exact number_any b o cap xs w hx hl hne

theorem num_top (xs : List Int) (n : Nat) (hn : xs.length = n) (h8 : n ≤ 7) (h : ∀ i, i < xs.length → 0 ≤ xs.getD i 0 ∧ xs.getD i 0 ≤ 255) : 0 ≤ num xs ∧ num xs < 256 ^ n ∧ num xs < 72057594037927936 := by
  have h1 := num_bound xs xs.length (Nat.le_refl _) h
  rw [List.take_length, hn] at h1
  have h2 := pow_top n h8
  exact ⟨h1.1, h1.2, by omega⟩

theorem next_not (s : Int) (A B : Option Addr) (w : World) :
    Calls Try.prog 22 #[.bool false, .int .i64 s, .pointer A, .pointer B] w fun e w' => e = .returned (.int .i64 0) ∧ w = w' := by
  go_enter Try.func22, Try.ntmps22
  go_wp2
  go_returns
  exact ⟨rfl, rfl⟩

theorem next_some (a s : Nat) (A B b o cap : Nat) (xs : List Int) (w : World) (hs0 : 0 < s) (hs : s ≤ 4) (ha : a + s ≤ xs.length) (hcap : xs.length ≤ cap) (hcm : cap ≤ 9223372036854775807) (hx : Bytes w b o xs) (hAb : b ≠ A)
    (hA : w.cell? ⟨A, 0, none⟩ = some (.int .i64 a)) (fA : w.frozen? ⟨A, 0, none⟩ = false) (hB : w.cell? ⟨B, 0, none⟩ = some (.slice (some ⟨b, o, none⟩) xs.length cap)) (hBA : B ≠ A) :
    Calls Try.prog 22 #[.bool true, .int .i64 s, .pointer (some ⟨A, 0, none⟩), .pointer (some ⟨B, 0, none⟩)] w fun e w' => e = .returned (.int .i64 (num ((xs.drop a).take s))) ∧ w.setCell ⟨A, 0, none⟩ (.int .i64 ((a : Int) + s)) = w' := by
  have HX := Lib.hid hx
  clear hx
  have q1 : (a : Int) + s ≤ 9223372036854775807 := by omega
  have q2 : (a : Int) + s ≤ cap := by omega
  have q3 : a + s ≤ cap := by omega
  go_enter Try.func22, Try.ntmps22
  go_wp2_with fail
  have hsub := HX.out.sub a s
  have hlen : ((xs.drop a).take s).length = s := by rw [List.length_take, List.length_drop]; omega
  have hb := num_top _ s hlen (by omega) (fun i hi => (hsub i hi).2)
  have hb0 := hb.1
  have hb1 : num ((xs.drop a).take s) ≤ 9223372036854775807 := by omega
  have HS := Lib.hid hsub
  have HL := Lib.hid hlen
  clear hsub hlen hb
  generalize hE : (xs.drop a).take s = ys at hb0 hb1 HS HL
  have HE := Lib.hid hE
  clear hE
  refine (number_n b (o + a) _ s ys _ (HS.out.kept (Below.heap_setCell _ _ _ _ hAb)) HL.out (by omega) hs0).mono ?_
  rintro e w' ⟨rfl, rfl⟩
  go_wp2_with fail
  go_returns
  exact ⟨ret_int (by rw [HE.out]), rfl⟩
end Go.Proofs.Ytbanlnacoidccaa
