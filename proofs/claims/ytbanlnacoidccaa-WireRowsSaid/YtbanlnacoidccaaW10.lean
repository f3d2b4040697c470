/- A command read out of its bytes is the command: without a program. -/
import Derived.Test.YtbanlnacoidccaaW9
namespace Go.Proofs.Ytbanlnacoidccaa
open Go.RowKit
set_option linter.unusedSimpArgs false
set_option linter.unusedVariables false

theorem flags_cases {op : Int} (h : isOp op = true) : (hasID op = true ∧ hasE op = true ∧ hasP op = true) ∨ (hasID op = true ∧ hasE op = true ∧ hasP op = false) ∨ (hasID op = true ∧ hasE op = false ∧ hasP op = false) ∨ (hasID op = false ∧ hasE op = false ∧ hasP op = false) := by
  have r := isOp_range h
  have hc : op = 1 ∨ op = 2 ∨ op = 7 ∨ op = 8 ∨ (3 ≤ op ∧ op ≤ 6) := by omega
  rcases hc with rfl | rfl | rfl | rfl | hs
  · exact Or.inl ⟨rfl, rfl, rfl⟩
  · exact Or.inl ⟨rfl, rfl, rfl⟩
  · exact Or.inr (Or.inl ⟨rfl, rfl, rfl⟩)
  · exact Or.inr (Or.inr (Or.inr ⟨rfl, rfl, rfl⟩))
  · exact Or.inr (Or.inr (Or.inl (some_flags hs)))

theorem be2 (n : Int) : be n 2 = [n / 256 % 256, n % 256] := by simp [be]
theorem be4 (n : Int) : be n 4 = [n / 16777216 % 256, n / 65536 % 256, n / 256 % 256, n % 256] := by simp [be]
theorem num2 (n : Int) (h0 : 0 ≤ n) (h1 : n ≤ 65535) : num [n / 256 % 256, n % 256] = n := by simp [num]; omega
theorem num4 (n : Int) (h0 : 0 ≤ n) (h1 : n ≤ 4294967295) : num [n / 16777216 % 256, n / 65536 % 256, n / 256 % 256, n % 256] = n := by simp [num]; omega

theorem csize_le (op : Int) : csize op ≤ 11 := by
  unfold csize
  split <;> split <;> split <;> omega

theorem enc_len {op id e p : Int} : (enc op id e p).length = csize op := by
  unfold enc csize
  cases hasID op <;> cases hasE op <;> cases hasP op <;> simp [be_len]

theorem mod256 (n : Int) : 0 ≤ n % 256 ∧ n % 256 ≤ 255 := by omega

theorem allB_cons {x : Int} {xs : List Int} (h0 : 0 ≤ x) (h1 : x ≤ 255) (h : AllB xs) : AllB (x :: xs) := by
  intro i hi
  cases i with
  | zero => exact ⟨h0, h1⟩
  | succ i => simpa using h i (by simpa using hi)
theorem allB_nil : AllB [] := fun i hi => by simp at hi
theorem allB_append {xs ys : List Int} (h : AllB xs) (k : AllB ys) : AllB (xs ++ ys) := by
  intro i hi
  rw [List.length_append] at hi
  simp only [List.getD_eq_getElem?_getD]
  by_cases e : i < xs.length
  · rw [List.getElem?_append_left e]
    simpa [List.getD_eq_getElem?_getD] using h i e
  · rw [List.getElem?_append_right (by omega)]
    simpa [List.getD_eq_getElem?_getD] using k (i - xs.length) (by omega)
theorem allB_be (n : Int) (k : Nat) : AllB (be n k) := by
  induction k with
  | zero => exact allB_nil
  | succ k ih => exact allB_cons (mod256 _).1 (mod256 _).2 ih
theorem allB_take {xs : List Int} (h : AllB xs) (k : Nat) : AllB (xs.take k) := by
  intro i hi
  rw [List.length_take] at hi
  simp only [List.getD_eq_getElem?_getD]
  rw [List.getElem?_take_of_lt (by omega)]
  simpa [List.getD_eq_getElem?_getD] using h i (by omega)
theorem enc_allB {op id e p : Int} (h : isOp op = true) : AllB (enc op id e p) := by
  have r := isOp_range h
  unfold enc
  refine allB_append (allB_append (allB_append (allB_cons (by omega) (by omega) allB_nil) ?_) ?_) ?_
  · split
    · exact allB_be _ _
    · exact allB_nil
  · split
    · exact allB_be _ _
    · exact allB_nil
  · split
    · exact allB_be _ _
    · exact allB_nil

/-- What is read of a command's bytes, with whatever stands behind, is the command. -/
theorem read_enc {op id e p : Int} (h : valid op id e p = true) (more : List Int) :
    good (enc op id e p ++ more) = true ∧ rdOp (enc op id e p ++ more) = op ∧ rdID (enc op id e p ++ more) = id ∧ rdE (enc op id e p ++ more) = e ∧ rdP (enc op id e p ++ more) = p := by
  obtain ⟨h4, g1, g2, g3⟩ := valid_parts h
  have r1 := okF_range (by omega) g1
  have r2 := okF_range (by omega) g2
  have r3 := okF_range (by omega) g3
  have hop : rdOp (enc op id e p ++ more) = op := by simp [rdOp, enc]
  have hl := @enc_len op id e p
  refine ⟨?_, hop, ?_⟩
  · unfold good
    rw [hop, h4]
    simp only [List.length_append, hl, Bool.true_and, Bool.and_eq_true, decide_eq_true_eq]
    unfold csize
    omega
  · unfold rdID rdE rdP
    rw [hop]
    rcases flags_cases h4 with ⟨f1, f2, f3⟩ | ⟨f1, f2, f3⟩ | ⟨f1, f2, f3⟩ | ⟨f1, f2, f3⟩
    · simp [enc, f1, f2, f3, be2, be4, num2 id r1.1 r1.2, num4 e r2.1 r2.2, num4 p r3.1 r3.2]
    · rw [f3] at g3
      simp [enc, f1, f2, f3, be2, be4, num2 id r1.1 r1.2, num4 e r2.1 r2.2, okF_zero g3]
    · rw [f3] at g3
      rw [f2] at g2
      simp [enc, f1, f2, f3, be2, be4, num2 id r1.1 r1.2, okF_zero g3, okF_zero g2]
    · rw [f3] at g3
      rw [f2] at g2
      rw [f1] at g1
      simp [enc, f1, f2, f3, okF_zero g3, okF_zero g2, okF_zero g1]

/-- A command cut is none. -/
theorem cut_enc {op id e p : Int} (k : Nat) (hk : k < (enc op id e p).length) : good ((enc op id e p).take k) = false := by
  unfold good
  have hl := @enc_len op id e p
  by_cases h0 : k = 0
  · subst h0; simp
  · have hop : rdOp ((enc op id e p).take k) = op := by
      unfold rdOp
      rw [List.getD_eq_getElem?_getD, List.getElem?_take_of_lt (by omega)]
      simp [enc]
    rw [hop, List.length_take]
    simp
    intro _ _
    omega
end Go.Proofs.Ytbanlnacoidccaa
