/- A command's bytes: the program's and the law's, whole. -/
import Derived.Test.YtbanlnacoidccaaW7
namespace Go.Proofs.Ytbanlnacoidccaa
open Go.RowKit
set_option linter.unusedSimpArgs false
set_option linter.unusedVariables false

theorem okF_range {n most : Int} {has : Bool} (hm : 0 ≤ most) (h : okF n most has = true) : 0 ≤ n ∧ n ≤ most := by
  unfold okF at h
  simp at h
  omega
theorem okF_zero {n most : Int} (h : okF n most false = true) : n = 0 := by
  unfold okF at h
  simpa using h
theorem okF_not {n most : Int} {has : Bool} (hm : 0 ≤ most) (h : okF n most has = false) : n < 0 ∨ most < n ∨ (has = false ∧ n ≠ 0) := by
  unfold okF at h
  simp at h
  cases has <;> simp at h ⊢ <;> omega
theorem isOp_range {op : Int} (h : isOp op = true) : 1 ≤ op ∧ op ≤ 8 := by
  unfold isOp at h
  simpa using h
theorem isOp_not {op : Int} (h : isOp op = false) : op < 1 ∨ 8 < op := by
  unfold isOp at h
  simp at h
  omega

theorem some_flags {op : Int} (h : 3 ≤ op ∧ op ≤ 6) : hasID op = true ∧ hasE op = false ∧ hasP op = false := by
  unfold hasID hasE hasP
  simp
  omega

theorem valid_parts {op id e p : Int} (h : valid op id e p = true) : isOp op = true ∧ okF id 65535 (hasID op) = true ∧ okF e 4294967295 (hasE op) = true ∧ okF p 4294967295 (hasP op) = true := by
  unfold valid at h
  simp at h
  exact ⟨h.1.1.1, h.1.1.2, h.1.2, h.2⟩

theorem bytes_yes (op id e p : Int) (w : World) (h : valid op id e p = true) :
    Calls Try.prog 11 #[.agg #[.int .i64 op, .int .i64 id, .int .i64 e, .int .i64 p]] w (BytesPost (enc op id e p) (.int .i64 0) w) := by
  obtain ⟨h4, g1, g2, g3⟩ := valid_parts h
  have r0 := isOp_range h4
  have r1 := okF_range (by omega) g1
  have r2 := okF_range (by omega) g2
  have r3 := okF_range (by omega) g3
  have hc : op = 1 ∨ op = 2 ∨ op = 7 ∨ op = 8 ∨ (3 ≤ op ∧ op ≤ 6) := by omega
  rcases hc with rfl | rfl | rfl | rfl | hs
  · have := bytes_long 1 id e p w (by omega) (by omega) r1.1 r1.2 r2.1 r2.2 r3.1 r3.2 rfl rfl rfl h4 g1 g2 g3
    simpa [enc, hasID, hasE, hasP] using this
  · have := bytes_long 2 id e p w (by omega) (by omega) r1.1 r1.2 r2.1 r2.2 r3.1 r3.2 rfl rfl rfl h4 g1 g2 g3
    simpa [enc, hasID, hasE, hasP] using this
  · have := bytes_back 7 id e p w (by omega) (by omega) r1.1 r1.2 r2.1 r2.2 r3.1 r3.2 rfl rfl rfl h4 g1 g2 g3
    simpa [enc, hasID, hasE, hasP] using this
  · have := bytes_tick 8 id e p w (by omega) (by omega) r1.1 r1.2 r2.1 r2.2 r3.1 r3.2 rfl rfl rfl h4 g1 g2 g3
    simpa [enc, hasID, hasE, hasP] using this
  · obtain ⟨f1, f2, f3⟩ := some_flags hs
    have := bytes_one op id e p w (by omega) (by omega) r1.1 r1.2 r2.1 r2.2 r3.1 r3.2 f1 f2 f3 h4 (by rw [f1] at g1; exact g1) (by rw [f2] at g2; exact g2) (by rw [f3] at g3; exact g3)
    simpa [enc, f1, f2, f3] using this

theorem bytes_no (op id e p : Int) (w : World) (h : valid op id e p = false) :
    Calls Try.prog 11 #[.agg #[.int .i64 op, .int .i64 id, .int .i64 e, .int .i64 p]] w (BytesPost [] (.int .i64 2) w) := by
  cases h4 : isOp op with
  | false => exact bytes_noop op id e p w _ _ _ rfl rfl rfl h4
  | true =>
    cases g1 : okF id 65535 (hasID op) with
    | false => exact bytes_noid op id e p w _ _ _ rfl rfl rfl h4 g1
    | true =>
      cases g2 : okF e 4294967295 (hasE op) with
      | false => exact bytes_noe op id e p w _ _ _ rfl rfl rfl h4 g1 g2
      | true =>
        cases g3 : okF p 4294967295 (hasP op) with
        | false => exact bytes_nop op id e p w _ _ _ rfl rfl rfl h4 g1 g2 g3
        | true => simp [valid, h4, g1, g2, g3] at h

theorem law_yes (op id e p : Int) (w : World) (h : valid op id e p = true) :
    Calls Try.prog 12 #[.agg #[.int .i64 op, .int .i64 id, .int .i64 e, .int .i64 p]] w (BytesPost (enc op id e p) (.bool true) w) := by
  obtain ⟨h4, g1, g2, g3⟩ := valid_parts h
  have r0 := isOp_range h4
  have r1 := okF_range (by omega) g1
  have r2 := okF_range (by omega) g2
  have r3 := okF_range (by omega) g3
  have hc : op = 1 ∨ op = 2 ∨ op = 7 ∨ op = 8 ∨ (3 ≤ op ∧ op ≤ 6) := by omega
  rcases hc with rfl | rfl | rfl | rfl | hs
  · have := law_one1_ok id e p w r1.1 r1.2 r2.1 r2.2 r3.1 r3.2
    simpa [enc, hasID, hasE, hasP] using this
  · have := law_two_ok id e p w r1.1 r1.2 r2.1 r2.2 r3.1 r3.2
    simpa [enc, hasID, hasE, hasP] using this
  · have := law_back_ok id e p w r1.1 r1.2 r2.1 r2.2 r3.1 r3.2 (okF_zero g3)
    simpa [enc, hasID, hasE, hasP] using this
  · have := law_tick_ok id e p w r1.1 r1.2 r2.1 r2.2 r3.1 r3.2 (okF_zero g1) (okF_zero g3) (okF_zero g2)
    simpa [enc, hasID, hasE, hasP] using this
  · obtain ⟨f1, f2, f3⟩ := some_flags hs
    rw [f2] at g2
    rw [f3] at g3
    have := law_some_ok op id e p w hs r1.1 r1.2 r2.1 r2.2 r3.1 r3.2 (okF_zero g3) (okF_zero g2)
    simpa [enc, f1, f2, f3] using this

theorem law_no (op id e p : Int) (w : World) (h : valid op id e p = false) :
    Calls Try.prog 12 #[.agg #[.int .i64 op, .int .i64 id, .int .i64 e, .int .i64 p]] w (BytesPost [] (.bool false) w) := by
  cases h4 : isOp op with
  | false =>
    rcases isOp_not h4 with hl | hh
    · exact law_low op id e p w hl
    · exact law_high op id e p w hh
  | true =>
    have r0 := isOp_range h4
    have hall : okF id 65535 (hasID op) = false ∨ okF e 4294967295 (hasE op) = false ∨ okF p 4294967295 (hasP op) = false := by
      unfold valid at h
      rw [h4] at h
      cases g1 : okF id 65535 (hasID op) <;> cases g2 : okF e 4294967295 (hasE op) <;> cases g3 : okF p 4294967295 (hasP op) <;> simp_all
    have hr : id < 0 ∨ 65535 < id ∨ e < 0 ∨ 4294967295 < e ∨ p < 0 ∨ 4294967295 < p ∨ (hasID op = false ∧ id ≠ 0) ∨ (hasE op = false ∧ e ≠ 0) ∨ (hasP op = false ∧ p ≠ 0) := by
      rcases hall with g | g | g
      · rcases okF_not (by omega) g with k | k | k <;> simp [k]
      · rcases okF_not (by omega) g with k | k | k <;> simp [k]
      · rcases okF_not (by omega) g with k | k | k <;> simp [k]
    have hc : op = 1 ∨ op = 2 ∨ op = 7 ∨ op = 8 ∨ (3 ≤ op ∧ op ≤ 6) := by omega
    by_cases a1 : id < 0
    · rcases hc with rfl | rfl | rfl | rfl | hs
      · exact law_one1_idlow id e p w a1
      · exact law_two_idlow id e p w a1
      · exact law_back_idlow id e p w a1
      · exact law_tick_idlow id e p w a1
      · exact law_some_idlow op id e p w hs a1
    by_cases a2 : 65535 < id
    · rcases hc with rfl | rfl | rfl | rfl | hs
      · exact law_one1_idhigh id e p w (by omega) a2
      · exact law_two_idhigh id e p w (by omega) a2
      · exact law_back_idhigh id e p w (by omega) a2
      · exact law_tick_idhigh id e p w (by omega) a2
      · exact law_some_idhigh op id e p w hs (by omega) a2
    by_cases a3 : e < 0
    · rcases hc with rfl | rfl | rfl | rfl | hs
      · exact law_one1_elow id e p w (by omega) (by omega) a3
      · exact law_two_elow id e p w (by omega) (by omega) a3
      · exact law_back_elow id e p w (by omega) (by omega) a3
      · exact law_tick_elow id e p w (by omega) (by omega) a3
      · exact law_some_elow op id e p w hs (by omega) (by omega) a3
    by_cases a4 : 4294967295 < e
    · rcases hc with rfl | rfl | rfl | rfl | hs
      · exact law_one1_ehigh id e p w (by omega) (by omega) (by omega) a4
      · exact law_two_ehigh id e p w (by omega) (by omega) (by omega) a4
      · exact law_back_ehigh id e p w (by omega) (by omega) (by omega) a4
      · exact law_tick_ehigh id e p w (by omega) (by omega) (by omega) a4
      · exact law_some_ehigh op id e p w hs (by omega) (by omega) (by omega) a4
    by_cases a5 : p < 0
    · rcases hc with rfl | rfl | rfl | rfl | hs
      · exact law_one1_plow id e p w (by omega) (by omega) (by omega) (by omega) a5
      · exact law_two_plow id e p w (by omega) (by omega) (by omega) (by omega) a5
      · exact law_back_plow id e p w (by omega) (by omega) (by omega) (by omega) a5
      · exact law_tick_plow id e p w (by omega) (by omega) (by omega) (by omega) a5
      · exact law_some_plow op id e p w hs (by omega) (by omega) (by omega) (by omega) a5
    by_cases a6 : 4294967295 < p
    · rcases hc with rfl | rfl | rfl | rfl | hs
      · exact law_one1_phigh id e p w (by omega) (by omega) (by omega) (by omega) (by omega) a6
      · exact law_two_phigh id e p w (by omega) (by omega) (by omega) (by omega) (by omega) a6
      · exact law_back_phigh id e p w (by omega) (by omega) (by omega) (by omega) (by omega) a6
      · exact law_tick_phigh id e p w (by omega) (by omega) (by omega) (by omega) (by omega) a6
      · exact law_some_phigh op id e p w hs (by omega) (by omega) (by omega) (by omega) (by omega) a6
    rcases hc with rfl | rfl | rfl | rfl | hs
    · exfalso; simp [hasID, hasE, hasP] at hr; omega
    · exfalso; simp [hasID, hasE, hasP] at hr; omega
    · exact law_back_hasp id e p w (by omega) (by omega) (by omega) (by omega) (by omega) (by omega) (by simp [hasID, hasE, hasP] at hr; omega)
    · by_cases b1 : id = 0
      · by_cases b2 : p = 0
        · exact law_tick_hase id e p w (by omega) (by omega) (by omega) (by omega) (by omega) (by omega) b1 b2 (by simp [hasID, hasE, hasP, b1, b2] at hr; omega)
        · exact law_tick_hasp id e p w (by omega) (by omega) (by omega) (by omega) (by omega) (by omega) b1 b2
      · exact law_tick_hasid id e p w (by omega) (by omega) (by omega) (by omega) (by omega) (by omega) b1
    · obtain ⟨f1, f2, f3⟩ := some_flags hs
      by_cases b2 : p = 0
      · exact law_some_hase op id e p w hs (by omega) (by omega) (by omega) (by omega) (by omega) (by omega) b2 (by simp [f1, f2, f3, b2] at hr; omega)
      · exact law_some_hasp op id e p w hs (by omega) (by omega) (by omega) (by omega) (by omega) (by omega) b2
end Go.Proofs.Ytbanlnacoidccaa
