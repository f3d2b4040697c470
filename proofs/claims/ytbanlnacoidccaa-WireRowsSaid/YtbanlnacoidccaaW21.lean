/- A reply's bytes, read again: without a program. -/
import Derived.Test.YtbanlnacoidccaaW20
namespace Go.Proofs.Ytbanlnacoidccaa
open Go.RowKit
set_option linter.unusedSimpArgs false
set_option linter.unusedVariables false

theorem num_foldl (xs : List Int) (a : Int) : xs.foldl (fun n x => n * 256 + x) a = a * 256 ^ xs.length + num xs := by
  unfold num
  induction xs generalizing a with
  | nil => simp
  | cons x xs ih =>
    simp only [List.foldl_cons, List.length_cons]
    rw [ih (a * 256 + x), ih (0 * 256 + x), Int.pow_succ]
    grind

theorem num_cons (x : Int) (xs : List Int) : num (x :: xs) = x * 256 ^ xs.length + num xs := by
  have := num_foldl xs (0 * 256 + x)
  unfold num at this ⊢
  simp only [List.foldl_cons]
  rw [this]; simp

theorem num_be (n : Nat) (k : Nat) : num (be n k) = ((n % 256 ^ k : Nat) : Int) := by
  induction k with
  | zero => simp [be, num, Nat.mod_one]
  | succ k ih =>
    rw [be, num_cons, be_len, ih, Nat.pow_succ, Nat.mod_mul]
    have e : (2 : Int) ^ (8 * k) = ((256 ^ k : Nat) : Int) := by
      rw [Int.pow_mul, show (2 : Int) ^ 8 = 256 from rfl]
      exact (Int.natCast_pow 256 k).symm
    rw [e]
    have e2 : (256 : Int) ^ k = ((256 ^ k : Nat) : Int) := (Int.natCast_pow 256 k).symm
    rw [e2]
    generalize 256 ^ k = P
    rw [Int.natCast_add, Int.natCast_mul, Int.natCast_emod (n / P), Int.natCast_ediv, Int.mul_comm, Int.add_comm]
    rfl

/-- What a piece is when its bytes are read. -/
def trim (p : Pc) : Pc := ⟨p.eng % 256, p.core % 256, u64 p.id % 65536, p.fn, p.fd, p.tn, p.td, p.sl⟩
/-- Are a piece's fractions numbers of 64 bits. -/
def Pc.ok (p : Pc) : Prop := (-9223372036854775808 ≤ p.fn ∧ p.fn ≤ 9223372036854775807) ∧ (-9223372036854775808 ≤ p.fd ∧ p.fd ≤ 9223372036854775807) ∧ (-9223372036854775808 ≤ p.tn ∧ p.tn ≤ 9223372036854775807) ∧ (-9223372036854775808 ≤ p.td ∧ p.td ≤ 9223372036854775807)

theorem be8_back (n : Int) (h : -9223372036854775808 ≤ n ∧ n ≤ 9223372036854775807) : wrap64 (num (be (u64 n) 8)) = n := by
  have r := u64_range n
  obtain ⟨m, hm⟩ : ∃ m : Nat, u64 n = m := ⟨(u64 n).toNat, by omega⟩
  rw [hm, num_be]
  have : m % 256 ^ 8 = m := Nat.mod_eq_of_lt (by omega)
  rw [this, ← hm]
  unfold u64 wrap64
  omega
theorem be2_back (n : Int) (h0 : 0 ≤ n) : num (be n 2) = n % 65536 := by
  obtain ⟨m, rfl⟩ : ∃ m : Nat, n = m := ⟨n.toNat, by omega⟩
  rw [num_be]; omega
theorem be4_back (n : Int) (h0 : 0 ≤ n) : num (be n 4) = n % 4294967296 := by
  obtain ⟨m, rfl⟩ : ∃ m : Nat, n = m := ⟨n.toNat, by omega⟩
  rw [num_be]; omega

theorem drop_len {α : Type} {a b : List α} {n : Nat} (h : a.length = n) : (a ++ b).drop n = b := by subst h; simp
theorem take_len {α : Type} {a b : List α} {n : Nat} (h : a.length = n) : (a ++ b).take n = a := by subst h; simp

theorem encP_cells (p : Pc) : (encP p).getD 0 0 = p.eng % 256 ∧ (encP p).getD 1 0 = p.core % 256 ∧ ((encP p).drop 2).take 2 = be (u64 p.id) 2 ∧ ((encP p).drop 4).take 8 = be (u64 p.fn) 8 ∧ ((encP p).drop 12).take 8 = be (u64 p.fd) 8 ∧ ((encP p).drop 20).take 8 = be (u64 p.tn) 8 ∧ ((encP p).drop 28).take 8 = be (u64 p.td) 8 ∧ (encP p).getD 36 0 = (if p.sl then 1 else 0) := by
  unfold encP
  generalize h1 : be (u64 p.id) 2 = a
  generalize h2 : be (u64 p.fn) 8 = b
  generalize h3 : be (u64 p.fd) 8 = c
  generalize h4 : be (u64 p.tn) 8 = d
  generalize h5 : be (u64 p.td) 8 = e
  have l1 : a.length = 2 := by rw [← h1, be_len]
  have l2 : b.length = 8 := by rw [← h2, be_len]
  have l3 : c.length = 8 := by rw [← h3, be_len]
  have l4 : d.length = 8 := by rw [← h4, be_len]
  have l5 : e.length = 8 := by rw [← h5, be_len]
  refine ⟨rfl, rfl, ?_, ?_, ?_, ?_, ?_, ?_⟩
  · simp [l1]
  · simp only [List.append_assoc]
    rw [← List.append_assoc [p.eng % 256, p.core % 256], drop_len (by simp [l1]), take_len l2]
  · simp only [List.append_assoc]
    rw [← List.append_assoc a, ← List.append_assoc [p.eng % 256, p.core % 256], drop_len (by simp [l1, l2]), take_len l3]
  · simp only [List.append_assoc]
    rw [← List.append_assoc b, ← List.append_assoc a, ← List.append_assoc [p.eng % 256, p.core % 256], drop_len (by simp [l1, l2, l3]), take_len l4]
  · simp only [List.append_assoc]
    rw [← List.append_assoc c, ← List.append_assoc b, ← List.append_assoc a, ← List.append_assoc [p.eng % 256, p.core % 256], drop_len (by simp [l1, l2, l3, l4]), take_len l5]
  · rw [List.getD_eq_getElem?_getD, List.getElem?_append_right (by simp [l1, l2, l3, l4, l5])]
    simp [l1, l2, l3, l4, l5]

theorem decP_encP (p : Pc) (h : p.ok) : decP (encP p) = trim p := by
  obtain ⟨c0, c1, c2, c3, c4, c5, c6, c7⟩ := encP_cells p
  obtain ⟨h1, h2, h3, h4⟩ := h
  unfold decP trim partI part
  have r := u64_range p.id
  rw [c0, c1, c2, c7]
  simp only [show 4 + 8 * (0 : Int).toNat = 4 by decide, show 4 + 8 * (1 : Int).toNat = 12 by decide, show 4 + 8 * (2 : Int).toNat = 20 by decide, show 4 + 8 * (3 : Int).toNat = 28 by decide]
  rw [c3, c4, c5, c6, be8_back _ h1, be8_back _ h2, be8_back _ h3, be8_back _ h4, be2_back _ r.1]
  cases p.sl <;> simp

theorem emod_two (n a b : Int) (ha : 0 < a) : n % (a * b) = n % a + a * (n / a % b) := by
  rw [Int.emod_def n (a * b), Int.emod_def n a, Int.emod_def (n / a) b, ← Int.ediv_ediv_of_nonneg (by omega), Int.mul_sub, Int.mul_assoc]
  omega

theorem be_mod (n m : Int) (k : Nat) (h : n % 2 ^ (8 * k) = m % 2 ^ (8 * k)) : be n k = be m k := by
  induction k with
  | zero => rfl
  | succ k ih =>
    have e : (2 : Int) ^ (8 * (k + 1)) = 2 ^ (8 * k) * 256 := by
      rw [Nat.mul_add, Int.pow_add]; rfl
    have hk : n % 2 ^ (8 * k) = m % 2 ^ (8 * k) := by
      have h' := congrArg (· % (2 : Int) ^ (8 * k)) h
      simp only [e] at h'
      rwa [Int.emod_emod_of_dvd _ (Int.dvd_mul_right ..), Int.emod_emod_of_dvd _ (Int.dvd_mul_right ..)] at h'
    unfold be
    rw [ih hk]
    congr 1
    have hp : (0 : Int) < 2 ^ (8 * k) := Int.pow_pos (by decide)
    rw [e] at h
    have hn := Int.mul_ediv_add_emod n (2 ^ (8 * k))
    have hm := Int.mul_ediv_add_emod m (2 ^ (8 * k))
    have a1 : n % (2 ^ (8 * k) * 256) = n % 2 ^ (8 * k) + 2 ^ (8 * k) * (n / 2 ^ (8 * k) % 256) := emod_two _ _ _ hp
    have a2 : m % (2 ^ (8 * k) * 256) = m % 2 ^ (8 * k) + 2 ^ (8 * k) * (m / 2 ^ (8 * k) % 256) := emod_two _ _ _ hp
    rw [a1, a2, hk] at h
    have := Int.add_left_cancel h
    exact Int.eq_of_mul_eq_mul_left (by omega) this

theorem u64_id (n : Int) (h0 : 0 ≤ n) (h1 : n < 18446744073709551616) : u64 n = n := by unfold u64; omega

theorem encP_trim (p : Pc) : encP (trim p) = encP p := by
  unfold encP trim
  have e2 : be (u64 (u64 p.id % 65536)) 2 = be (u64 p.id) 2 := by
    rw [u64_id _ (by omega) (by omega)]
    exact be_mod _ _ 2 (by simp)
  rw [e2]
  simp

/-- The numbers that a reply's bytes bring back. -/
def trimR (ps : List Pc) : List Pc := ps.map trim
theorem encR_trim (err clock : Int) (ps : List Pc) : encR (err % 256) (u64 clock % 4294967296) (trimR ps) = encR err clock ps := by
  unfold encR encH trimR
  have r := u64_range clock
  rw [List.length_map, u64_id (u64 clock % 4294967296) (by omega) (by omega), Int.emod_emod_of_dvd _ (by decide)]
  have e4 : be (u64 clock % 4294967296) 4 = be (u64 clock) 4 := be_mod _ _ 4 (by simp)
  rw [e4]
  congr 1
  induction ps with
  | nil => rfl
  | cons p ps ih => rw [List.map_cons, List.flatMap_cons, List.flatMap_cons, ih, encP_trim]

theorem encR_len (err clock : Int) (ps : List Pc) : (encR err clock ps).length = 7 + ps.length * 37 := by
  unfold encR encH
  rw [List.length_append, flat_len]; simp [be_len]

/-- The k-th piece's bytes. -/
def chunk (xs : List Int) (k : Nat) : List Int := (xs.drop (7 + k * 37)).take 37

theorem flat_chunk (ps : List Pc) (more : List Int) (k : Nat) (hk : k < ps.length) : ((ps.flatMap encP ++ more).drop (k * 37)).take 37 = encP (ps.getD k Pc.zero) := by
  induction ps generalizing k with
  | nil => simp at hk
  | cons p ps ih =>
    rw [List.flatMap_cons, List.append_assoc]
    cases k with
    | zero => simp only [Nat.zero_mul, List.drop_zero, List.getD_cons_zero]; exact take_len (encP_len p)
    | succ k =>
      rw [show (k + 1) * 37 = 37 + k * 37 by omega, ← List.drop_drop, drop_len (encP_len p)]
      simpa using ih k (by simpa using hk)

theorem encH_len (err clock : Int) (n : Nat) : (encH err clock n).length = 7 := by simp [encH, be_len]

theorem enc_chunk (err clock : Int) (ps : List Pc) (more : List Int) (k : Nat) (hk : k < ps.length) : chunk (encR err clock ps ++ more) k = encP (ps.getD k Pc.zero) := by
  unfold chunk encR
  rw [← List.drop_drop, List.append_assoc, drop_len (encH_len ..)]
  exact flat_chunk ps more k hk

/-- A reply's head: its error, clock and the number of its pieces. -/
def hdErr (xs : List Int) : Int := xs.getD 0 0
def hdClock (xs : List Int) : Int := num ((xs.drop 1).take 4)
def hdMany (xs : List Int) : Int := num ((xs.drop 5).take 2)

theorem enc_head (err clock : Int) (ps : List Pc) (hn : ps.length < 65536) (ys : List Int) (hy : ∃ zs, ys = encH err clock ps.length ++ zs) : hdErr ys = err % 256 ∧ hdClock ys = u64 clock % 4294967296 ∧ hdMany ys = ps.length := by
  obtain ⟨zs, rfl⟩ := hy
  have r := u64_range clock
  unfold hdErr hdClock hdMany encH
  refine ⟨rfl, ?_, ?_⟩
  · simp only [List.append_assoc]
    rw [drop_len (n := 1) rfl, take_len (be_len ..), be4_back _ r.1]
  · rw [List.append_assoc, drop_len (by simp [be_len]), take_len (be_len ..), be2_back _ (by omega)]
    omega

theorem enc_take (err clock : Int) (ps : List Pc) (k : Nat) (hk : 7 ≤ k) : ∃ zs, (encR err clock ps).take k = encH err clock ps.length ++ zs := by
  refine ⟨(ps.flatMap encP).take (k - 7), ?_⟩
  unfold encR
  rw [List.take_append, encH_len, List.take_of_length_le (by rw [encH_len]; exact hk)]

theorem chunk_ok (err clock : Int) (ps : List Pc) (more : List Int) (k : Nat) (hk : k < ps.length) : (chunk (encR err clock ps ++ more) k).getD 36 0 ≤ 1 := by
  rw [enc_chunk _ _ _ _ _ hk, (encP_cells _).2.2.2.2.2.2.2]
  split <;> omega

theorem allB_encP (p : Pc) : AllB (encP p) := by
  unfold encP
  refine allB_append (allB_append (allB_append (allB_append (allB_append (allB_append ?_ (allB_be _ _)) (allB_be _ _)) (allB_be _ _)) (allB_be _ _)) (allB_be _ _)) ?_
  · exact allB_cons (mod256 _).1 (mod256 _).2 (allB_cons (mod256 _).1 (mod256 _).2 allB_nil)
  · exact allB_cons (by split <;> omega) (by split <;> omega) allB_nil
theorem allB_flat (ps : List Pc) : AllB (ps.flatMap encP) := by
  induction ps with
  | nil => exact allB_nil
  | cons p ps ih => rw [List.flatMap_cons]; exact allB_append (allB_encP p) ih
theorem allB_encR (err clock : Int) (ps : List Pc) : AllB (encR err clock ps) := by
  unfold encR encH
  exact allB_append (allB_append (allB_append (allB_cons (mod256 _).1 (mod256 _).2 allB_nil) (allB_be _ _)) (allB_be _ _)) (allB_flat ps)

/-- What is read of so many pieces. -/
def prs (xs : List Int) (n : Nat) : List Pc := (List.range n).map fun k => decP (chunk xs k)
theorem prs_len (xs : List Int) (n : Nat) : (prs xs n).length = n := by simp [prs]
theorem prs_succ (xs : List Int) (n : Nat) : prs xs (n + 1) = prs xs n ++ [decP (chunk xs n)] := by
  unfold prs; rw [List.range_succ, List.map_append]; rfl
theorem prs_enc (err clock : Int) (ps : List Pc) (more : List Int) (hok : ∀ k, k < ps.length → (ps.getD k Pc.zero).ok) : prs (encR err clock ps ++ more) ps.length = trimR ps := by
  unfold prs trimR
  refine List.ext_getElem (by simp) fun k h1 h2 => ?_
  simp only [List.length_map, List.length_range] at h1
  rw [List.getElem_map, List.getElem_map, List.getElem_range, enc_chunk _ _ _ _ _ h1, decP_encP _ (hok k h1)]
  simp [List.getD_eq_getElem?_getD, List.getElem?_eq_getElem h1]
end Go.Proofs.Ytbanlnacoidccaa
