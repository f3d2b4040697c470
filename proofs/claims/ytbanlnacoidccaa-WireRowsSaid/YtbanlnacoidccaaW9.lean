/- Slices of bytes that can be read; Read over them; a command read out of its bytes. -/
import Derived.Test.YtbanlnacoidccaaW8
import Derived.Laws.IdiomStrings
import Derived.Lib.BufferRead
namespace Go.Proofs.Ytbanlnacoidccaa
open Go.RowKit
set_option linter.unusedSimpArgs false
set_option linter.unusedVariables false

def AllB (xs : List Int) : Prop := ∀ i, i < xs.length → 0 ≤ xs.getD i 0 ∧ xs.getD i 0 ≤ 255

/-- A slice (address, length, room) that reads as the bytes xs. -/
structure Sl (w : World) (A : Option Addr) (len cap : Nat) (xs : List Int) : Prop where
  long : xs.length = len
  room : len ≤ cap
  top : cap ≤ 9223372036854775807
  all : AllB xs
  at_ : 0 < len → ∃ b o, A = some ⟨b, o, none⟩ ∧ b < w.heap.size ∧ Bytes w b o xs

theorem Bytes.lt {w : World} {b o : Nat} {xs : List Int} (h : Bytes w b o xs) (hl : 0 < xs.length) : b < w.heap.size := by
  have hx := (h 0 hl).1
  rcases Nat.lt_or_ge b w.heap.size with h' | h'
  · exact h'
  · simp [World.cell?, Array.getElem?_eq_none h'] at hx

theorem Sl.below {w w' : World} {A : Option Addr} {len cap : Nat} {xs : List Int} (h : Sl w A len cap xs) (hb : Below w.heap.size w w') : Sl w' A len cap xs :=
  ⟨h.long, h.room, h.top, h.all, fun h0 => by
    obtain ⟨b, o, e, hlt, hB⟩ := h.at_ h0
    exact ⟨b, o, e, Nat.lt_of_lt_of_le hlt hb.size, hB.below hb hlt⟩⟩

theorem OB.sl {w : World} {base : Nat} {v : Value} {xs : List Int} (h : OB w base v xs) (ha : AllB xs) : ∃ A cap, v = .slice A xs.length cap ∧ Sl w A xs.length cap xs := by
  obtain ⟨h1, h2⟩ := h
  rcases h2 with ⟨rfl, hl⟩ | ⟨g, cap, cur, rfl, hg, hh, hn, hc, hsz, htk⟩
  · exact ⟨none, 0, by rw [hl], rfl, by omega, by omega, ha, fun h0 => by omega⟩
  · refine ⟨_, cap, rfl, rfl, hn, by unfold maxLen at hc; omega, ha, fun h0 => ⟨g, 0, rfl, lt_of_block hh, fun i hi => ⟨?_, ha i hi⟩⟩⟩
    have e : w.cell? ⟨g, 0 + i, none⟩ = cur[i]? := by
      rw [Nat.zero_add]
      unfold World.cell?
      simp only [hh]
      rfl
    have e2 : (cur.toList.take (xs.length * 1))[i]? = (bv xs)[i]? := by rw [htk]
    rw [List.getElem?_take_of_lt (by omega), Array.getElem?_toList] at e2
    rw [e, e2]
    simp [bv, List.getElem?_eq_getElem hi, List.getD_eq_getElem?_getD]

/-- The text of bytes. -/
def strOf (xs : List Int) : ByteArray := ⟨(xs.map (fun x => UInt8.ofNat x.toNat)).toArray⟩

theorem conv_sl {w : World} {A : Option Addr} {len cap : Nat} {xs : List Int} (h : Sl w A len cap xs) : (convert 24 9 (.slice A len cap)).run Try.prog w = .ok (.string (strOf xs)) w := by
  obtain ⟨rfl, hr, ht, ha, hat⟩ := h
  by_cases h0 : 0 < xs.length
  · obtain ⟨b, o, rfl, hlt, hB⟩ := hat h0
    have := run_convert_bytes_back (P := Try.prog) w 24 9 5 ⟨b, o, none⟩ cap (xs.map (fun x => UInt8.ofNat x.toNat)) Try.underlying24 Try.underlying5 Try.underlying9 (fun j hj => by
      rw [List.length_map] at hj
      have hc := hB j hj
      have ea : (⟨b, o, none⟩ : Addr).add j = ⟨b, o + j, none⟩ := by unfold Addr.add; split <;> simp_all
      rw [ea, hc.1]
      have e : (xs.map (fun x => UInt8.ofNat x.toNat))[j]'(by simpa using hj) = UInt8.ofNat (xs.getD j 0).toNat := by
        simp [List.getD_eq_getElem?_getD, List.getElem?_eq_getElem hj]
      rw [e]
      have : (UInt8.ofNat (xs.getD j 0).toNat).toNat = (xs.getD j 0).toNat := by
        rw [UInt8.toNat_ofNat']
        omega
      rw [this]
      congr 2
      omega)
    rw [List.length_map] at this
    exact this
  · have : xs = [] := List.length_eq_zero_iff.1 (by omega)
    subst this
    cases A with
    | none => exact Lib.run_convert_nil_bytes (P := Try.prog) w 24 9 5 cap Try.underlying24 Try.underlying5 Try.underlying9
    | some a => exact run_convert_bytes_back (P := Try.prog) w 24 9 5 a cap [] Try.underlying24 Try.underlying5 Try.underlying9 (fun j hj => by simp at hj)

def csize (op : Int) : Nat := 1 + (if hasID op then 2 else 0) + (if hasE op then 4 else 0) + (if hasP op then 4 else 0)
def rdOp (xs : List Int) : Int := xs.getD 0 0
def rdID (xs : List Int) : Int := if hasID (rdOp xs) then num ((xs.drop 1).take 2) else 0
def rdE (xs : List Int) : Int := if hasE (rdOp xs) then num ((xs.drop 3).take 4) else 0
def rdP (xs : List Int) : Int := if hasP (rdOp xs) then num ((xs.drop 7).take 4) else 0
/-- Do bytes begin with a command. -/
def good (xs : List Int) : Bool := decide (0 < xs.length) && (isOp (rdOp xs) && decide (csize (rdOp xs) ≤ xs.length))

theorem not_isOp_flags {op : Int} (h : isOp op = false) : hasID op = false ∧ hasE op = false ∧ hasP op = false := by
  have := isOp_not h
  unfold hasID hasE hasP
  simp
  omega

theorem read_no {w : World} {A : Option Addr} {len cap : Nat} {xs : List Int} (h : Sl w A len cap xs) (hg : good xs = false) : Calls Try.prog 13 #[.slice A len cap] w (ReadPost 0 0 0 0 0 1 w) := by
  obtain ⟨rfl, hr, ht, ha, hat⟩ := h
  by_cases h0 : 0 < xs.length
  · obtain ⟨b, o, rfl, hlt, hB⟩ := hat h0
    cases h4 : isOp (rdOp xs) with
    | false =>
      obtain ⟨f1, f2, f3⟩ := not_isOp_flags h4
      exact read_bad b o cap (rdOp xs) xs w h0 ht hr hB rfl f1 f2 f3 h4
    | true =>
      have hs : xs.length < csize (rdOp xs) := by
        unfold good at hg
        simp [h4, h0] at hg
        exact hg
      have r0 := isOp_range h4
      have hc : rdOp xs = 1 ∨ rdOp xs = 2 ∨ rdOp xs = 7 ∨ rdOp xs = 8 ∨ (3 ≤ rdOp xs ∧ rdOp xs ≤ 6) := by omega
      generalize hop : rdOp xs = op at h4 hs hc r0
      rcases hc with rfl | rfl | rfl | rfl | hsm
      · exact read_short_long b o cap 1 xs w h0 (by simpa [csize, hasID, hasE, hasP] using hs) ht hr hB hop rfl rfl rfl h4
      · exact read_short_long b o cap 2 xs w h0 (by simpa [csize, hasID, hasE, hasP] using hs) ht hr hB hop rfl rfl rfl h4
      · exact read_short_back b o cap 7 xs w h0 (by simpa [csize, hasID, hasE, hasP] using hs) ht hr hB hop rfl rfl rfl h4
      · have e8 : csize 8 = 1 := rfl
        omega
      · obtain ⟨f1, f2, f3⟩ := some_flags hsm
        exact read_short_one b o cap op xs w h0 (by simpa [csize, f1, f2, f3] using hs) ht hr hB hop f1 f2 f3 h4
  · have hl : xs.length = 0 := by omega
    rw [hl]
    exact read_empty A cap w

theorem read_yes {w : World} {A : Option Addr} {len cap : Nat} {xs : List Int} (h : Sl w A len cap xs) (hg : good xs = true) :
    Calls Try.prog 13 #[.slice A len cap] w (ReadPost (rdOp xs) (rdID xs) (rdE xs) (rdP xs) (csize (rdOp xs)) 0 w) := by
  obtain ⟨rfl, hr, ht, ha, hat⟩ := h
  unfold good at hg
  simp at hg
  obtain ⟨h0, h4, hs⟩ := hg
  obtain ⟨b, o, rfl, hlt, hB⟩ := hat h0
  have r0 := isOp_range h4
  have hc : rdOp xs = 1 ∨ rdOp xs = 2 ∨ rdOp xs = 7 ∨ rdOp xs = 8 ∨ (3 ≤ rdOp xs ∧ rdOp xs ≤ 6) := by omega
  unfold rdID rdE rdP
  generalize hop : rdOp xs = op at h4 hs hc r0
  rcases hc with rfl | rfl | rfl | rfl | hsm
  · exact read_long b o cap 1 xs w (by simpa [csize, hasID, hasE, hasP] using hs) ht hr hB hop rfl rfl rfl h4
  · exact read_long b o cap 2 xs w (by simpa [csize, hasID, hasE, hasP] using hs) ht hr hB hop rfl rfl rfl h4
  · exact read_back b o cap 7 xs w (by simpa [csize, hasID, hasE, hasP] using hs) ht hr hB hop rfl rfl rfl h4
  · exact read_tick b o cap 8 xs w (by simpa [csize, hasID, hasE, hasP] using hs) ht hr hB hop rfl rfl rfl h4
  · obtain ⟨f1, f2, f3⟩ := some_flags hsm
    have := read_one b o cap op xs w (by simpa [csize, f1, f2, f3] using hs) ht hr hB hop f1 f2 f3 h4
    simpa [csize, f1, f2, f3] using this
end Go.Proofs.Ytbanlnacoidccaa
