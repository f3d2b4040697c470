/- A reply's bytes: the program's. -/
import Derived.Test.YtbanlnacoidccaaW16
namespace Go.Proofs.Ytbanlnacoidccaa
open Go.RowKit
set_option linter.unusedSimpArgs false
set_option linter.unusedVariables false

def Pc.zero : Pc := ⟨0, 0, 0, 0, 0, 0, 0, false⟩
def Pc.cells (p : Pc) : List Value := [.int .i64 p.eng, .int .i64 p.core, .int .i64 p.id, .int .i64 p.fn, .int .i64 p.fd, .int .i64 p.tn, .int .i64 p.td, .bool p.sl]

/-- A slice that reads as the pieces ps. -/
structure Rw (w : World) (A : Option Addr) (len cap : Nat) (ps : List Pc) : Prop where
  long : ps.length = len
  room : len ≤ cap
  top : cap ≤ 9223372036854775807
  at_ : 0 < len → ∃ b o, A = some ⟨b, o, none⟩ ∧ b < w.heap.size ∧ ∀ k, k < len → ∀ j u, (ps.getD k Pc.zero).cells[j]? = some u → w.cell? ⟨b, o + k * 8 + j, none⟩ = some u

theorem Rw.below {w w' : World} {A : Option Addr} {len cap : Nat} {ps : List Pc} (h : Rw w A len cap ps) (hb : Below w.heap.size w w') : Rw w' A len cap ps :=
  ⟨h.long, h.room, h.top, fun h0 => by
    obtain ⟨b, o, e, hlt, hc⟩ := h.at_ h0
    exact ⟨b, o, e, Nat.lt_of_lt_of_le hlt hb.size, fun k hk j u hu => by
      rw [hb.cell (p := ⟨b, o + k * 8 + j, none⟩) hlt]
      exact hc k hk j u hu⟩⟩

/-- A reply's bytes. -/
def encH (err clock : Int) (n : Nat) : List Int := [err % 256] ++ be (u64 clock) 4 ++ be n 2
def encR (err clock : Int) (ps : List Pc) : List Int := encH err clock ps.length ++ ps.flatMap encP

theorem flat_len (ps : List Pc) : (ps.flatMap encP).length = ps.length * 37 := by
  induction ps with
  | nil => rfl
  | cons p ps ih => simp [ih, encP_len]; omega

theorem take_flat (ps : List Pc) (k : Nat) (hk : k < ps.length) : (ps.take k).flatMap encP ++ encP (ps.getD k Pc.zero) = (ps.take (k + 1)).flatMap encP := by
  rw [List.take_succ_eq_append_getElem hk, List.flatMap_append]
  simp [List.getD_eq_getElem?_getD, List.getElem?_eq_getElem hk]

set_option maxHeartbeats 3200000 in
theorem reply14 (err clock : Int) (A : Option Addr) (n cap : Nat) (ps : List Pc) (w : World) (hR : Rw w A n cap ps) (hn : n ≤ 1000) :
    Calls Try.prog 14 #[.agg #[.int .i64 err, .int .i64 clock, .slice A n cap]] w fun e w' => ∃ v, e = .returned v ∧ OB w' w.heap.size v (encR err clock ps) ∧ Below w.heap.size w w' := by
  go_enter Try.func14, Try.ntmps14
  have u1 := u64_range clock
  go_wp2_with fail
  refine (put20 (w.heap.size + 1) _ [err % 256] (u64 clock) 4 _ u1.1 u1.2 (by omega) (by simp) (OB_one _ _ (w.heap.size + 1) _ (by simp) (by omega)) (by simp)).mono ?_
  rintro en w1 ⟨v1, rfl, hO1, hb1⟩
  have hB1 := ((Below.refl _ (w.alloc (.cells #[.int .i64 err, .int .i64 clock, .slice A n cap] 40))).alloc (by simp) (.cells #[.int .u8 (err % 256)] 5)).trans hb1
  have x0 := cells_of_box hB1 0 _ rfl
  have x1 := cells_of_box hB1 1 _ rfl
  have x2 := cells_of_box hB1 2 (.slice A n cap) rfl
  have hs1 : w.heap.size + 1 ≤ w1.heap.size := by have := hB1.size; simp at this; omega
  clear hb1 u1
  go_wp2_with fail
  refine (put20 (w.heap.size + 1) _ ([err % 256] ++ be (u64 clock) 4) n 2 _ (by omega) (by omega) (by omega) (by simp [be_len]) hO1 hs1).mono ?_
  rintro en w2 ⟨v2, rfl, hO2, hb2⟩
  have hB2 := hB1.trans hb2
  clear x0 x1 x2 hO1 hb2 hs1 hB1
  have x2 := cells_of_box hB2 2 (.slice A n cap) rfl
  have hO3 : OB w2 (w.heap.size + 1) v2 (encH err clock n) := hO2
  clear hO2
  have hbw : Below w.heap.size w w2 := ((Below.refl _ w).alloc (Nat.le_refl _) (.cells #[.int .i64 err, .int .i64 clock, .slice A n cap] 40)).trans (hB2.mono (by omega))
  have HR := Lib.hid hR
  have hs2 : w.heap.size + 1 ≤ w2.heap.size := by have := hB2.size; simp at this; omega
  have hlH : (encH err clock n).length = 7 := by simp [encH, be_len]
  have hroom := hR.room
  have htop := hR.top
  have HL := Lib.hid hR.long
  obtain ⟨hd, hhd⟩ : ∃ hd, encH err clock n = hd := ⟨_, rfl⟩
  rw [hhd] at hO3 hlH
  have HD := Lib.hid hhd
  clear hhd
  clear hR hB2
  go_wp2_with fail
  go_loopw [3, 23] (fun v i wr => ∃ k : Nat, k ≤ n ∧ i = .int .i64 k ∧ OB wr (w.heap.size + 1) v (hd ++ (ps.take k).flatMap encP) ∧ Below (w.heap.size + 1) w2 wr) (fun _ i _ => n - (intOf i).toNat)
  case atStart => exact ⟨0, by omega, rfl, by simpa using hO3, Below.refl _ _⟩
  case round =>
    obtain ⟨k, hk, rfl, hO, hB⟩ := hrel
    have hwr := hbw.trans (hB.mono (by omega))
    have hsz := hB.size
    by_cases hlt : k < n
    · have hR3 := HR.out.below hwr
      obtain ⟨b, o, rfl, hbl, hc⟩ := hR3.at_ (by omega)
      have hcc := hc k hlt
      have HT := Lib.hid (take_flat ps k (by rw [HL.out]; exact hlt))
      have hll : (hd ++ (ps.take k).flatMap encP).length ≤ 100000 := by
        rw [List.length_append, hlH, flat_len, List.length_take]; omega
      clear hc hR3 hO3
      generalize (ps.take k).flatMap encP = L at hO HT hll
      generalize ps.getD k Pc.zero = p at hcc HT
      obtain ⟨p0, p1, p2, p3, p4, p5, p6, p7⟩ := p
      have y0 := hcc 0 _ rfl
      have y1 := hcc 1 _ rfl
      have y2 := hcc 2 _ rfl
      have y3 := hcc 3 _ rfl
      have y4 := hcc 4 _ rfl
      have y5 := hcc 5 _ rfl
      have y6 := hcc 6 _ rfl
      have y7 := hcc 7 _ rfl
      rw [Nat.add_zero] at y0
      clear hcc
      have hd1 : decide ((k : Int) < n) = true := by simp; omega
      have hd2 : decide (k < n) = true := by simp; omega
      have hki : (k : Int) < n := by omega
      go_wp2_with fail
      have hOa := hO.below ((Below.refl wr.heap.size wr).alloc (Nat.le_refl _) (.cells #[.int .i64 p0, .int .i64 p1, .int .i64 p2, .int .i64 p3, .int .i64 p4, .int .i64 p5, .int .i64 p6, .bool p7] 48))
      refine (piece24 (w.heap.size + 1) _ _ ⟨p0, p1, p2, p3, p4, p5, p6, p7⟩ _ (by omega) hOa (by simp; omega)).mono ?_
      rintro en w3 ⟨v3, rfl, hO4, G⟩
      have hB3 : Below (w.heap.size + 1) w2 w3 := (hB.alloc (by omega) _).trans (G.below hOa (by simp; omega))
      clear G hOa hO y0 y1 y2 y3 y4 y5 y6 y7
      go_wp2_with fail
      go_roundw
      case rel => exact ⟨k + 1, by omega, by go_num, by rw [← HT.out, ← List.append_assoc]; exact hO4, hB3⟩
      case measure => simp [intOf]; omega
    · have hkn : k = n := by omega
      have hd1 : decide ((k : Int) < n) = false := by simp; omega
      have hd2 : decide (k < n) = false := by simp; omega
      have hki : (n : Int) ≤ k := by omega
      have HK := Lib.hid hkn
      clear hkn hO3
      go_wp2_with fail
      go_returns
      refine ⟨u3, rfl, ?_, hwr⟩
      have e : ps.take k = ps := by rw [HK.out, ← HL.out, List.take_length]
      rw [e] at hO
      have := hO.mono (Nat.le_succ w.heap.size)
      unfold encR
      rw [HL.out, HD.out]
      exact this
end Go.Proofs.Ytbanlnacoidccaa
