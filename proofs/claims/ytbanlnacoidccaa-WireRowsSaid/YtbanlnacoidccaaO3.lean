/- Bytes behind bytes of the call's own; a row of pieces of the call's own, read. -/
import Derived.Test.YtbanlnacoidccaaO2
namespace Go.Proofs.Ytbanlnacoidccaa
open Go.RowKit
set_option linter.unusedSimpArgs false
set_option linter.unusedVariables false

theorem wpList_append_sl {w : World} {ops : Array Oper} {rest : List Oper} {oo : Oper} {act : Act} {Q : Exit → Act → World → Prop} (hgd : oo.guard = none) (s x : Operand)
    (ho : oo.op = .call { callee := .builtin .append, args := #[s, x], argTypes := #[24, 24] }) (base : Nat) (v : Value) (xs : List Int) (hs : act.eval s = v) (hO : OB w base v xs)
    (A : Option Addr) (len ca : Nat) (zs : List Int) (hx : act.eval x = .slice A len ca) (hX : Sl w A len ca zs) (hn : A = none → ca = 0) (hl : xs.length + len ≤ 1000000000) (hbase : base ≤ w.heap.size)
    (h : ∀ v' w', OB w' base v' (xs ++ zs) → Below base w w' → wpList Try.prog ops Q rest (act.put oo.dst v') w') : wpList Try.prog ops Q (oo :: rest) act w := by
  obtain ⟨i0, hi, hz0, hz1, hz2⟩ := info_parts info5
  cases A with
  | none =>
    have hl0 : len = 0 := by
      rcases Nat.eq_zero_or_pos len with h | h
      · exact h
      · obtain ⟨_, _, e, _⟩ := hX.at_ h; cases e
    have hz : zs = [] := List.length_eq_zero_iff.1 (by rw [hX.long, hl0])
    have hc0 := hn rfl
    subst hc0 hl0 hz
    refine wpList_append_own_none hgd s x 24 ho base 5 i0 1 Try.underlying24 hi v _ _ hs hO hx ?_
    exact h v w (by rw [List.append_nil]; exact hO) (Below.refl _ _)
  | some ad =>
    refine wpList_append_own _ hgd s x 24 ho base 5 i0 _ 1 1 Try.underlying24 hi hz0 hz1 hz2 rfl (by decide) v _ _ hs hO ad len ca (bv zs) hx hX.news_len hX.news_at (bv_one zs) (by unfold maxLen; exact Nat.le_trans hl (by decide)) (by omega) hbase ?_
    intro v2 w5 hown5 hgrow _
    exact h v2 w5 (OB_of_row rfl hX.long hown5) ((Below.refl base w).grown hgrow hbase (fun j hj => ownBlock_ge hO hj))

theorem flat_cell (ps : List Pc) (k j : Nat) (hk : k < ps.length) (hj : j < 8) : (ps.flatMap Pc.cells)[k * 8 + j]? = (ps.getD k Pc.zero).cells[j]? := by
  induction ps generalizing k with
  | nil => simp at hk
  | cons p ps ih =>
    rw [List.flatMap_cons]
    cases k with
    | zero =>
      rw [List.getElem?_append_left (by simp [Pc.cells]; omega)]
      simp
    | succ k =>
      have hl : p.cells.length = 8 := rfl
      rw [List.getElem?_append_right (by omega), hl, show (k + 1) * 8 + j - 8 = k * 8 + j by omega, ih k (by simpa using hk)]
      simp

theorem OP.read {w : World} {base : Nat} {v : Value} {ps : List Pc} (h : OP w base v ps) : ∃ A c, v = .slice A ps.length c ∧ Rw w A ps.length c ps := by
  rcases h.2 with ⟨e, hl⟩ | ⟨g, cap, cur, e, hg, hh, hn, hc, hsz, htk⟩
  · exact ⟨none, 0, by rw [hl]; exact e, rfl, by omega, by omega, fun h0 => by omega⟩
  · refine ⟨some ⟨g, 0, none⟩, cap, e, rfl, hn, by unfold maxLen at hc; omega, fun h0 => ⟨g, 0, rfl, lt_of_block hh, fun k hk j u hu => ?_⟩⟩
    have hj : j < 8 := by
      rcases Nat.lt_or_ge j 8 with h' | h'
      · exact h'
      · rw [List.getElem?_eq_none (by simpa [Pc.cells] using h')] at hu; cases hu
    have e1 : w.cell? ⟨g, 0 + k * 8 + j, none⟩ = cur[k * 8 + j]? := by
      rw [Nat.zero_add]
      unfold World.cell?
      simp only [hh]
      rfl
    have e2 : (cur.toList.take (ps.length * 8))[k * 8 + j]? = (ps.flatMap Pc.cells)[k * 8 + j]? := by rw [htk]
    rw [List.getElem?_take_of_lt (by omega), Array.getElem?_toList] at e2
    rw [e1, e2, flat_cell ps k j hk hj, hu]
end Go.Proofs.Ytbanlnacoidccaa
