/- Any command: its bytes, or why there are none; read, with whatever stands behind, it is the command. -/
import Derived.Test.YtbanlnacoidccaaW12
import Derived.Test.YtbanlnacoidccaaO
import Derived.Laws.AppendOwnNone
namespace Go.Proofs.Ytbanlnacoidccaa
open Go.RowKit
set_option linter.unusedSimpArgs false
set_option linter.unusedVariables false

theorem Sl.news_len {w : World} {A : Option Addr} {m c : Nat} {xs : List Int} (h : Sl w A m c xs) : (bv xs).length = m * 1 := by
  rw [← h.long]; simp [bv]
theorem Sl.news_at {w : World} {ad : Addr} {m c : Nat} {xs : List Int} (h : Sl w (some ad) m c xs) : ∀ (j : Nat) (u : Value), (bv xs)[j]? = some u → w.cell? (ad.add j) = some u := by
  intro j u hu
  have hj : j < xs.length := by
    rcases Nat.lt_or_ge j xs.length with h' | h'
    · exact h'
    · rw [List.getElem?_eq_none (by simpa [bv] using h')] at hu; cases hu
  obtain ⟨b, o, e, _, hB⟩ := h.at_ (by rw [← h.long]; omega)
  cases e
  have ea : (⟨b, o, none⟩ : Addr).add j = ⟨b, o + j, none⟩ := by unfold Addr.add; split <;> simp_all
  rw [ea, (hB j hj).1, ← hu]
  simp [bv, List.getElem?_eq_getElem hj, List.getD_eq_getElem?_getD]
theorem bv_one (xs : List Int) : ∀ u ∈ bv xs, u.oneCell' = true := by
  intro u hu
  obtain ⟨x, _, rfl⟩ := List.mem_map.1 hu
  rfl
theorem OB_empty (w : World) (base n : Nat) (hn : w.heap.size = n) (h : base ≤ n) : OB (w.alloc (.cells #[] 5)) base (.slice (some ⟨n, 0, none⟩) 0 0) [] := by
  subst hn
  exact ⟨rfl, Or.inr ⟨w.heap.size, 0, #[], rfl, h, (MapKept.heap_alloc w _).1, by simp, by decide, rfl, rfl⟩⟩
theorem OB_of_row {w : World} {base n : Nat} {v : Value} {xs ys : List Int} {k : Nat} (hn : xs.length + k = n) (hk : ys.length = k) (h : w.ownsRow base 5 1 v n (bv xs ++ bv ys)) : OB w base v (xs ++ ys) := by
  subst hn hk
  unfold OB bv
  rw [List.map_append, List.length_append]
  exact h

set_option maxHeartbeats 1600000 in
theorem commands_big (c : Cmd) (x : ByA) (hx : 100 < x.len) (w : World) :
    Calls Try.prog 3 #[c.V, x.V] w fun e w' => e = .returned (.bool true) ∧ Below w.heap.size w w' := by
  obtain ⟨op, id, e, p⟩ := c
  obtain ⟨a, len, cap, xs⟩ := x
  have hx' : 100 < len := hx
  have hd : decide ((100 : Int) < len) = true := by simp; omega
  have hd' : decide (100 < len) = true := by simp; omega
  have hi : (100 : Int) < len := by omega
  unfold Cmd.V ByA.V
  go_enter Try.func3, Try.ntmps3
  go_wp2_with fail
  refine (awake_any _).mono ?_
  rintro en w1 ⟨rfl, hb1⟩
  have hb10 := ((Below.refl w.heap.size w).alloc (Nat.le_refl _) _).trans (hb1.mono (by simp))
  clear hb1
  go_wp2_with fail
  go_returns
  exact ⟨rfl, hb10⟩

set_option maxHeartbeats 1600000 in
theorem commands_no (c : Cmd) (x : ByA) (hx : x.len ≤ 100) (hv : valid c.op c.id c.e c.p = false) (w : World) :
    Calls Try.prog 3 #[c.V, x.V] w fun e w' => e = .returned (.bool true) ∧ Below w.heap.size w w' := by
  have HV := Lib.hid hv
  clear hv
  obtain ⟨op, id, e, p⟩ := c
  obtain ⟨a, len, cap, xs⟩ := x
  have hx' : len ≤ 100 := hx
  have hd : decide ((100 : Int) < len) = false := by simp; omega
  have hd' : decide (100 < len) = false := by simp; omega
  have hi : (len : Int) ≤ 100 := by omega
  unfold Cmd.V ByA.V
  go_enter Try.func3, Try.ntmps3
  go_wp2_with fail
  refine (awake_any _).mono ?_
  rintro en w1 ⟨rfl, hb1⟩
  have x0 := cells_of_box (hb1.mono (by simp)) 0 (.int .i64 op) rfl
  have x1 := cells_of_box (hb1.mono (by simp)) 1 (.int .i64 id) rfl
  have x2 := cells_of_box (hb1.mono (by simp)) 2 (.int .i64 e) rfl
  have x3 := cells_of_box (hb1.mono (by simp)) 3 (.int .i64 p) rfl
  have hb10 := ((Below.refl w.heap.size w).alloc (Nat.le_refl _) _).trans (hb1.mono (by simp))
  have hlt : w.heap.size < w1.heap.size := by have := hb1.size; simp at this; omega
  clear hb1
  go_wp2_with fail
  refine (bytes_no op id e p _ HV.out).mono ?_
  rintro en w2 ⟨v, rfl, hO, hb2⟩
  obtain ⟨A, ca, rfl, hS⟩ := hO.sl allB_nil
  replace x0 := (hb2.cell (p := ⟨w.heap.size, 0, none⟩) hlt).trans x0
  replace x1 := (hb2.cell (p := ⟨w.heap.size, 1, none⟩) hlt).trans x1
  replace x2 := (hb2.cell (p := ⟨w.heap.size, 2, none⟩) hlt).trans x2
  replace x3 := (hb2.cell (p := ⟨w.heap.size, 3, none⟩) hlt).trans x3
  have hb20 := hb10.trans (hb2.mono hb10.size)
  clear hb2 hb10 hO
  go_wp2_with fail
  refine (law_no op id e p _ HV.out).mono ?_
  rintro en w3 ⟨u, rfl, hO, hb3⟩
  obtain ⟨B, cb, rfl, hT⟩ := hO.sl allB_nil
  have cA : (convert 24 9 (.slice A 0 ca)).run Try.prog w3 = .ok (.string (strOf [])) w3 := conv_sl (hS.below hb3)
  have cB : (convert 24 9 (.slice B 0 cb)).run Try.prog w3 = .ok (.string (strOf [])) w3 := conv_sl hT
  have hb30 := hb20.trans (hb3.mono hb20.size)
  clear hb3 hO hS hT x0 x1 x2 x3
  have el : ([] : List Int).length = 0 := rfl
  rw [el]
  generalize strOf [] = S at cA cB
  go_wp2_with fail
  go_returns
  exact ⟨rfl, hb30⟩

theorem enc_len_le (op id e p : Int) : (enc op id e p).length ≤ 11 := by rw [enc_len]; exact csize_le op

set_option maxHeartbeats 3200000 in
theorem commands_yes (c : Cmd) (x : ByA) (hx : x.len ≤ 100) (hv : valid c.op c.id c.e c.p = true) (w : World) (hX : Sl w x.a x.len x.cap x.xs) (hn : x.a = none → x.cap = 0) :
    Calls Try.prog 3 #[c.V, x.V] w fun e w' => e = .returned (.bool true) ∧ Below w.heap.size w w' := by
  have HV := Lib.hid hv
  have HA := Lib.hid (@enc_allB _ c.id c.e c.p (valid_parts hv).1)
  have hE := eqC
  clear hv
  obtain ⟨i0, hi, hz0, hz1, hz2⟩ := info_parts info5
  obtain ⟨op, id, e, p⟩ := c
  obtain ⟨a, len, cap, zs⟩ := x
  have hx' : len ≤ 100 := hx
  clear hx
  have hX' : Sl w a len cap zs := hX
  have hn' : a = none → cap = 0 := hn
  clear hX hn
  have hd : decide ((100 : Int) < len) = false := by simp; omega
  have hd' : decide (100 < len) = false := by simp; omega
  have hi' : (len : Int) ≤ 100 := by omega
  unfold Cmd.V ByA.V
  go_enter Try.func3, Try.ntmps3
  go_wp2_with fail
  refine (awake_any _).mono ?_
  rintro en w1 ⟨rfl, hb1⟩
  have x0 := cells_of_box (hb1.mono (by simp)) 0 (.int .i64 op) rfl
  have x1 := cells_of_box (hb1.mono (by simp)) 1 (.int .i64 id) rfl
  have x2 := cells_of_box (hb1.mono (by simp)) 2 (.int .i64 e) rfl
  have x3 := cells_of_box (hb1.mono (by simp)) 3 (.int .i64 p) rfl
  have hb10 := ((Below.refl w.heap.size w).alloc (Nat.le_refl _) _).trans (hb1.mono (by simp))
  have hlt : w.heap.size < w1.heap.size := by have := hb1.size; simp at this; omega
  clear hb1
  go_wp2_with fail
  refine (bytes_yes op id e p _ HV.out).mono ?_
  rintro en w2 ⟨v, rfl, hO, hb2⟩
  obtain ⟨A, ca, rfl, hS⟩ := hO.sl HA.out
  replace x0 := (hb2.cell (p := ⟨w.heap.size, 0, none⟩) hlt).trans x0
  replace x1 := (hb2.cell (p := ⟨w.heap.size, 1, none⟩) hlt).trans x1
  replace x2 := (hb2.cell (p := ⟨w.heap.size, 2, none⟩) hlt).trans x2
  replace x3 := (hb2.cell (p := ⟨w.heap.size, 3, none⟩) hlt).trans x3
  have hb20 := hb10.trans (hb2.mono hb10.size)
  have hlt2 := Nat.lt_of_lt_of_le hlt hb2.size
  clear hb2 hb10 hO hlt
  go_wp2_with fail
  refine (law_yes op id e p _ HV.out).mono ?_
  rintro en w3 ⟨u, rfl, hO, hb3⟩
  obtain ⟨B, cb, rfl, hT⟩ := hO.sl HA.out
  have hS3 := hS.below hb3
  replace x0 := (hb3.cell (p := ⟨w.heap.size, 0, none⟩) hlt2).trans x0
  replace x1 := (hb3.cell (p := ⟨w.heap.size, 1, none⟩) hlt2).trans x1
  replace x2 := (hb3.cell (p := ⟨w.heap.size, 2, none⟩) hlt2).trans x2
  replace x3 := (hb3.cell (p := ⟨w.heap.size, 3, none⟩) hlt2).trans x3
  have hlt3 := Nat.lt_of_lt_of_le hlt2 hb3.size
  have hb30 := hb20.trans (hb3.mono hb20.size)
  clear hb3 hO hS hb20 hlt2
  have cA := conv_sl hS3
  have cB := conv_sl hT
  have F0 := read_enc HV.out zs
  have F2 : Hid ((enc op id e p).length = csize op) := enc_len
  have F3 := Lib.hid F0
  have F4 := enc_len_le op id e p
  clear F0 hT
  generalize enc op id e p = xs at hS3 HA F2 F3 F4 cA cB ⊢
  generalize strOf xs = S at cA cB
  obtain ⟨N, hN⟩ : ∃ N, xs.length = N := ⟨_, rfl⟩
  rw [hN] at hS3 cA cB F4 ⊢
  have HN := Lib.hid hN
  clear hN
  have hN0 : 0 < N := by
    have := HN.out
    have := F2.out
    have : 1 ≤ csize op := by unfold csize; omega
    omega
  obtain ⟨b, o, rfl, hbl, _⟩ := hS3.at_ hN0
  have hX3 := hX'.below hb30
  clear hX'
  go_wp2_with (at_builtin; refine wpList_append_own _ rfl _ _ 24 rfl w3.heap.size 5 i0 _ 1 1 Try.underlying24 hi hz0 hz1 hz2 rfl (by decide) _ _ _ rfl (OB_empty w3 _ _ rfl (Nat.le_refl _)) ⟨b, o, none⟩ N ca (bv xs) rfl ?c0 ?c1 ?c2 ?c3 ?c4 ?c5 ?_)
  case c0 => exact hS3.news_len
  case c1 => exact (hS3.below ((Below.refl _ _).alloc (Nat.le_refl _) _)).news_at
  case c2 => exact bv_one xs
  case c3 => unfold maxLen; simp; omega
  case c4 => simp; omega
  case c5 => simp
  intro v' w4 hown4 hgrow _
  have HB4 : Below w3.heap.size w3 w4 := ((Below.refl _ _).alloc (Nat.le_refl _) _).grown hgrow (by simp) (fun j hj => by simp [Value.ownBlock] at hj; omega)
  have hO4 : OB w4 w3.heap.size v' xs := OB_of_row (xs := []) (k := N) (by simp) HN.out hown4
  clear hgrow hown4
  have HZ : AllB zs := hX3.all
  have hzl : zs.length = len := hX3.long
  have go_on : ∀ (v2 : Value) (w5 : World), OB w5 w3.heap.size v2 (xs ++ zs) → Below w3.heap.size w3 w5 → ∃ D cd, v2 = .slice D (N + len) cd ∧ Sl w5 D (N + len) cd (xs ++ zs) := fun v2 w5 hO hb => by
    obtain ⟨D, cd, e, hs⟩ := hO.sl (allB_append HA.out HZ)
    rw [List.length_append, HN.out, hzl] at e hs
    exact ⟨D, cd, e, hs⟩
  have HG := Lib.hid go_on
  clear go_on hzl
  cases a with
  | none =>
    have hl0 : len = 0 := by
      rcases Nat.eq_zero_or_pos len with h | h
      · exact h
      · obtain ⟨_, _, e, _⟩ := hX3.at_ h; cases e
    have hz : zs = [] := List.length_eq_zero_iff.1 (by rw [hX3.long, hl0])
    have hc0 := hn' rfl
    subst hc0 hl0 hz
    clear hn'
    go_wp2_with (at_builtin; refine wpList_append_own_none rfl _ _ 24 rfl w3.heap.size 5 i0 1 Try.underlying24 hi _ _ _ rfl hO4 rfl ?_)
    obtain ⟨D, cd, rfl, hD⟩ := HG.out v' w4 (by rw [List.append_nil]; exact hO4) HB4
    have HB5 := HB4
    generalize w4 = w5 at *
    clear hO4 HB4
    clear HG
    have hNi : (N : Int) = N := rfl
    go_wp2_with fail
    refine (read_e op id e p N hD F3.out.1 F3.out.2.1 F3.out.2.2.1 F3.out.2.2.2.1 F3.out.2.2.2.2 (by rw [F3.out.2.1, ← F2.out, HN.out])).mono ?_
    rintro en w6 ⟨rfl, hb6⟩
    have HB6 : Below w3.heap.size w3 w6 := HB5.trans (hb6.mono HB5.size)
    replace x0 := (HB6.cell (p := ⟨w.heap.size, 0, none⟩) hlt3).trans x0
    replace x1 := (HB6.cell (p := ⟨w.heap.size, 1, none⟩) hlt3).trans x1
    replace x2 := (HB6.cell (p := ⟨w.heap.size, 2, none⟩) hlt3).trans x2
    replace x3 := (HB6.cell (p := ⟨w.heap.size, 3, none⟩) hlt3).trans x3
    have hlt6 := Nat.lt_of_lt_of_le hlt3 HB6.size
    have hb60 := hb30.trans (HB6.mono hb30.size)
    clear hb6 HB5 HB6 hD
    go_wp2_with fail
    go_returns
    exact ⟨rfl, hb60.alloc hb60.size _⟩
  | some ad =>
    clear hn'
    have e11 : xs.length ≤ 11 := by rw [HN.out]; exact F4
    go_wp2_with (at_builtin; refine wpList_append_own _ rfl _ _ 24 rfl w3.heap.size 5 i0 _ 1 1 Try.underlying24 hi hz0 hz1 hz2 rfl (by decide) _ _ _ rfl hO4 ad len cap (bv zs) rfl ?c0 ?c1 ?c2 ?c3 ?c4 ?c5 ?_)
    case c0 => exact hX3.news_len
    case c1 => exact (hX3.below HB4).news_at
    case c2 => exact bv_one zs
    case c3 => unfold maxLen; omega
    case c4 => omega
    case c5 => exact HB4.size
    intro v2 w5 hown5 hgrow _
    have HB5 : Below w3.heap.size w3 w5 := HB4.grown hgrow HB4.size (fun j hj => ownBlock_ge hO4 hj)
    obtain ⟨D, cd, rfl, hD⟩ := HG.out v2 w5 (OB_of_row rfl hX3.long hown5) HB5
    clear hgrow hown5 HB4
    clear HG
    have hNi : (N : Int) = N := rfl
    go_wp2_with fail
    refine (read_e op id e p N hD F3.out.1 F3.out.2.1 F3.out.2.2.1 F3.out.2.2.2.1 F3.out.2.2.2.2 (by rw [F3.out.2.1, ← F2.out, HN.out])).mono ?_
    rintro en w6 ⟨rfl, hb6⟩
    have HB6 : Below w3.heap.size w3 w6 := HB5.trans (hb6.mono HB5.size)
    replace x0 := (HB6.cell (p := ⟨w.heap.size, 0, none⟩) hlt3).trans x0
    replace x1 := (HB6.cell (p := ⟨w.heap.size, 1, none⟩) hlt3).trans x1
    replace x2 := (HB6.cell (p := ⟨w.heap.size, 2, none⟩) hlt3).trans x2
    replace x3 := (HB6.cell (p := ⟨w.heap.size, 3, none⟩) hlt3).trans x3
    have hlt6 := Nat.lt_of_lt_of_le hlt3 HB6.size
    have hb60 := hb30.trans (HB6.mono hb30.size)
    clear hb6 HB5 HB6 hD
    go_wp2_with fail
    go_returns
    exact ⟨rfl, hb60.alloc hb60.size _⟩

open Go.ChangeShapes Go.WideShapes Go.ChangeAt Go.Deep in
theorem open24n {H : Type} {enc : TypeId × Value → H} {w : World} {r : Reach} {b0 base : Nat} {spare : Nat → Bool} {held : Bool} {v : Value} {d : DataW H} {ps : List MemPlace}
    (hval : Value.okWide Try.prog w r b0 24 v) (h : DataW.Trod enc Try.prog w base spare held 24 v d ps) : ∃ x : ByA, v = x.V ∧ (Sl w x.a x.len x.cap x.xs ∧ (x.a = none → x.cap = 0)) := by
  obtain ⟨x, rfl, hs⟩ := open24 hval h
  refine ⟨x, rfl, hs, ?_⟩
  obtain ⟨fuel, hf⟩ := h
  rcases open_slice Try.underlying24 hf with ⟨hcs, hx⟩ | ⟨a, len, cap, m, n, D, Pl, hcs, hb, hl, hm, hmm, hx, hel⟩
  · simp [ByA.V, Value.cells] at hcs
    exact fun _ => hcs.2.2
  · simp [ByA.V, Value.cells] at hcs
    intro e
    rw [hcs.1] at e
    cases e

theorem commands_law (c : Cmd) (x : ByA) (w : World) (h : Sl w x.a x.len x.cap x.xs ∧ (x.a = none → x.cap = 0)) :
    Calls Try.prog 3 #[c.V, x.V] w fun e w' => e = .returned (.bool true) ∧ Below w.heap.size w w' := by
  by_cases hx : x.len ≤ 100
  · cases hv : valid c.op c.id c.e c.p with
    | false => exact commands_no c x hx hv w
    | true => exact commands_yes c x hx hv w h.1 h.2
  · exact commands_big c x (by omega) w
end Go.Proofs.Ytbanlnacoidccaa
