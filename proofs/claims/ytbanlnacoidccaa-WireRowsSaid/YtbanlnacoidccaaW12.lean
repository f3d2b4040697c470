/- Two commands: their bytes are the same just if they are one. -/
import Derived.Test.YtbanlnacoidccaaW11
namespace Go.Proofs.Ytbanlnacoidccaa
open Go.RowKit
set_option linter.unusedSimpArgs false
set_option linter.unusedVariables false

theorem strOf_list (xs : List Int) : (strOf xs).toList = xs.map (fun x => UInt8.ofNat x.toNat) := ByteArray.toList_mk _

theorem strOf_inj {xs ys : List Int} (hx : AllB xs) (hy : AllB ys) (h1 : xs.map (fun x => UInt8.ofNat x.toNat) = ys.map (fun x => UInt8.ofNat x.toNat)) : xs = ys := by
  have hl : xs.length = ys.length := by simpa using congrArg List.length h1
  refine List.ext_getElem hl fun i h2 h3 => ?_
  have e := congrArg (fun l => l[i]?) h1
  simp only [List.getElem?_map, List.getElem?_eq_getElem h2, List.getElem?_eq_getElem h3, Option.map_some, Option.some.injEq] at e
  have gx := hx i h2
  have gy := hy i h3
  simp only [List.getD_eq_getElem?_getD, List.getElem?_eq_getElem h2, Option.getD_some] at gx
  simp only [List.getD_eq_getElem?_getD, List.getElem?_eq_getElem h3, Option.getD_some] at gy
  have e2 := congrArg UInt8.toNat e
  rw [UInt8.toNat_ofNat', UInt8.toNat_ofNat'] at e2
  omega

theorem enc_inj {a b : Cmd} (ha : valid a.op a.id a.e a.p = true) (hb : valid b.op b.id b.e b.p = true) (h : enc a.op a.id a.e a.p = enc b.op b.id b.e b.p) : a = b := by
  obtain ⟨_, e1, e2, e3, e4⟩ := read_enc ha []
  obtain ⟨_, f1, f2, f3, f4⟩ := read_enc hb []
  rw [h] at e1 e2 e3 e4
  cases a; cases b
  simp_all

theorem neC {a b : Cmd} (h : a ≠ b) (w : World) : (Op.equalIn 10000 23 a.V b.V).run Try.prog w = .ok false w := by
  unfold Cmd.V
  rw [run_equalIn_struct w 9999 23 _ _ (by kernel_rfl) (by kernel_rfl)]
  obtain ⟨a0, a1, a2, a3⟩ := a
  obtain ⟨b0, b1, b2, b3⟩ := b
  simp [go_sem, Try.underlying23]
  by_cases h0 : a0 = b0
  · by_cases h1 : a1 = b1
    · by_cases h2 : a2 = b2
      · by_cases h3 : a3 = b3
        · subst h0 h1 h2 h3; exact absurd rfl h
        · simp [h0, h1, h2, h3]
      · simp [h0, h1, h2]
    · simp [h0, h1]
  · simp [h0]

theorem below_drewN {B : Nat} {a w : World} (h : Below B a w) (q : Nat) : Below B a (w.drewN q) := ⟨h.os, h.tape, h.output, h.size, h.block⟩

theorem str_ne {xs ys : List Int} (hx : AllB xs) (hy : AllB ys) (h : xs ≠ ys) : ((strOf xs).toList == (strOf ys).toList) = false := by
  rw [beq_eq_false_iff_ne]
  intro e
  rw [strOf_list, strOf_list] at e
  exact h (strOf_inj hx hy e)

theorem boxes {w w1 : World} {a0 a1 a2 a3 b0 b1 b2 b3 : Value} (hb : Below (w.heap.size + 2) ((w.alloc (.cells #[a0, a1, a2, a3] 23)).alloc (.cells #[b0, b1, b2, b3] 23)) w1) :
    w1.cell? ⟨w.heap.size, 0, none⟩ = some a0 ∧ w1.cell? ⟨w.heap.size, 1, none⟩ = some a1 ∧ w1.cell? ⟨w.heap.size, 2, none⟩ = some a2 ∧ w1.cell? ⟨w.heap.size, 3, none⟩ = some a3 ∧
    w1.cell? ⟨w.heap.size + 1, 0, none⟩ = some b0 ∧ w1.cell? ⟨w.heap.size + 1, 1, none⟩ = some b1 ∧ w1.cell? ⟨w.heap.size + 1, 2, none⟩ = some b2 ∧ w1.cell? ⟨w.heap.size + 1, 3, none⟩ = some b3 ∧
    w.heap.size + 2 ≤ w1.heap.size ∧ Below w.heap.size w w1 := by
  have c0 : ∀ (j : Nat) (v : Value), (#[a0, a1, a2, a3] : Array Value)[j]? = some v → w1.cell? ⟨w.heap.size, j, none⟩ = some v := fun j v h => by
    rw [hb.cell (p := ⟨w.heap.size, j, none⟩) (by simp; try omega), World.cell?_alloc_lt _ _ _ (by simp), cell_alloc_new, h]
  have c1 : ∀ (j : Nat) (v : Value), (#[b0, b1, b2, b3] : Array Value)[j]? = some v → w1.cell? ⟨w.heap.size + 1, j, none⟩ = some v := fun j v h => by
    have e := cell_alloc_new (w.alloc (.cells #[a0, a1, a2, a3] 23)) #[b0, b1, b2, b3] 23 j
    have e1 : (w.alloc (.cells #[a0, a1, a2, a3] 23)).heap.size = w.heap.size + 1 := by simp
    rw [e1] at e
    rw [hb.cell (p := ⟨w.heap.size + 1, j, none⟩) (by simp), e, h]
  refine ⟨c0 0 _ rfl, c0 1 _ rfl, c0 2 _ rfl, c0 3 _ rfl, c1 0 _ rfl, c1 1 _ rfl, c1 2 _ rfl, c1 3 _ rfl, ?_, ?_⟩
  · have := hb.size; simp at this; omega
  · have h1 := ((Below.refl w.heap.size w).alloc (Nat.le_refl _) (.cells #[a0, a1, a2, a3] 23))
    exact (h1.alloc (h1.size) _).trans (hb.mono (by omega))

set_option maxHeartbeats 1600000 in
theorem apart_no (a b : Cmd) (hv : valid a.op a.id a.e a.p = false) (w : World) :
    Calls Try.prog 6 #[a.V, b.V] w fun e w' => e = .returned (.bool true) ∧ Below w.heap.size w w' := by
  have HV := Lib.hid hv
  clear hv

  obtain ⟨a0, a1, a2, a3⟩ := a
  obtain ⟨b0, b1, b2, b3⟩ := b
  unfold Cmd.V at *
  go_enter Try.func6, Try.ntmps6
  go_wp2_with fail
  refine (awake_any _).mono ?_
  rintro en w1 ⟨rfl, hb1⟩
  have hb1' := hb1.mono (Nat.le_of_eq (by simp : w.heap.size + 2 = _))
  obtain ⟨x0, x1, x2, x3, y0, y1, y2, y3, hs2, hb10⟩ := boxes hb1'
  clear hb1 hb1'
  go_wp2_with fail
  refine (bytes_no a0 a1 a2 a3 _ HV.out).mono ?_
  rintro en w2 ⟨v, rfl, hO, hb2⟩
  obtain ⟨A, cap, rfl, hS⟩ := hO.sl allB_nil
  replace y0 := (hb2.cell (p := ⟨w.heap.size + 1, 0, none⟩) (by simp; omega)).trans y0
  replace y1 := (hb2.cell (p := ⟨w.heap.size + 1, 1, none⟩) (by simp; omega)).trans y1
  replace y2 := (hb2.cell (p := ⟨w.heap.size + 1, 2, none⟩) (by simp; omega)).trans y2
  replace y3 := (hb2.cell (p := ⟨w.heap.size + 1, 3, none⟩) (by simp; omega)).trans y3
  have hb20 := hb10.trans (hb2.mono hb10.size)
  clear hb2 hb10 hS hO
  go_wp2_with fail
  cases hv : valid b0 b1 b2 b3 with
  | false =>
    refine (bytes_no b0 b1 b2 b3 _ hv).mono ?_
    rintro en w3 ⟨v, rfl, hO, hb3⟩
    have hb30 := hb20.trans (hb3.mono hb20.size)
    clear hb3 hO
    clear hv
    go_wp2_with fail
    go_quiet (fail)
    go_wp2_with fail
    go_returns
    exact ⟨rfl, below_drewN hb30 _⟩
  | true =>
    refine (bytes_yes b0 b1 b2 b3 _ hv).mono ?_
    rintro en w3 ⟨v, rfl, hO, hb3⟩
    have hb30 := hb20.trans (hb3.mono hb20.size)
    clear hb3 hO
    clear hv
    go_wp2_with fail
    go_quiet (fail)
    go_wp2_with fail
    go_returns
    exact ⟨rfl, below_drewN hb30 _⟩
set_option maxHeartbeats 1600000 in
theorem apart_half (a b : Cmd) (hv : valid a.op a.id a.e a.p = true) (hw : valid b.op b.id b.e b.p = false) (w : World) :
    Calls Try.prog 6 #[a.V, b.V] w fun e w' => e = .returned (.bool true) ∧ Below w.heap.size w w' := by
  have HV := Lib.hid hv
  have HW := Lib.hid hw
  clear hv hw
  obtain ⟨a0, a1, a2, a3⟩ := a
  obtain ⟨b0, b1, b2, b3⟩ := b
  unfold Cmd.V at *
  go_enter Try.func6, Try.ntmps6
  go_wp2_with fail
  refine (awake_any _).mono ?_
  rintro en w1 ⟨rfl, hb1⟩
  have hb1' := hb1.mono (Nat.le_of_eq (by simp : w.heap.size + 2 = _))
  obtain ⟨x0, x1, x2, x3, y0, y1, y2, y3, hs2, hb10⟩ := boxes hb1'
  clear hb1 hb1'
  go_wp2_with fail
  refine (bytes_yes a0 a1 a2 a3 _ HV.out).mono ?_
  rintro en w2 ⟨v, rfl, hO, hb2⟩
  replace y0 := (hb2.cell (p := ⟨w.heap.size + 1, 0, none⟩) (by simp; omega)).trans y0
  replace y1 := (hb2.cell (p := ⟨w.heap.size + 1, 1, none⟩) (by simp; omega)).trans y1
  replace y2 := (hb2.cell (p := ⟨w.heap.size + 1, 2, none⟩) (by simp; omega)).trans y2
  replace y3 := (hb2.cell (p := ⟨w.heap.size + 1, 3, none⟩) (by simp; omega)).trans y3
  replace x0 := (hb2.cell (p := ⟨w.heap.size, 0, none⟩) (by simp; omega)).trans x0
  replace x1 := (hb2.cell (p := ⟨w.heap.size, 1, none⟩) (by simp; omega)).trans x1
  replace x2 := (hb2.cell (p := ⟨w.heap.size, 2, none⟩) (by simp; omega)).trans x2
  replace x3 := (hb2.cell (p := ⟨w.heap.size, 3, none⟩) (by simp; omega)).trans x3
  have hs3 := Nat.le_trans hs2 hb2.size
  have hb20 := hb10.trans (hb2.mono hb10.size)
  clear hb2 hb10 hO
  go_wp2_with fail
  refine (bytes_no b0 b1 b2 b3 _ HW.out).mono ?_
  rintro en w3 ⟨u, rfl, hO, hb3⟩
  replace x0 := (hb3.cell (p := ⟨w.heap.size, 0, none⟩) (by simp; omega)).trans x0
  replace x1 := (hb3.cell (p := ⟨w.heap.size, 1, none⟩) (by simp; omega)).trans x1
  replace x2 := (hb3.cell (p := ⟨w.heap.size, 2, none⟩) (by simp; omega)).trans x2
  replace x3 := (hb3.cell (p := ⟨w.heap.size, 3, none⟩) (by simp; omega)).trans x3
  replace y0 := (hb3.cell (p := ⟨w.heap.size + 1, 0, none⟩) (by simp; omega)).trans y0
  replace y1 := (hb3.cell (p := ⟨w.heap.size + 1, 1, none⟩) (by simp; omega)).trans y1
  replace y2 := (hb3.cell (p := ⟨w.heap.size + 1, 2, none⟩) (by simp; omega)).trans y2
  replace y3 := (hb3.cell (p := ⟨w.heap.size + 1, 3, none⟩) (by simp; omega)).trans y3
  have hb30 := hb20.trans (hb3.mono hb20.size)
  clear hb3 hO
  go_wp2_with fail
  go_quiet (fail)
  go_wp2_with fail
  go_returns
  exact ⟨rfl, below_drewN hb30 _⟩

set_option maxHeartbeats 1600000 in
theorem apart_ne (a b : Cmd) (hv : valid a.op a.id a.e a.p = true) (hw : valid b.op b.id b.e b.p = true) (hd : a ≠ b) (w : World) :
    Calls Try.prog 6 #[a.V, b.V] w fun e w' => e = .returned (.bool true) ∧ Below w.heap.size w w' := by
  have HV := Lib.hid hv
  have HW := Lib.hid hw
  have GV := Lib.hid (@enc_allB _ a.id a.e a.p (valid_parts hv).1)
  have GW := Lib.hid (@enc_allB _ b.id b.e b.p (valid_parts hw).1)
  have hE := neC hd
  have hs := str_ne GV.out GW.out (fun e => hd (enc_inj hv hw e))
  clear hd
  clear hv hw
  obtain ⟨a0, a1, a2, a3⟩ := a
  obtain ⟨b0, b1, b2, b3⟩ := b
  unfold Cmd.V at *
  go_enter Try.func6, Try.ntmps6
  go_wp2_with fail
  refine (awake_any _).mono ?_
  rintro en w1 ⟨rfl, hb1⟩
  have hb1' := hb1.mono (Nat.le_of_eq (by simp : w.heap.size + 2 = _))
  obtain ⟨x0, x1, x2, x3, y0, y1, y2, y3, hs2, hb10⟩ := boxes hb1'
  clear hb1 hb1'
  go_wp2_with fail
  refine (bytes_yes a0 a1 a2 a3 _ HV.out).mono ?_
  rintro en w2 ⟨v, rfl, hO, hb2⟩
  obtain ⟨A, ca, rfl, hS⟩ := hO.sl GV.out
  replace y0 := (hb2.cell (p := ⟨w.heap.size + 1, 0, none⟩) (by simp; omega)).trans y0
  replace y1 := (hb2.cell (p := ⟨w.heap.size + 1, 1, none⟩) (by simp; omega)).trans y1
  replace y2 := (hb2.cell (p := ⟨w.heap.size + 1, 2, none⟩) (by simp; omega)).trans y2
  replace y3 := (hb2.cell (p := ⟨w.heap.size + 1, 3, none⟩) (by simp; omega)).trans y3
  replace x0 := (hb2.cell (p := ⟨w.heap.size, 0, none⟩) (by simp; omega)).trans x0
  replace x1 := (hb2.cell (p := ⟨w.heap.size, 1, none⟩) (by simp; omega)).trans x1
  replace x2 := (hb2.cell (p := ⟨w.heap.size, 2, none⟩) (by simp; omega)).trans x2
  replace x3 := (hb2.cell (p := ⟨w.heap.size, 3, none⟩) (by simp; omega)).trans x3
  have hs3 := Nat.le_trans hs2 hb2.size
  have hb20 := hb10.trans (hb2.mono hb10.size)
  clear hb10 hO
  go_wp2_with fail
  refine (bytes_yes b0 b1 b2 b3 _ HW.out).mono ?_
  rintro en w3 ⟨u, rfl, hO, hb3⟩
  obtain ⟨B, cb, rfl, hT⟩ := hO.sl GW.out
  have cA := fun (q : Nat) => conv_sl (show Sl (w3.drewN q) _ _ _ _ from hS.below (below_drewN hb3 q))
  have cB := fun (q : Nat) => conv_sl (show Sl (w3.drewN q) _ _ _ _ from hT.below (below_drewN (Below.refl _ _) q))
  replace x0 := (hb3.cell (p := ⟨w.heap.size, 0, none⟩) (by simp; omega)).trans x0
  replace x1 := (hb3.cell (p := ⟨w.heap.size, 1, none⟩) (by simp; omega)).trans x1
  replace x2 := (hb3.cell (p := ⟨w.heap.size, 2, none⟩) (by simp; omega)).trans x2
  replace x3 := (hb3.cell (p := ⟨w.heap.size, 3, none⟩) (by simp; omega)).trans x3
  replace y0 := (hb3.cell (p := ⟨w.heap.size + 1, 0, none⟩) (by simp; omega)).trans y0
  replace y1 := (hb3.cell (p := ⟨w.heap.size + 1, 1, none⟩) (by simp; omega)).trans y1
  replace y2 := (hb3.cell (p := ⟨w.heap.size + 1, 2, none⟩) (by simp; omega)).trans y2
  replace y3 := (hb3.cell (p := ⟨w.heap.size + 1, 3, none⟩) (by simp; omega)).trans y3
  have hb30 := hb20.trans (hb3.mono hb20.size)
  clear hb2 hb3 hO hS hT
  generalize (enc a0 a1 a2 a3).length = na at cA ⊢
  generalize (enc b0 b1 b2 b3).length = nb at cB ⊢
  generalize strOf (enc a0 a1 a2 a3) = SA at cA hs
  generalize strOf (enc b0 b1 b2 b3) = SB at cB hs
  go_wp2_with fail
  go_quiet (fail)
  go_wp2_with fail
  go_returns
  exact ⟨rfl, below_drewN hb30 _⟩

set_option maxHeartbeats 1600000 in
theorem apart_same (a : Cmd) (hv : valid a.op a.id a.e a.p = true) (w : World) :
    Calls Try.prog 6 #[a.V, a.V] w fun e w' => e = .returned (.bool true) ∧ Below w.heap.size w w' := by
  have HV := Lib.hid hv
  have GV := Lib.hid (@enc_allB _ a.id a.e a.p (valid_parts hv).1)
  have hE := eqC
  clear hv
  obtain ⟨a0, a1, a2, a3⟩ := a
  unfold Cmd.V at *
  go_enter Try.func6, Try.ntmps6
  go_wp2_with fail
  refine (awake_any _).mono ?_
  rintro en w1 ⟨rfl, hb1⟩
  have hb1' := hb1.mono (Nat.le_of_eq (by simp : w.heap.size + 2 = _))
  obtain ⟨x0, x1, x2, x3, y0, y1, y2, y3, hs2, hb10⟩ := boxes hb1'
  clear hb1 hb1'
  go_wp2_with fail
  refine (bytes_yes a0 a1 a2 a3 _ HV.out).mono ?_
  rintro en w2 ⟨v, rfl, hO, hb2⟩
  obtain ⟨A, ca, rfl, hS⟩ := hO.sl GV.out
  replace y0 := (hb2.cell (p := ⟨w.heap.size + 1, 0, none⟩) (by simp; omega)).trans y0
  replace y1 := (hb2.cell (p := ⟨w.heap.size + 1, 1, none⟩) (by simp; omega)).trans y1
  replace y2 := (hb2.cell (p := ⟨w.heap.size + 1, 2, none⟩) (by simp; omega)).trans y2
  replace y3 := (hb2.cell (p := ⟨w.heap.size + 1, 3, none⟩) (by simp; omega)).trans y3
  replace x0 := (hb2.cell (p := ⟨w.heap.size, 0, none⟩) (by simp; omega)).trans x0
  replace x1 := (hb2.cell (p := ⟨w.heap.size, 1, none⟩) (by simp; omega)).trans x1
  replace x2 := (hb2.cell (p := ⟨w.heap.size, 2, none⟩) (by simp; omega)).trans x2
  replace x3 := (hb2.cell (p := ⟨w.heap.size, 3, none⟩) (by simp; omega)).trans x3
  have hs3 := Nat.le_trans hs2 hb2.size
  have hb20 := hb10.trans (hb2.mono hb10.size)
  clear hb10 hO
  go_wp2_with fail
  refine (bytes_yes a0 a1 a2 a3 _ HV.out).mono ?_
  rintro en w3 ⟨u, rfl, hO, hb3⟩
  obtain ⟨B, cb, rfl, hT⟩ := hO.sl GV.out
  have cA := fun (q : Nat) => conv_sl (show Sl (w3.drewN q) _ _ _ _ from hS.below (below_drewN hb3 q))
  have cB := fun (q : Nat) => conv_sl (show Sl (w3.drewN q) _ _ _ _ from hT.below (below_drewN (Below.refl _ _) q))
  replace x0 := (hb3.cell (p := ⟨w.heap.size, 0, none⟩) (by simp; omega)).trans x0
  replace x1 := (hb3.cell (p := ⟨w.heap.size, 1, none⟩) (by simp; omega)).trans x1
  replace x2 := (hb3.cell (p := ⟨w.heap.size, 2, none⟩) (by simp; omega)).trans x2
  replace x3 := (hb3.cell (p := ⟨w.heap.size, 3, none⟩) (by simp; omega)).trans x3
  replace y0 := (hb3.cell (p := ⟨w.heap.size + 1, 0, none⟩) (by simp; omega)).trans y0
  replace y1 := (hb3.cell (p := ⟨w.heap.size + 1, 1, none⟩) (by simp; omega)).trans y1
  replace y2 := (hb3.cell (p := ⟨w.heap.size + 1, 2, none⟩) (by simp; omega)).trans y2
  replace y3 := (hb3.cell (p := ⟨w.heap.size + 1, 3, none⟩) (by simp; omega)).trans y3
  have hb30 := hb20.trans (hb3.mono hb20.size)
  clear hb2 hb3 hO hS hT
  generalize (enc a0 a1 a2 a3).length = na at cA cB ⊢
  generalize strOf (enc a0 a1 a2 a3) = SA at cA cB
  go_wp2_with fail
  go_quiet (fail)
  go_wp2_with fail
  go_returns
  exact ⟨rfl, below_drewN hb30 _⟩

theorem apart_law (a b : Cmd) (w : World) :
    Calls Try.prog 6 #[a.V, b.V] w fun e w' => e = .returned (.bool true) ∧ Below w.heap.size w w' := by
  cases hv : valid a.op a.id a.e a.p with
  | false => exact apart_no a b hv w
  | true =>
    cases hw : valid b.op b.id b.e b.p with
    | false => exact apart_half a b hv hw w
    | true =>
      by_cases h : a = b
      · subst h
        exact apart_same a hv w
      · exact apart_ne a b hv hw h w
end Go.Proofs.Ytbanlnacoidccaa
