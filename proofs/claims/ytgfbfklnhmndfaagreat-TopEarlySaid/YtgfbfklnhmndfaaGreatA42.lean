/- The parts of the top that the law of early release walks through: part 42 of 52. -/
import Derived.Test.YtgfbfklnhmndfaaGreatA1
import Derived.Test.YtgfbfklnhmndfaaGreatA2
import Derived.Test.YtgfbfklnhmndfaaGreatA3
import Derived.Test.YtgfbfklnhmndfaaGreatA4
import Derived.Test.YtgfbfklnhmndfaaGreatA6
import Derived.Test.YtgfbfklnhmndfaaGreatA8
import Derived.Test.YtgfbfklnhmndfaaGreatA9
import Derived.Test.YtgfbfklnhmndfaaGreatA10
import Derived.Test.YtgfbfklnhmndfaaGreatA14
import Derived.Test.YtgfbfklnhmndfaaGreatA15
import Derived.Test.YtgfbfklnhmndfaaGreatA16
import Derived.Test.YtgfbfklnhmndfaaGreatA21
import Derived.Test.YtgfbfklnhmndfaaGreatA28
import Derived.Test.YtgfbfklnhmndfaaGreatA29
import Derived.Test.YtgfbfklnhmndfaaGreatA30
import Derived.Test.YtgfbfklnhmndfaaGreatA32
import Derived.Test.YtgfbfklnhmndfaaGreatA33
import Derived.Test.YtgfbfklnhmndfaaGreatA35
import Derived.Test.YtgfbfklnhmndfaaGreatA36
import Derived.Test.YtgfbfklnhmndfaaGreatA37
import Derived.Test.YtgfbfklnhmndfaaGreatA41
namespace Go.Proofs.YtgfbfklnhmndfaaGreat
open Go.RowKit
set_option linter.unusedSimpArgs false
set_option linter.unusedVariables false
section
attribute [local go_sem ↓] setCell_drewN alloc_drewN grow_cell grow_frozen setCell_grow grow_size cell_alloc_grow frozen_alloc_grow setCell_alloc_grow cell_grow_alloc_grow frozen_grow_alloc_grow setCell_grow_alloc_grow grow_grow
attribute [local go_sem] lt_len size_setCell
theorem Compact205 (g : Option Addr) (n c : Nat) (hn : n < 2) (w : World) : Calls Tryz.prog 205 #[.slice g n c] w (RetG (.slice g n c) w) := by
  have hd : decide ((n : Int) < 2) = true := by simp; omega
  clear hn
  unfold RetG
  go_enter Tryz.func205, Tryz.ntmps205
  go_wp2_with fail
  go_returns
  exact ⟨rfl, by repeat (first | exact gr_refl _ | apply gr_alloc | apply gr_grow | apply gr_drewN | apply gr_drew)⟩
theorem SortT229 (v f : Value) (n : Nat) (hn : n < 2) (w : World) : Calls Tryz.prog 229 #[v, .int .i64 0, .int .i64 n, f] w (RetG (.tuple #[]) w) := by
  have hd : decide (1 < (n : Int)) = false := by simp; omega
  clear hn
  unfold RetG
  go_enter Tryz.func229, Tryz.ntmps229
  go_wp2_with fail
  refine wp_loop_rounds 1 ?_
  rw [rounds_succ]
  go_wp2_with fail
  go_returns
  exact ⟨rfl, by repeat (first | exact gr_refl _ | apply gr_alloc | apply gr_grow | apply gr_drewN | apply gr_drew)⟩
theorem SortT206 (v f : Value) (n : Nat) (k : Int) (hn : n < 2) (w : World) : Calls Tryz.prog 206 #[v, .int .i64 0, .int .i64 n, .int .i64 k, f] w (RetG (.tuple #[]) w) := by
  have S := fun w => SortT229 v f n hn w
  have hd : decide ((n : Int) ≤ 12) = true := by simp; omega
  have hw : IntKind.i64.wrap (n : Int) = n := IntWalk.i64_in _ (by omega)
  clear hn
  unfold RetG
  go_enter Tryz.func206, Tryz.ntmps206
  go_wp2_with fail
  refine wp_loop_rounds 1 ?_
  rw [rounds_succ]
  go_wp2_with fail
  refine (S _).mono ?_
  rintro e w1 ⟨rfl, os, q, rfl⟩
  go_wp2_with fail
  go_returns
  exact ⟨rfl, by repeat (first | exact gr_refl _ | apply gr_alloc | apply gr_grow | apply gr_drewN | apply gr_drew)⟩
theorem SortT159 (g : Option Addr) (n c : Nat) (f : Value) (hn : n < 2) (w : World) : Calls Tryz.prog 159 #[.slice g n c, f] w (RetG (.tuple #[]) w) := by
  have L := fun w => Len133 n hn w
  have S := fun k w => SortT206 (.slice g n c) f n k hn w
  have hw : IntKind.u64.wrap (n : Int) = n := IntWalk.u64_in _ (by omega)
  clear hn
  unfold RetG
  go_enter Tryz.func159, Tryz.ntmps159
  go_wp2_with fail
  refine (L _).mono ?_
  rintro e w1 ⟨k, rfl, os, q, rfl⟩
  go_wp2_with fail
  refine (RetG.grow (S k)).mono ?_
  rintro e w1 ⟨rfl, os2, q2, rfl⟩
  go_wp2_with fail
  go_returns
  exact ⟨rfl, by repeat (first | exact gr_refl _ | apply gr_alloc | apply gr_grow | apply gr_drewN | apply gr_drew)⟩
theorem mkTasks0 (W : World) : (Instr.buildSlice 95 0 #[]).run Tryz.prog W = .ok (.slice (some ⟨W.heap.size, 0, none⟩) 0 0) (W.alloc (.cells #[] 143)) := by kernel_rfl
theorem Clone158_one (g c : Nat) (cur : List Value) (w : World) (hg : w.heap[g]? = some (.cells (taskL 3 1 2 true 0 0 1 cur).toArray 143 (0, 0))) :
    Calls Tryz.prog 158 #[.slice (some ⟨g, 0, none⟩) 1 c] w fun e w' => ∃ G C cur', e = .returned (.slice (some ⟨G, 0, none⟩) 1 C) ∧ 1 ≤ C ∧ w.heap.size ≤ G ∧ w'.heap[G]? = some (.cells (taskL 3 1 2 true 0 0 1 cur').toArray 143 (0, 0)) ∧ Kept [] w w' := by
  obtain ⟨i0, hi, hz0, hz1, hby⟩ := info_of infoTask
  have hB := fun w => mkTasks0 w
  have k0 : Kept [] w (w.alloc (.cells #[] 143)) := (Kept.refl _ _).alloc _
  have hg1 := k0.at hg (by simp)
  have lg := heap_lt hg
  replace hg1 := Lib.hid hg1
  clear hg
  have hE := fun w => Go.Lib.run_eql_slice_nil (P := Tryz.prog) w 95 143 (some ⟨g, 0, none⟩) 1 c 0 0 Tryz.underlying95
  simp only [Option.isNone_some] at hE
  go_enter Tryz.func158, Tryz.ntmps158
  go_wp2_with (at_builtin; refine wpList_app rfl _ _ rfl Tryz.underlying95 hi hz0 hz1 rfl rfl (by decide) _ 0 [] rfl (Or.inl ⟨_, rfl, rfl, rfl⟩) g 1 c (taskL 3 1 2 true 0 0 1 []) rfl rfl ?c1 ?c2 (by decide) (by decide) hby ?_)
  case c1 =>
    intro j u hj
    rw [cell_of hg1.out j]
    match j, hj with
    | 0, hj | 1, hj | 2, hj | 3, hj | 4, hj | 5, hj | 6, hj | 7, hj | 8, hj | 9, hj | 10, hj => exact hj
    | n + 11, hj => cases hj
  case c2 => intro u hu; simp only [List.mem_cons, List.not_mem_nil, or_false] at hu; rcases hu with h | h | h | h | h | h | h | h | h | h | h <;> (subst h; rfl)
  intro v' w3 hown hk1 hat
  have hk2 : Kept [] w w3 := Kept.trans k0 hk1 (by simp) (by simp [own])
  obtain ⟨r1, r2⟩ := hown
  rcases r2 with ⟨_, r2⟩ | ⟨G, C, cr, rfl, _, r4, r5, r6, r7, r8⟩
  · cases r2
  have hG : w.heap.size ≤ G := by
    rcases hat with ⟨hat, h⟩ | ⟨G', hat, hG⟩
    · simp only [Value.ownBlock] at hat h
      cases h
    · cases hat
      have h2 : w.heap.size + 1 ≤ G := hG
      omega
  have hcur : cr = (taskL 3 1 2 true 0 0 1 (cr.toList.drop 11)).toArray := by
    have h1 := List.take_append_drop 11 cr.toList
    have r8' : cr.toList.take 11 = taskL 3 1 2 true 0 0 1 [] := r8
    rw [r8'] at h1
    apply Array.ext'
    rw [← h1]
    simp
  rw [hcur] at r4
  have st := Lib.hid (And.intro r5 (And.intro hG (And.intro r4 hk2)))
  clear hk1 hat hk2 r1 r4 r5 r6 r7 r8 hcur hG k0
  go_wp2_with fail
  go_returns
  obtain ⟨a1, a2, a3, a4⟩ := st.out
  exact ⟨G, C, _, rfl, a1, a2, a3, a4⟩
theorem may161 (w : World) : Calls Tryz.prog 161 #[taskV 3 1 2 true 0 0 1] w (RetG (.bool true) w) := by
  unfold RetG
  go_enter Tryz.func161, Tryz.ntmps161
  go_wp2_with fail
  go_returns
  exact ⟨rfl, by repeat (first | exact gr_refl _ | apply gr_alloc | apply gr_grow | apply gr_drewN | apply gr_drew)⟩
theorem Open81_new (b : Nat) (e : Int) (l : Value) (clock : Int) (w : World) (hb : w.heap[b]? = some (.cells #[.int .i64 1, .bool false, .int .i64 e, l] 103 (0, 0))) :
    Calls Tryz.prog 81 #[pt b, .int .i64 clock] w fun e' W => e' = .returned (.bool true) ∧ w = W := by
  have c1 : w.cell? ⟨b, 1, none⟩ = some (.bool false) := cell_of hb 1
  have lb := heap_lt hb
  clear hb
  go_enter Tryz.func81, Tryz.ntmps81
  go_wp2_with fail
  go_returns
  exact ⟨rfl, rfl⟩
theorem Open81_two (b : Nat) (l : Value) (w : World) (hb : w.heap[b]? = some (.cells #[.int .i64 1, .bool true, .int .i64 2, l] 103 (0, 0))) :
    Calls Tryz.prog 81 #[pt b, .int .i64 1] w fun e' W => e' = .returned (.bool false) ∧ w = W := by
  have c1 : w.cell? ⟨b, 1, none⟩ = some (.bool true) := cell_of hb 1
  have c2 : w.cell? ⟨b, 2, none⟩ = some (.int .i64 2) := cell_of hb 2
  have lb := heap_lt hb
  clear hb
  go_enter Tryz.func81, Tryz.ntmps81
  go_wp2_with fail
  go_returns
  exact ⟨rfl, rfl⟩
set_option maxHeartbeats 1000000 in
theorem deadlines157 (g c : Nat) (cur : List Value) (w : World) (hg : w.heap[g]? = some (.cells (taskL 3 1 2 true 0 0 1 cur).toArray 143 (0, 0))) :
    Calls Tryz.prog 157 #[.slice (some ⟨g, 0, none⟩) 1 c, .int .i64 0] w fun e w' => ∃ G C, e = .returned (.slice (some ⟨G, 0, none⟩) 1 C) ∧ w'.cell? ⟨G, 0, none⟩ = some (.int .i64 2) ∧ G < w'.heap.size ∧ Kept [] w w' := by
  obtain ⟨i0, hi, hz0, hz1, hz2⟩ := info_parts infoInt
  have S := fun g c w => Sort108 g 1 c (by omega) w
  have C := fun g c w => Compact205 g 1 c (by omega) w
  have c0 : w.cell? ⟨g, 0, none⟩ = some (.int .i64 3) := cell_of hg 0
  have c1 : w.cell? ⟨g, 1, none⟩ = some (.int .i64 1) := cell_of hg 1
  have c2 : w.cell? ⟨g, 2, none⟩ = some (.int .i64 2) := cell_of hg 2
  have c3 : w.cell? ⟨g, 3, none⟩ = some (.bool false) := cell_of hg 3
  have c4 : w.cell? ⟨g, 4, none⟩ = some (.bool false) := cell_of hg 4
  have c5 : w.cell? ⟨g, 5, none⟩ = some (.bool false) := cell_of hg 5
  have c6 : w.cell? ⟨g, 6, none⟩ = some (.bool true) := cell_of hg 6
  have c7 : w.cell? ⟨g, 7, none⟩ = some (.int .i64 0) := cell_of hg 7
  have c8 : w.cell? ⟨g, 8, none⟩ = some (.int .i64 0) := cell_of hg 8
  have c9 : w.cell? ⟨g, 9, none⟩ = some (.bool false) := cell_of hg 9
  have c10 : w.cell? ⟨g, 10, none⟩ = some (.int .i64 1) := cell_of hg 10
  have lg := heap_lt hg
  have hw0 : IntKind.i64.wrap 2 = 2 := IntWalk.i64_in _ (by omega)
  clear hg
  go_enter Tryz.func157, Tryz.ntmps157
  go_wp2_with fail
  refine wp_loop_rounds 2 ?_
  rw [rounds_succ]
  go_wp2_with (at_builtin; refine wpList_app rfl _ _ rfl Tryz.underlying83 hi hz0 hz1 hz2 rfl (by decide) _ _ _ rfl (Or.inl ⟨none, rfl, rfl, rfl⟩) (w.heap.size + 1) 1 1 [.int .i64 2] rfl rfl ?c1 ?c2 (by decide) (by decide) (by decide) ?_)
  case c1 => intro j u hj; rw [cell_new' (by simp), ← hj]; simp
  case c2 => intro u hu; simp at hu; subst hu; rfl
  intro v' w3 hown hk1 hat
  have k3 : Kept [] w w3 := Kept.trans (((Kept.refl [] w).alloc (.cells #[.int .i64 3, .int .i64 1, .int .i64 2, .bool false, .bool false, .bool false, .bool true, .int .i64 0, .int .i64 0, .bool false, .int .i64 1] 143)).alloc (.cells #[.int .i64 2] 3)) hk1 (by simp) (by simp [own])
  obtain ⟨G', cap', rfl, hcap, _, hcell, _, hlt⟩ := row_elem hown (by omega)
  have c0' : w3.cell? ⟨G', 0, none⟩ = some (.int .i64 2) := (hcell 0 (by omega)).trans rfl
  have st := Lib.hid (And.intro c0' (And.intro hlt k3))
  clear hown hk1 hat hcap hcell hlt k3 c0' c0 c1 c2 c3 c4 c5 c6 c7 c8 c9 c10 lg
  go_wp2_with fail
  rw [rounds_succ]
  go_wp2_with fail
  refine (S _ _ _).mono ?_
  rintro e w4 ⟨rfl, os4, q4, h4⟩
  have k4 := kept_grow h4
  clear h4
  go_wp2_with fail
  refine (C _ _ _).mono ?_
  rintro e w5 ⟨rfl, os5, q5, h5⟩
  have k5 := Kept.tr k4 (kept_grow h5)
  have fin := Lib.hid (And.intro st.out k5)
  clear h5 k4 k5
  go_wp2_with fail
  go_returns
  obtain ⟨⟨a1, a2, a3⟩, k5⟩ := fin.out
  exact ⟨_, _, rfl, (cell_kept k5 a2 0).trans a1, k5.lt a2, Kept.tr a3 k5⟩
theorem Next121 (g c : Nat) (cur : List Value) (w : World) (hg : w.heap[g]? = some (.cells (taskL 3 1 2 true 0 0 1 cur).toArray 143 (0, 0))) :
    Calls Tryz.prog 121 #[.slice (some ⟨g, 0, none⟩) 1 c, .int .i64 0] w fun e w' => e = .returned (.tuple #[.int .i64 2, .bool true]) ∧ Kept [] w w' := by
  have D := deadlines157 g c cur w hg
  clear hg
  go_enter Tryz.func121, Tryz.ntmps121
  go_wp2_with fail
  refine D.mono ?_
  rintro e w1 ⟨G, C, rfl, hc, hlt, k⟩
  replace k := Lib.hid k
  clear D
  go_wp2_with fail
  go_returns
  exact ⟨rfl, k.out⟩
end
section
attribute [local go_sem ↓] setCell_drewN alloc_drewN grow_cell grow_frozen setCell_grow grow_size cell_alloc_grow frozen_alloc_grow setCell_alloc_grow cell_grow_alloc_grow frozen_grow_alloc_grow setCell_grow_alloc_grow grow_grow
attribute [local go_sem] lt_len size_setCell
theorem setCell_self {w : World} {b i : Nat} {v : Value} {c : Array Value} {T : TypeId} {f : Nat × Nat} (h : w.heap[b]? = some (.cells c T f)) (hc : c[i]? = some v) : w.setCell ⟨b, i, none⟩ v = w := by
  have hh : (w.setCell ⟨b, i, none⟩ v).heap = w.heap := by
    unfold World.setCell
    apply Array.ext_getElem?
    intro k
    simp only [Array.getElem?_modify]
    split
    · next hk =>
      subst hk
      rw [h]
      simp only [Option.map_some, Option.some.injEq]
      congr 1
      apply Array.ext_getElem?
      intro j
      simp only [Option.isSome_none, Bool.false_eq_true, if_false]
      rw [Array.getElem?_setIfInBounds]
      split
      · next hj =>
        subst hj
        split
        · exact hc.symm
        · next hn =>
          rw [Array.getElem?_eq_none (by omega)] at hc
          cases hc
      · rfl
    · rfl
  have : w.setCell ⟨b, i, none⟩ v = { w with heap := (w.setCell ⟨b, i, none⟩ v).heap } := rfl
  rw [this, hh]
theorem cmpR_le {a b : Int} (h : a ≤ b) : decide (cmpR (b : Rat) (a : Rat) < 0) = false := by
  apply decide_eq_false
  unfold cmpR
  rw [if_neg (by rw [Rat.intCast_lt_intCast]; omega)]
  split <;> omega
theorem whole140 (n : Int) (w : World) : Calls Tryz.prog 140 #[.int .i64 n] w (RetG (wi n) w) := by
  unfold RetG
  go_enter Tryz.func140, Tryz.ntmps140
  go_wp2_with fail
  go_returns
  exact ⟨rfl, by repeat (first | exact gr_refl _ | apply gr_alloc | apply gr_grow | apply gr_drewN | apply gr_drew)⟩
theorem less141 (a b : Int) (ha : 0 ≤ a) (ha1 : a < 1073741824) (hb : 0 ≤ b) (hb1 : b < 1073741824) (hab : a ≤ b) (w : World) : Calls Tryz.prog 141 #[wi a, wi b] w (RetG (wi a) w) := by
  have C := fun w => cmpRI b a hb hb1 ha ha1 w
  have hd := cmpR_le hab
  generalize cmpR (b : Rat) (a : Rat) = x at C hd
  clear ha ha1 hb hb1 hab
  unfold RetG at *
  go_enter Tryz.func141, Tryz.ntmps141
  go_wp2_with fail
  refine (C _).mono ?_
  rintro e w1 ⟨rfl, os, q, rfl⟩
  go_wp2_with fail
  go_returns
  exact ⟨rfl, by repeat (first | exact gr_refl _ | apply gr_alloc | apply gr_grow | apply gr_drewN | apply gr_drew)⟩
/-- Sums so far without a fault. -/
def SumsAt (w : World) (b : Nat) : Prop := w.heap[b]? = some (.cells #[.int .i64 0] 271 (0, 0))
theorem SumsAt.grow {V W : World} {b : Nat} (h : SumsAt V b) (hg : ∃ os q, Go.Proofs.YtgfbfklnhmndfaaGreat.grow V os q = W) : SumsAt W b := by
  obtain ⟨os, q, hg⟩ := hg
  exact (kept_grow hg).at h (by simp)
theorem keep209 (b : Nat) (x y : Int) (w : World) (hb : SumsAt w b) : Calls Tryz.prog 209 #[pt b, .agg #[.int .i64 x, .int .i64 y], .int .i64 0] w (RetG (.agg #[.int .i64 x, .int .i64 y]) w) := by
  unfold RetG SumsAt at *
  have k : Kept [] w ((w.alloc (.cells #[.int .i64 x, .int .i64 y] 39)).alloc (.cells #[.int .i64 0, .int .i64 0] 39)) := ((Kept.refl _ _).alloc _).alloc _
  have h2 := k.at hb (by simp)
  have hself := setCell_self (i := 0) (v := .int .i64 0) h2 rfl
  have c0 : w.cell? ⟨b, 0, none⟩ = some (.int .i64 0) := cell_of hb 0
  have f0 : w.frozen? ⟨b, 0, none⟩ = false := frozen_of hb 0
  have lb := heap_lt hb
  clear hb k h2
  go_enter Tryz.func209, Tryz.ntmps209
  go_wp2_with fail
  go_returns
  exact ⟨rfl, by repeat (first | exact gr_refl _ | apply gr_alloc | apply gr_grow | apply gr_drewN | apply gr_drew)⟩
theorem sub164 (b : Nat) (x y : Int) (hx : 0 ≤ x) (hx1 : x < 1073741824) (hy : 0 ≤ y) (hy1 : y < 1073741824) (w : World) (hb : SumsAt w b) : Calls Tryz.prog 164 #[pt b, wi x, wi y] w (RetG (wi (x - y)) w) := by
  have S := fun w => Sub102 (x : Rat) (y : Rat) (sm_int hx hx1) (sm_int hy hy1) w
  rw [sub_int] at S
  simp only [rvI] at S
  have K := fun w h => keep209 b (x - y) 1 w h
  clear hx hx1 hy hy1
  unfold RetG at *
  have lb := heap_lt hb
  replace hb := Lib.hid hb
  replace K := Lib.hid K
  go_enter Tryz.func164, Tryz.ntmps164
  go_wp2_with fail
  refine (S _).mono ?_
  rintro e w1 ⟨rfl, os, q, rfl⟩
  go_wp2_with fail
  refine (K.out _ (hb.out.grow (by repeat (first | exact gr_refl _ | apply gr_alloc | apply gr_grow | apply gr_drewN | apply gr_drew)))).mono ?_
  rintro e w1 ⟨rfl, os2, q2, rfl⟩
  go_wp2_with fail
  go_returns
  exact ⟨rfl, by repeat (first | exact gr_refl _ | apply gr_alloc | apply gr_grow | apply gr_drewN | apply gr_drew)⟩
theorem add165 (b : Nat) (x y : Int) (hx : 0 ≤ x) (hx1 : x < 1073741824) (hy : 0 ≤ y) (hy1 : y < 1073741824) (w : World) (hb : SumsAt w b) : Calls Tryz.prog 165 #[pt b, wi x, wi y] w (RetG (wi (x + y)) w) := by
  have S := fun w => Add74 (x : Rat) (y : Rat) (sm_int hx hx1) (sm_int hy hy1) w
  rw [add_int] at S
  simp only [rvI] at S
  have K := fun w h => keep209 b (x + y) 1 w h
  clear hx hx1 hy hy1
  unfold RetG at *
  have lb := heap_lt hb
  replace hb := Lib.hid hb
  replace K := Lib.hid K
  go_enter Tryz.func165, Tryz.ntmps165
  go_wp2_with fail
  refine (S _).mono ?_
  rintro e w1 ⟨rfl, os, q, rfl⟩
  go_wp2_with fail
  refine (K.out _ (hb.out.grow (by repeat (first | exact gr_refl _ | apply gr_alloc | apply gr_grow | apply gr_drewN | apply gr_drew)))).mono ?_
  rintro e w1 ⟨rfl, os2, q2, rfl⟩
  go_wp2_with fail
  go_returns
  exact ⟨rfl, by repeat (first | exact gr_refl _ | apply gr_alloc | apply gr_grow | apply gr_drewN | apply gr_drew)⟩
theorem length162 (w : World) : Calls Tryz.prog 162 #[taskV 3 1 2 true 0 0 1, .int .i64 0, .int .i64 2] w fun e W => e = .returned (.tuple #[wi 1, .int .i64 0]) ∧ Kept [] w W := by
  have S := fun w => Sub102 ((2 : Int) : Rat) ((0 : Int) : Rat) (sm_int (by omega) (by omega)) (sm_int (by omega) (by omega)) w
  rw [sub_int] at S
  have O := fun w => Of118 1 2 (by omega) (by decide) (by omega) w
  have sm2 : Sm30 ((2 : Int) : Rat) := sm_int (by omega) (by omega)
  have smh : Sm30 (mkRat 1 2) := sm_mk 1 2 (by omega) (by omega)
  have M := fun w => Mul207r ((2 : Int) : Rat) (mkRat 1 2) sm2 smh w
  have e1 : ((2 : Int) : Rat) * mkRat 1 2 = ((1 : Int) : Rat) := by decide +kernel
  have e2 : ((2 : Int) - 0) = 2 := by omega
  have e3 : rv (mkRat 1 2) = .agg #[.int .i64 1, .int .i64 2] := by
    unfold rv
    have h1 : (mkRat 1 2).num = 1 := by decide +kernel
    have h2 : (mkRat 1 2).den = 2 := by decide +kernel
    rw [h1, h2]
    rfl
  rw [e1, e3] at M
  rw [e2] at S
  rw [e3] at O
  simp only [rvI] at S O M
  clear sm2 smh e1 e2 e3
  unfold RetG at *
  have hR := heap_alloc_new (w := w.alloc (.cells #[.int .i64 3, .int .i64 1, .int .i64 2, .bool false, .bool false, .bool false, .bool true, .int .i64 0, .int .i64 0, .bool false, .int .i64 1] 143)) (o := .cells #[.int .i64 0, .int .i64 0] 39)
  have k0 : Kept [] w ((w.alloc (.cells #[.int .i64 3, .int .i64 1, .int .i64 2, .bool false, .bool false, .bool false, .bool true, .int .i64 0, .int .i64 0, .bool false, .int .i64 1] 143)).alloc (.cells #[.int .i64 0, .int .i64 0] 39)) := ((Kept.refl _ _).alloc _).alloc _
  have hB := heap_alloc (w := w.alloc (.cells #[.int .i64 3, .int .i64 1, .int .i64 2, .bool false, .bool false, .bool false, .bool true, .int .i64 0, .int .i64 0, .bool false, .int .i64 1] 143)) (o := .cells #[.int .i64 0, .int .i64 0] 39) (b := w.heap.size) (by simp)
  rw [heap_alloc_new] at hB
  rw [World.size_alloc] at hR
  obtain ⟨W0, hW0⟩ : ∃ W0, (w.alloc (.cells #[.int .i64 3, .int .i64 1, .int .i64 2, .bool false, .bool false, .bool false, .bool true, .int .i64 0, .int .i64 0, .bool false, .int .i64 1] 143)).alloc (.cells #[.int .i64 0, .int .i64 0] 39) = W0 := ⟨_, rfl⟩
  rw [hW0] at hR k0 hB
  obtain ⟨B, hBB⟩ : ∃ B, w.heap.size = B := ⟨_, rfl⟩
  obtain ⟨R, hRR⟩ : ∃ R, B + 1 = R := ⟨_, rfl⟩
  have hRn : w.heap.size ≤ R := by omega
  rw [hBB, hRR] at hR
  rw [hBB] at hB
  have st := Lib.hid (And.intro hR (And.intro k0 (And.intro hB hRn)))
  clear hR k0 hB hRn
  go_enter Tryz.func162, Tryz.ntmps162
  go_wp2_with fail
  refine (S _).mono ?_
  rintro e w1 ⟨rfl, os, q, h1⟩
  try rw [hW0] at h1
  have k1 := kept_grow h1
  have hB1 := k1.at st.out.2.2.1 (by simp)
  have b1 : w1.cell? ⟨B, 1, none⟩ = some (.int .i64 1) := cell_of hB1 1
  have b2 : w1.cell? ⟨B, 2, none⟩ = some (.int .i64 2) := cell_of hB1 2
  have lB := heap_lt hB1
  replace st := Lib.hid (And.intro (k1.at st.out.1 (by simp)) (And.intro (Kept.tr st.out.2.1 k1) st.out.2.2.2))
  clear h1 k1 hB1 hW0
  go_wp2_with fail
  refine (O _).mono ?_
  rintro e w2 ⟨rfl, os2, q2, h2⟩
  have k2 := Kept.tr ((Kept.refl [] w1).alloc (.cells #[.int .i64 2, .int .i64 1] 39)) (kept_grow h2)
  have hX := (kept_grow h2).at (heap_alloc_new (w := w1) (o := .cells #[.int .i64 2, .int .i64 1] 39)) (by simp)
  obtain ⟨X, hXX⟩ : ∃ X, w1.heap.size = X := ⟨_, rfl⟩
  rw [hXX] at hX
  have x0 : w2.cell? ⟨X, 0, none⟩ = some (.int .i64 2) := cell_of hX 0
  have x1 : w2.cell? ⟨X, 1, none⟩ = some (.int .i64 1) := cell_of hX 1
  have lX := heap_lt hX
  replace st := Lib.hid (And.intro (k2.at st.out.1 (by simp)) (And.intro (Kept.tr st.out.2.1 k2) st.out.2.2))
  clear h2 k2 hX b1 b2 lB
  go_wp2_with fail
  refine (M _).mono ?_
  rintro e w3 ⟨rfl, os3, q3, h3⟩
  have k3 := Kept.tr ((Kept.refl [] w2).alloc (.cells #[.int .i64 1, .int .i64 2] 39)) (kept_grow h3)
  have hR3 := k3.at st.out.1 (by simp)
  have r0 : w3.cell? ⟨R, 0, none⟩ = some (.int .i64 0) := cell_of hR3 0
  have r1 : w3.cell? ⟨R, 1, none⟩ = some (.int .i64 0) := cell_of hR3 1
  have f0 : w3.frozen? ⟨R, 0, none⟩ = false := frozen_of hR3 0
  have f1 : w3.frozen? ⟨R, 1, none⟩ = false := frozen_of hR3 1
  have lR := heap_lt hR3
  have hR4 : ((w3.setCell ⟨R, 0, none⟩ (.int .i64 1)).setCell ⟨R, 1, none⟩ (.int .i64 1)).heap[R]? = some (.cells #[.int .i64 1, .int .i64 1] 39 (0, 0)) := heap_setCell (heap_setCell hR3)
  have k4 : Kept [] w ((w3.setCell ⟨R, 0, none⟩ (.int .i64 1)).setCell ⟨R, 1, none⟩ (.int .i64 1)) := ((Kept.tr st.out.2.1 k3).setCell _ _ (Or.inr st.out.2.2)).setCell _ _ (Or.inr st.out.2.2)
  obtain ⟨W4, hW4⟩ : ∃ W4, (w3.setCell ⟨R, 0, none⟩ (.int .i64 1)).setCell ⟨R, 1, none⟩ (.int .i64 1) = W4 := ⟨_, rfl⟩
  rw [hW4] at hR4 k4
  have o0 : W4.cell? ⟨R, 0, none⟩ = some (.int .i64 1) := cell_of hR4 0
  have o1 : W4.cell? ⟨R, 1, none⟩ = some (.int .i64 1) := cell_of hR4 1
  have lR4 := heap_lt hR4
  replace st := Lib.hid k4
  clear h3 k3 hR3 hR4 k4 x0 x1 lX
  go_wp2_with fail
  refine bodyPost_ret (by simp [results, Tryz.results162, go_sem, *]; try rfl) rfl ?_
  exact ⟨rfl, st.out⟩
end
end Go.Proofs.YtgfbfklnhmndfaaGreat
