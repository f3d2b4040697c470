/- The parts of the top that the law of early release walks through: part 28 of 52. -/
import Derived.Laws.IdiomRangeMap
import Derived.Maps.RangeRun
import Derived.Test.YtgfbfklnhmndfaaGreatA1
import Derived.Test.YtgfbfklnhmndfaaGreatA2
import Derived.Test.YtgfbfklnhmndfaaGreatA3
import Derived.Test.YtgfbfklnhmndfaaGreatA4
import Derived.Test.YtgfbfklnhmndfaaGreatA6
import Derived.Test.YtgfbfklnhmndfaaGreatA8
import Derived.Test.YtgfbfklnhmndfaaGreatA9
import Derived.Test.YtgfbfklnhmndfaaGreatA12
import Derived.Test.YtgfbfklnhmndfaaGreatA13
import Derived.Test.YtgfbfklnhmndfaaGreatA16
import Derived.Test.YtgfbfklnhmndfaaGreatA21
import Derived.Test.YtgfbfklnhmndfaaGreatA24
import Derived.Test.YtgfbfklnhmndfaaGreatA25
import Derived.Test.YtgfbfklnhmndfaaGreatA27
namespace Go.Proofs.YtgfbfklnhmndfaaGreat
open Go.RowKit
set_option linter.unusedSimpArgs false
set_option linter.unusedVariables false
section
attribute [local go_sem ↓] setCell_drewN alloc_drewN grow_cell grow_frozen setCell_grow grow_size cell_alloc_grow frozen_alloc_grow setCell_alloc_grow cell_grow_alloc_grow frozen_grow_alloc_grow setCell_grow_alloc_grow grow_grow
attribute [local go_sem] lt_len size_setCell
theorem multiple113 (l B cc : Nat) (a b d e : Value) (p : Int) (hp : p ≤ 16777216) (w : World) (hl : w.heap[l]? = some (.cells #[a, b, .map (some B), d, e] 92 (0, 0))) (hB : w.heap[B]? = some (.map #[] cc)) :
    Calls Tryz.prog 113 #[.pointer (some ⟨l, 0, none⟩), .int .i64 p] w (RetG (.tuple #[.int .i64 p, .bool true]) w) := by
  have c2 : w.cell? ⟨l, 2, none⟩ = some (.map (some B)) := cell_of hl 2
  have ll := heap_lt hl
  have hR := run_range_map (P := Tryz.prog) w 90 3 3 B #[] cc Tryz.underlying90 hB
  have hB1 : (w.alloc (.mapIter (some B) cc #[] cc)).heap[B]? = some (.map #[] cc) := (heap_alloc (heap_lt hB)).trans hB
  have hN : ∀ ty, (Instr.next (.pointer (some ⟨w.heap.size, 0, none⟩)) false ty).run Tryz.prog (w.alloc (.mapIter (some B) cc #[] cc)) = .ok (.tuple #[.bool false]) (w.alloc (.mapIter (some B) cc #[] cc)) := fun ty => by
    rcases run_next_at (P := Tryz.prog) (w.alloc (.mapIter (some B) cc #[] cc)) ty w.heap.size B cc cc #[] #[] cc heap_alloc_new hB1 (by simp) (Nat.le_refl _) with ⟨_, h⟩ | ⟨x, hx, _⟩
    · exact h
    · simp [leftOf] at hx
  have d1 : decide (p ≤ 16777216) = true := by simpa using hp
  clear hl hB hB1 hp
  unfold RetG
  go_enter Tryz.func113, Tryz.ntmps113
  go_wp2_with fail
  refine wp_loop_rounds 1 ?_
  rw [rounds_succ]
  go_wp2_with fail
  go_returns
  exact ⟨rfl, by repeat (first | exact gr_refl _ | apply gr_alloc | apply gr_grow | apply gr_drewN | apply gr_drew)⟩
def canY (l : Nat) (e p s1 s2 x1 y1 x2 y2 : Int) (i : Nat) (v : Value) (lo hi : Nat) (w : World) : Prop := match i with
  | 0 => v = .pointer (some ⟨l, 0, none⟩)
  | 1 => v = .pointer (some ⟨l, 0, none⟩)
  | 2 => v = .pointer (some ⟨l, 3, none⟩)
  | 3 => v = .agg #[.int .i64 s1, .int .i64 s2]
  | 4 => v = .int .i64 e
  | 5 => v = .int .i64 p
  | 6 => v = .agg #[.int .i64 x1, .int .i64 y1]
  | 7 => v = .tuple #[.agg #[.int .i64 x2, .int .i64 y2], .int .i64 0]
  | 8 => v = .tuple #[.agg #[.int .i64 x2, .int .i64 y2], .int .i64 0]
  | 9 => v = .agg #[.int .i64 x2, .int .i64 y2]
  | 10 => v = .int .i64 0
  | 11 => ∃ b, lo ≤ b ∧ b < hi ∧ v = .pointer (some ⟨b, 0, none⟩) ∧ w.heap[b]? = some (.cells #[.int .i64 0, .int .i64 0] 39 (0, 0))
  | _ => True
theorem sm_one : Sm30 1 := by unfold Sm30; decide
theorem sm_zero : Sm30 0 := by unfold Sm30; decide
theorem sm_mk (e p : Nat) (he : e < 1073741824) (hp : p < 1073741824) : Sm30 (mkRat e p) := by
  have h1 : (mkRat (e : Int) p).num.natAbs ≤ e := by
    rw [Rat.num_mkRat]
    split
    · omega
    · rw [← Int.natCast_ediv, Int.natAbs_natCast]
      exact Nat.div_le_self _ _
  have h2 : (mkRat (e : Int) p).den ≤ max p 1 := by
    rw [Rat.den_mkRat]
    split
    · omega
    · have := Nat.div_le_self p (p.gcd (e : Int).natAbs)
      omega
  unfold Sm30
  omega
theorem mk_le_one (e p : Nat) (hp : 0 < p) (h : e ≤ p) : ¬ (1 : Rat) < mkRat e p := by
  rw [Rat.lt_iff, Rat.num_mkRat, Rat.den_mkRat]
  rw [if_neg (by omega), if_neg (by omega)]
  rw [← Int.natCast_ediv]
  have := Nat.div_le_div_right (c := p.gcd (e : Int).natAbs) h
  show ¬ (1 : Int) * _ < _ * ((1 : Nat) : Int)
  omega
set_option maxHeartbeats 1000000 in
theorem Can73' (l A B cc : Nat) (e p s1 s2 x1 y1 x2 y2 z : Int) (he : 1 ≤ e) (hep : e ≤ p) (hp : p ≤ 1048575) (hz : z ≤ 0) (w : World) (hl : w.heap[l]? = some (.cells #[.int .i64 1, .map (some A), .map (some B), .int .i64 s1, .int .i64 s2] 92 (0, 0))) (hB : w.heap[B]? = some (.map #[] cc))
    (A75 : ∀ W, Calls Tryz.prog 75 #[.int .i64 e, .int .i64 p] W (RetG (.agg #[.int .i64 x1, .int .i64 y1]) W))
    (A74 : ∀ W, Calls Tryz.prog 74 #[.agg #[.int .i64 s1, .int .i64 s2], .agg #[.int .i64 x1, .int .i64 y1]] W (RetG (.tuple #[.agg #[.int .i64 x2, .int .i64 y2], .int .i64 0]) W))
    (A97 : ∀ W, Calls Tryz.prog 97 #[.agg #[.int .i64 x2, .int .i64 y2], .agg #[.int .i64 1, .int .i64 1]] W (RetG (.int .i64 z) W)) :
    Calls Tryz.prog 73 #[.pointer (some ⟨l, 0, none⟩), .int .i64 e, .int .i64 p] w fun e' w' => e' = .returned (.int .i64 0) ∧ Kept [] w w' := by
  have M := fun W => may72 e p he hep hp W
  have d1 : decide (z > 0) = false := by simp; omega
  have hp' : p ≤ 16777216 := by omega
  have hlh := Lib.hid (And.intro hl hB)
  clear he hep hp hz hl hB
  go_enter Tryz.func73, Tryz.ntmps73
  go_wp2_with fail
  refine (M _).mono ?_
  rintro e' w1 ⟨rfl, os, q, rfl⟩
  have U := fun w hl hB => multiple113 l B cc (.int .i64 1) (.map (some A)) (.int .i64 s1) (.int .i64 s2) p hp' w hl hB
  go_wp2_with fail
  refine (U _ (by rw [heap_grow (heap_lt hlh.out.1)]; exact hlh.out.1) (by rw [heap_grow (heap_lt hlh.out.2)]; exact hlh.out.2)).mono ?_
  rintro e' w1 ⟨rfl, os1, q1, rfl⟩
  have kw : Kept [] w (Go.Proofs.YtgfbfklnhmndfaaGreat.grow (Go.Proofs.YtgfbfklnhmndfaaGreat.grow w os q) os1 q1) := ((Kept.refl [] w).grow _ _).grow _ _
  generalize (Go.Proofs.YtgfbfklnhmndfaaGreat.grow (Go.Proofs.YtgfbfklnhmndfaaGreat.grow w os q) os1 q1) = W1 at *
  have hl := kw.at hlh.out.1 (by simp)
  clear U M
  replace kw := Lib.hid kw
  clear hlh
  go_wp2_with fail
  refine bornQ 12 [10] [9, 37, 36, 27, 35, 34, 33, 32, 31, 30, 29, 28] (canY l e p s1 s2 x1 y1 x2 y2) (by kernel_rfl) (by kernel_rfl) (by kernel_rfl) (fun _ _ d _ _ h => by cases d <;> exact h) ?_ ?_ ?_
  · intro i v lo hi w w' hY hw
    unfold canY at *
    split at hY <;> first
      | exact hY
      | (obtain ⟨b, h1, h2, h3, h4⟩ := hY; exact ⟨b, h1, h2, h3, by rw [hw b h1 h2]; exact h4⟩)
      | trivial
  · intro i hi o ho a W hr hd hk
    rcases i with _ | _ | _ | _ | _ | _ | _ | _ | _ | _ | _ | _ | i
    · cases ho
      have h0 : a.tmps.getD 0 undef = .pointer (some ⟨l, 0, none⟩) := hr 0 (by kernel_rfl)
      refine ⟨fun h => absurd h (by decide), fun _ => ?_⟩
      clear hr hd hk A75 A74 A97
      exact born_value _ (by go_simp; try rfl) rfl
    · cases ho
      obtain ⟨_, _, h28⟩ := hd 0 28 (by kernel_rfl) (by kernel_rfl)
      have h28 : a.tmps.getD 28 undef = .pointer (some ⟨l, 0, none⟩) := h28
      refine ⟨fun h => absurd h (by decide), fun _ => ?_⟩
      clear hr hd hk A75 A74 A97
      exact born_value _ (by go_simp; try rfl) rfl
    · cases ho
      obtain ⟨_, _, h29⟩ := hd 1 29 (by kernel_rfl) (by kernel_rfl)
      have h29 : a.tmps.getD 29 undef = .pointer (some ⟨l, 0, none⟩) := h29
      refine ⟨fun h => absurd h (by decide), fun _ => ?_⟩
      clear hr hd hk A75 A74 A97
      exact born_value _ (by go_simp; try rfl) rfl
    · cases ho
      obtain ⟨_, _, h30⟩ := hd 2 30 (by kernel_rfl) (by kernel_rfl)
      have h30 : a.tmps.getD 30 undef = .pointer (some ⟨l, 3, none⟩) := h30
      refine ⟨fun h => absurd h (by decide), fun _ => ?_⟩
      have c3 : W.cell? ⟨l, 3, none⟩ = some (.int .i64 s1) := cell_of (hk.at hl (by simp)) 3
      have c4 : W.cell? ⟨l, 4, none⟩ = some (.int .i64 s2) := cell_of (hk.at hl (by simp)) 4
      have ll := hk.lt (heap_lt hl)
      clear hr hd hk A75 A74 A97
      exact born_value _ (by go_simp; try rfl) rfl
    · cases ho
      have h1 : a.tmps.getD 1 undef = .int .i64 e := hr 1 (by kernel_rfl)
      refine ⟨fun h => absurd h (by decide), fun _ => ?_⟩
      clear hr hd hk A75 A74 A97
      exact born_value _ (by go_simp; try rfl) rfl
    · cases ho
      have h2 : a.tmps.getD 2 undef = .int .i64 p := hr 2 (by kernel_rfl)
      refine ⟨fun h => absurd h (by decide), fun _ => ?_⟩
      clear hr hd hk A75 A74 A97
      exact born_value _ (by go_simp; try rfl) rfl
    · cases ho
      obtain ⟨_, _, h32⟩ := hd 4 32 (by kernel_rfl) (by kernel_rfl)
      have h32 : a.tmps.getD 32 undef = .int .i64 e := h32
      obtain ⟨_, _, h33⟩ := hd 5 33 (by kernel_rfl) (by kernel_rfl)
      have h33 : a.tmps.getD 33 undef = .int .i64 p := h33
      refine ⟨fun h => absurd h (by decide), fun _ => ?_⟩
      clear hr hd hk
      refine Or.inr ⟨_, _, W, by go_simp; first | done | rfl | exact ⟨rfl, rfl⟩, (A75 W).mono ?_⟩
      rintro e' w' ⟨rfl, os, q, rfl⟩
      exact ⟨_, rfl, (Kept.refl _ _).grow _ _, rfl⟩
    · cases ho
      obtain ⟨_, _, h31⟩ := hd 3 31 (by kernel_rfl) (by kernel_rfl)
      have h31 : a.tmps.getD 31 undef = .agg #[.int .i64 s1, .int .i64 s2] := h31
      obtain ⟨_, _, h34⟩ := hd 6 34 (by kernel_rfl) (by kernel_rfl)
      have h34 : a.tmps.getD 34 undef = .agg #[.int .i64 x1, .int .i64 y1] := h34
      refine ⟨fun h => absurd h (by decide), fun _ => ?_⟩
      clear hr hd hk
      refine Or.inr ⟨_, _, W, by go_simp; first | done | rfl | exact ⟨rfl, rfl⟩, (A74 W).mono ?_⟩
      rintro e' w' ⟨rfl, os, q, rfl⟩
      exact ⟨_, rfl, (Kept.refl _ _).grow _ _, rfl⟩
    · cases ho
      obtain ⟨_, _, h35⟩ := hd 7 35 (by kernel_rfl) (by kernel_rfl)
      have h35 : a.tmps.getD 35 undef = .tuple #[.agg #[.int .i64 x2, .int .i64 y2], .int .i64 0] := h35
      refine ⟨fun h => absurd h (by decide), fun _ => ?_⟩
      clear hr hd hk A75 A74 A97
      exact born_value _ (by go_simp; try rfl) rfl
    · cases ho
      obtain ⟨_, _, h27⟩ := hd 8 27 (by kernel_rfl) (by kernel_rfl)
      have h27 : a.tmps.getD 27 undef = .tuple #[.agg #[.int .i64 x2, .int .i64 y2], .int .i64 0] := h27
      refine ⟨fun h => absurd h (by decide), fun _ => ?_⟩
      clear hr hd hk A75 A74 A97
      exact born_value _ (by go_simp; try rfl) rfl
    · cases ho
      obtain ⟨_, _, h27⟩ := hd 8 27 (by kernel_rfl) (by kernel_rfl)
      have h27 : a.tmps.getD 27 undef = .tuple #[.agg #[.int .i64 x2, .int .i64 y2], .int .i64 0] := h27
      clear hr hd hk A75 A74 A97
      exact ⟨fun _ => ⟨_, fun W => by go_simp; try rfl, rfl⟩, fun h => absurd h (by decide)⟩
    · cases ho
      refine ⟨fun h => absurd h (by decide), fun _ => ?_⟩
      clear hr hd hk
      refine born_alloc _ _ (by go_simp; first | done | rfl | exact ⟨rfl, rfl⟩) ⟨W.heap.size, by omega, by omega, rfl, heap_alloc_new⟩
    · omega
  · intro vs lo hi W hK h1 h2
    have yy0 : vs 0 = .pointer (some ⟨l, 0, none⟩) := (h1 0 (by omega)).2.2.2
    have yy1 : vs 1 = .pointer (some ⟨l, 0, none⟩) := (h1 1 (by omega)).2.2.2
    have yy2 : vs 2 = .pointer (some ⟨l, 3, none⟩) := (h1 2 (by omega)).2.2.2
    have yy3 : vs 3 = .agg #[.int .i64 s1, .int .i64 s2] := (h1 3 (by omega)).2.2.2
    have yy4 : vs 4 = .int .i64 e := (h1 4 (by omega)).2.2.2
    have yy5 : vs 5 = .int .i64 p := (h1 5 (by omega)).2.2.2
    have yy6 : vs 6 = .agg #[.int .i64 x1, .int .i64 y1] := (h1 6 (by omega)).2.2.2
    have yy7 : vs 7 = .tuple #[.agg #[.int .i64 x2, .int .i64 y2], .int .i64 0] := (h1 7 (by omega)).2.2.2
    have yy8 : vs 8 = .tuple #[.agg #[.int .i64 x2, .int .i64 y2], .int .i64 0] := (h1 8 (by omega)).2.2.2
    have yy9 : vs 9 = .agg #[.int .i64 x2, .int .i64 y2] := (h1 9 (by omega)).2.2.2
    have yy10 : vs 10 = .int .i64 0 := (h1 10 (by omega)).2.2.2
    obtain ⟨p11, q11, r11, b11, t11, u11, yy11, z11⟩ := h1 11 (by omega)
    simp only [fillR, List.length_cons, List.length_nil, Nat.reduceAdd, List.setIfInBounds_toArray, List.set_cons_succ, List.set_cons_zero]
    rw [yy0, yy1, yy2, yy3, yy4, yy5, yy6, yy7, yy8, yy9, yy10, yy11]
    show wpAny _ _ _ _ 2 _ _ _
    have hl2 := hK.at hl (by simp)
    have lb := heap_lt z11
    have lhi : W1.heap.size ≤ b11 := Nat.le_trans p11 t11
    have g0 : W.cell? ⟨b11, 0, none⟩ = some (.int .i64 0) := cell_of z11 0
    have g1 : W.cell? ⟨b11, 1, none⟩ = some (.int .i64 0) := cell_of z11 1
    have f0 : W.frozen? ⟨b11, 0, none⟩ = false := frozen_of z11 0
    have f1 : W.frozen? ⟨b11, 1, none⟩ = false := frozen_of z11 1
    have nb : b11 ≠ l := by have := heap_lt hl; omega
    have k2 : Kept [] w (((W.setCell ⟨b11, 0, none⟩ (.int .i64 x2)).setCell ⟨b11, 1, none⟩ (.int .i64 y2))) := by
      refine ((Kept.trans kw.out hK (by simp) (by simp)).setCell _ _ (Or.inr ?_)).setCell _ _ (Or.inr ?_) <;> (have := kw.out.1; simp only; omega)
    have hl3 : ((W.setCell ⟨b11, 0, none⟩ (.int .i64 x2)).setCell ⟨b11, 1, none⟩ (.int .i64 y2)).heap[l]? = _ := (heap_setCell_ne nb).trans ((heap_setCell_ne nb).trans hl2)
    have hb3 : ((W.setCell ⟨b11, 0, none⟩ (.int .i64 x2)).setCell ⟨b11, 1, none⟩ (.int .i64 y2)).heap[b11]? = some (.cells #[.int .i64 x2, .int .i64 y2] 39 (0, 0)) := heap_setCell (heap_setCell z11)
    replace k2 := Lib.hid k2
    clear h1 h2 p11 q11 r11 t11 u11 hK yy0 yy1 yy2 yy3 yy4 yy5 yy6 yy7 yy8 yy9 yy10 yy11 z11 lhi nb hl hl2 kw A75 A74
    refine aSkip (i := 12) (w' := ?_) rfl (by kernel_rfl) (by rfl) ?_ ?_
    rotate_left 1
    · go_simp; all_goals with_reducible rfl
    try simp only [Act.put, zA, zB, zC]
    generalize hW2 : ((W.setCell ⟨b11, 0, none⟩ (.int .i64 x2)).setCell ⟨b11, 1, none⟩ (.int .i64 y2)) = W2 at *
    refine aVal (i := 13) (v := ?_) rfl (by kernel_rfl) (by rfl) ?_ ?_
    rotate_left 1
    · go_simp; all_goals with_reducible rfl
    try simp only [Act.put, zA, zB, zC]
    refine wpAny_done (by kernel_rfl) ?_ _
    have c0 : W2.cell? ⟨l, 0, none⟩ = some (.int .i64 1) := cell_of hl3 0
    have m0 : W2.cell? ⟨b11, 0, none⟩ = some (.int .i64 x2) := cell_of hb3 0
    have m1 : W2.cell? ⟨b11, 1, none⟩ = some (.int .i64 y2) := cell_of hb3 1
    have ll := heap_lt hl3
    have lb2 := heap_lt hb3
    clear hl3 hb3 hW2 g0 g1 f0 f1 lb
    go_wp2_with fail
    refine sBegin (fun X => ∃ os q, Go.Proofs.YtgfbfklnhmndfaaGreat.grow W2 os q = X) 8 (by kernel_rfl) (gr_drew (gr_refl _)) ?_
    refine sTake (i := 0) (v := ?_) rfl (by kernel_rfl) (fun _ _ _ h => h) (gLoad (by rfl) ?_) ?_
    rotate_left 1
    · intro W hW; (try dsimp only at hW); obtain ⟨os', q', hW'⟩ := hW; subst hW'; go_simp; all_goals with_reducible rfl
    try simp only [Act.put, zA, zB, zC]
    refine sTake (i := 1) (v := ?_) rfl (by kernel_rfl) (fun _ _ _ h => h) (gLoad (by rfl) ?_) ?_
    rotate_left 1
    · intro W hW; (try dsimp only at hW); obtain ⟨os', q', hW'⟩ := hW; subst hW'; go_simp; all_goals with_reducible rfl
    try simp only [Act.put, zA, zB, zC]
    refine sTake (i := 2) (v := ?_) rfl (by kernel_rfl) (fun _ _ _ h => h) (gLoad (by rfl) ?_) ?_
    rotate_left 1
    · intro W hW; (try dsimp only at hW); obtain ⟨os', q', hW'⟩ := hW; subst hW'; go_simp; all_goals with_reducible rfl
    try simp only [Act.put, zA, zB, zC]
    refine sTake (i := 3) (v := ?_) rfl (by kernel_rfl) (fun _ _ _ h => h) (gLoad (by rfl) ?_) ?_
    rotate_left 1
    · intro W hW; (try dsimp only at hW); obtain ⟨os', q', hW'⟩ := hW; subst hW'; go_simp; all_goals with_reducible rfl
    try simp only [Act.put, zA, zB, zC]
    refine sTake (i := 4) (v := ?_) rfl (by kernel_rfl) (fun _ _ _ h => h) (gLoad (by rfl) ?_) ?_
    rotate_left 1
    · intro W hW; (try dsimp only at hW); obtain ⟨os', q', hW'⟩ := hW; subst hW'; go_simp; all_goals with_reducible rfl
    try simp only [Act.put, zA, zB, zC]
    refine sTake (i := 5) (v := ?_) rfl (by kernel_rfl) (fun _ _ _ h => h) (gLoad (by rfl) ?_) ?_
    rotate_left 1
    · intro W hW; (try dsimp only at hW); obtain ⟨os', q', hW'⟩ := hW; subst hW'; go_simp; all_goals with_reducible rfl
    try simp only [Act.put, zA, zB, zC]
    refine sTake (i := 6) rfl (by kernel_rfl) (fun _ _ _ h => h) (gCall (by rfl) ?_ (fun W hW => RetG.into A97 hW)) ?_
    · intro W hW; go_simp; all_goals with_reducible rfl
    try simp only [Act.put, zA, zB, zC]
    refine sTake (i := 7) (v := ?_) rfl (by kernel_rfl) (fun _ _ _ h => h) (gLoad (by rfl) ?_) ?_
    rotate_left 1
    · intro W hW; (try dsimp only at hW); obtain ⟨os', q', hW'⟩ := hW; subst hW'; go_simp; all_goals with_reducible rfl
    try simp only [Act.put, zA, zB, zC]
    refine sDone (by kernel_rfl) ?_
    intro X hX
    obtain ⟨os3, q3, rfl⟩ := hX
    go_wp2_with fail
    go_returns
    exact ⟨rfl, k2.out.grow _ _⟩
theorem Can73 (l A B cc : Nat) (e p : Nat) (he : 1 ≤ e) (hep : e ≤ p) (hp : p ≤ 1048575) (w : World) (hl : w.heap[l]? = some (.cells #[.int .i64 1, .map (some A), .map (some B), .int .i64 0, .int .i64 1] 92 (0, 0))) (hB : w.heap[B]? = some (.map #[] cc)) :
    Calls Tryz.prog 73 #[.pointer (some ⟨l, 0, none⟩), .int .i64 e, .int .i64 p] w fun e' w' => e' = .returned (.int .i64 0) ∧ Kept [] w w' := by
  have hsm := sm_mk e p (by omega) (by omega)
  refine Can73' l A B cc e p 0 1 (mkRat e p).num (mkRat e p).den (mkRat e p).num (mkRat e p).den (cmpR (mkRat e p) 1) (by omega) (by omega) (by omega) ?_ w hl hB (fun W => fraction75 e p (by omega) (by omega) (by omega) W) (fun W => ?_) (fun W => Cmp97 _ 1 hsm sm_one W)
  · unfold cmpR
    rw [if_neg (mk_le_one e p (by omega) hep)]
    split <;> omega
  · have := Add74 0 (mkRat e p) sm_zero hsm W
    rw [Rat.zero_add] at this
    exact this
theorem Add47 (l A B ca cc : Nat) (id : Int) (e p : Nat) (he : 1 ≤ e) (hep : e ≤ p) (hp : p ≤ 1048575) (w : World) (hl : w.heap[l]? = some (.cells #[.int .i64 1, .map (some A), .map (some B), .int .i64 0, .int .i64 1] 92 (0, 0))) (hA : w.heap[A]? = some (.map #[] ca)) (hB : w.heap[B]? = some (.map #[] cc)) (hAB : A ≠ B) :
    Calls Tryz.prog 47 #[.pointer (some ⟨l, 0, none⟩), .int .i64 id, .int .i64 e, .int .i64 p] w fun e' w' => e' = .returned (.int .i64 0) ∧ Kept [l, A, B] w w' ∧ ∃ s1 s2, w'.heap[l]? = some (.cells #[.int .i64 1, .map (some A), .map (some B), .int .i64 s1, .int .i64 s2] 92 (0, 0)) := by
  have M := fun W => may72 e p (by omega) (by omega) (by omega) W
  have C := fun W => Can73 l A B cc e p he hep hp W
  have hsm := sm_mk e p (by omega) (by omega)
  have A75 := fun W => fraction75 e p (by omega) (by omega) (by omega) W
  have A74 := fun W => Add74 0 (mkRat e p) sm_zero hsm W
  rw [Rat.zero_add] at A74
  unfold rv at A74 A75
  generalize (mkRat e p).num = x1 at *
  generalize (mkRat e p).den = y1 at *
  have c1 : w.cell? ⟨l, 1, none⟩ = some (.map (some A)) := cell_of hl 1
  have ll := heap_lt hl
  have hL := look_none Tryz.underlying89 Tryz.underlying3 (z := .agg #[.int .i64 0, .int .i64 0]) (w := w) (by kernel_rfl) hA id true
  have st := Lib.hid (And.intro hl (And.intro hA (And.intro hB hAB)))
  clear he hep hp hl hA hB hAB hsm
  simp only [if_true] at hL
  go_enter Tryz.func47, Tryz.ntmps47
  go_wp2_with fail
  refine (M _).mono ?_
  rintro e' w1 ⟨rfl, os, q, rfl⟩
  have hL1 : (Instr.lookup 89 (.map (some A)) (.int .i64 id) true).run Tryz.prog (Go.Proofs.YtgfbfklnhmndfaaGreat.grow w os q) = .ok (.tuple #[.agg #[.int .i64 0, .int .i64 0], .bool false]) (Go.Proofs.YtgfbfklnhmndfaaGreat.grow w os q) := by
    have := look_none Tryz.underlying89 Tryz.underlying3 (z := .agg #[.int .i64 0, .int .i64 0]) (w := Go.Proofs.YtgfbfklnhmndfaaGreat.grow w os q) (by kernel_rfl) ((heap_grow (heap_lt st.out.2.1)).trans st.out.2.1) id true
    simpa using this
  go_wp2_with fail
  have kW : Kept [] w ((Go.Proofs.YtgfbfklnhmndfaaGreat.grow w os q).alloc (.cells #[.int .i64 0, .int .i64 0] 174)) := ((Kept.refl _ _).grow _ _).alloc _
  generalize ((Go.Proofs.YtgfbfklnhmndfaaGreat.grow w os q).alloc (.cells #[.int .i64 0, .int .i64 0] 174)) = W at *
  refine (C W (kW.at st.out.1 (by simp)) (kW.at st.out.2.2.1 (by simp))).mono ?_
  rintro e' w1 ⟨rfl, k1⟩
  have k1 : Kept [] w w1 := Kept.trans kW k1 (by simp) (by simp)
  obtain ⟨hl, hA, hB, hAB⟩ := st.out
  have hl1 := k1.at hl (by simp)
  have hA1 := k1.at hA (by simp)
  have hB1 := k1.at hB (by simp)
  have c1 : w1.cell? ⟨l, 1, none⟩ = some (.map (some A)) := cell_of hl1 1
  have ll := heap_lt hl1
  have nA : A ≠ l := heap_ne hA1 hl1 (by simp)
  have nB : B ≠ l := heap_ne hB1 hl1 (by simp)
  have hP := put_none Tryz.underlying89 Tryz.underlying3 hA1 id (.agg #[.int .i64 e, .int .i64 p])
  have k2 := k1.mono (U := [l, A, B]) (by simp) |>.setBlock A (.map #[{ key := .int .i64 id, val := .agg #[.int .i64 e, .int .i64 p], born := ca }] (ca + 1)) (Or.inl (by simp))
  have hl2 := (heap_setBlock_ne (w := w1) (o := .map #[{ key := .int .i64 id, val := .agg #[.int .i64 e, .int .i64 p], born := ca }] (ca + 1)) nA).trans hl1
  have hB2 := (heap_setBlock_ne (w := w1) (o := .map #[{ key := .int .i64 id, val := .agg #[.int .i64 e, .int .i64 p], born := ca }] (ca + 1)) hAB).trans hB1
  generalize hW2 : Go.ChangeMaps.setBlock w1 A (.map #[{ key := .int .i64 id, val := .agg #[.int .i64 e, .int .i64 p], born := ca }] (ca + 1)) = W2 at *
  have c2 : W2.cell? ⟨l, 2, none⟩ = some (.map (some B)) := cell_of hl2 2
  have ll2 := heap_lt hl2
  have hL2 := look_none Tryz.underlying90 Tryz.underlying3 (z := .int .i64 0) (w := W2) (by kernel_rfl) hB2 p false
  simp only [Bool.false_eq_true, if_false] at hL2
  have hP2 := put_none Tryz.underlying90 Tryz.underlying3 hB2 p (.int .i64 1)
  have k3 := k2.setBlock B (.map #[{ key := .int .i64 p, val := .int .i64 1, born := cc }] (cc + 1)) (Or.inl (by simp))
  have hl3 := (heap_setBlock_ne (w := W2) (o := .map #[{ key := .int .i64 p, val := .int .i64 1, born := cc }] (cc + 1)) nB).trans hl2
  generalize hW3 : Go.ChangeMaps.setBlock W2 B (.map #[{ key := .int .i64 p, val := .int .i64 1, born := cc }] (cc + 1)) = W3 at *
  have c3 : W3.cell? ⟨l, 3, none⟩ = some (.int .i64 0) := cell_of hl3 3
  have c4 : W3.cell? ⟨l, 4, none⟩ = some (.int .i64 1) := cell_of hl3 4
  have ll3 := heap_lt hl3
  have st2 := Lib.hid (And.intro k3 hl3)
  clear hl hA hB hAB hl1 hA1 hB1 nA nB hl2 hB2 k1 k2 k3 hl3 hW3 hW2 kW st hL hL1 M C
  go_wp2_with fail
  refine wp_region_any (by kernel_rfl) ?_
  rw [List.size_toArray]
  refine yTake (i := 0) rfl (by kernel_rfl) (fun _ _ _ h => h) (by rfl) (fun _ => by go_simp; first | done | rfl) ?_
  try simp only [Act.put, zA, zB, zC]
  refine wpAnyS_any (S := fun X => ∃ os q, Go.Proofs.YtgfbfklnhmndfaaGreat.grow W3 os q = X) (k := 9) _ _ _ ?_ _ (gr_drew (gr_refl _))
  refine sTake (i := 1) (v := ?_) rfl (by kernel_rfl) (fun _ _ _ h => h) (gLoad (by rfl) ?_) ?_
  rotate_left 1
  · intro W hW; (try dsimp only at hW); obtain ⟨os', q', hW'⟩ := hW; subst hW'; go_simp; all_goals with_reducible rfl
  try simp only [Act.put, zA, zB, zC]
  refine sTake (i := 2) (v := ?_) rfl (by kernel_rfl) (fun _ _ _ h => h) (gLoad (by rfl) ?_) ?_
  rotate_left 1
  · intro W hW; (try dsimp only at hW); obtain ⟨os', q', hW'⟩ := hW; subst hW'; go_simp; all_goals with_reducible rfl
  try simp only [Act.put, zA, zB, zC]
  refine sTake (i := 3) (v := ?_) rfl (by kernel_rfl) (fun _ _ _ h => h) (gLoad (by rfl) ?_) ?_
  rotate_left 1
  · intro W hW; (try dsimp only at hW); obtain ⟨os', q', hW'⟩ := hW; subst hW'; go_simp; all_goals with_reducible rfl
  try simp only [Act.put, zA, zB, zC]
  refine sTake (i := 4) (v := ?_) rfl (by kernel_rfl) (fun _ _ _ h => h) (gLoad (by rfl) ?_) ?_
  rotate_left 1
  · intro W hW; (try dsimp only at hW); obtain ⟨os', q', hW'⟩ := hW; subst hW'; go_simp; all_goals with_reducible rfl
  try simp only [Act.put, zA, zB, zC]
  refine sTake (i := 5) (v := ?_) rfl (by kernel_rfl) (fun _ _ _ h => h) (gLoad (by rfl) ?_) ?_
  rotate_left 1
  · intro W hW; (try dsimp only at hW); obtain ⟨os', q', hW'⟩ := hW; subst hW'; go_simp; all_goals with_reducible rfl
  try simp only [Act.put, zA, zB, zC]
  refine sTake (i := 6) (v := ?_) rfl (by kernel_rfl) (fun _ _ _ h => h) (gLoad (by rfl) ?_) ?_
  rotate_left 1
  · intro W hW; (try dsimp only at hW); obtain ⟨os', q', hW'⟩ := hW; subst hW'; go_simp; all_goals with_reducible rfl
  try simp only [Act.put, zA, zB, zC]
  refine sTake (i := 7) rfl (by kernel_rfl) (fun _ _ _ h => h) (gCall (by rfl) ?_ (fun W hW => RetG.into A75 hW)) ?_
  · intro W hW; go_simp; all_goals with_reducible rfl
  try simp only [Act.put, zA, zB, zC]
  refine sTake (i := 8) rfl (by kernel_rfl) (fun _ _ _ h => h) (gCall (by rfl) ?_ (fun W hW => RetG.into A74 hW)) ?_
  · intro W hW; go_simp; all_goals with_reducible rfl
  try simp only [Act.put, zA, zB, zC]
  refine sRest (by kernel_rfl) ?_
  intro X hX
  obtain ⟨os3, q3, rfl⟩ := hX
  obtain ⟨k3, hl3⟩ := st2.out
  have kX : Kept [] W3 (Go.Proofs.YtgfbfklnhmndfaaGreat.grow W3 os3 q3) := (Kept.refl _ _).grow _ _
  have hl4 := kX.at hl3 (by simp)
  have k4 := Kept.trans k3 kX (U := [l, A, B]) (fun x h => h) (by simp)
  generalize Go.Proofs.YtgfbfklnhmndfaaGreat.grow W3 os3 q3 = X at *
  have ll4 := heap_lt hl4
  have c3 : X.cell? ⟨l, 3, none⟩ = some (.int .i64 0) := cell_of hl4 3
  have c4 : X.cell? ⟨l, 4, none⟩ = some (.int .i64 1) := cell_of hl4 4
  have f3 : X.frozen? ⟨l, 3, none⟩ = false := frozen_of hl4 3
  have f4 : X.frozen? ⟨l, 4, none⟩ = false := frozen_of hl4 4
  have hl5 : ((X.setCell ⟨l, 3, none⟩ (.int .i64 x1)).setCell ⟨l, 4, none⟩ (.int .i64 y1)).heap[l]? = _ := heap_setCell (heap_setCell hl4)
  have k5 := (k4.setCell ⟨l, 3, none⟩ (.int .i64 x1) (Or.inl (by simp))).setCell ⟨l, 4, none⟩ (.int .i64 y1) (Or.inl (by simp))
  replace st2 := Lib.hid (And.intro k5 hl5)
  clear k3 k4 k5 hl5 hl4 hl3 kX
  refine aVal (i := 9) (v := ?_) rfl (by kernel_rfl) (by rfl) ?_ ?_
  rotate_left 1
  · go_simp; all_goals with_reducible rfl
  try simp only [Act.put, zA, zB, zC]
  refine yTake (i := 10) rfl (by kernel_rfl) (fun _ _ _ h => h) (by rfl) (fun _ => by go_simp; first | done | rfl) ?_
  try simp only [Act.put, zA, zB, zC]
  refine yTake (i := 11) rfl (by kernel_rfl) (fun _ _ _ h => h) (by rfl) (fun _ => by go_simp; first | done | rfl) ?_
  try simp only [Act.put, zA, zB, zC]
  refine aVal (i := 12) (v := ?_) rfl (by kernel_rfl) (by rfl) ?_ ?_
  rotate_left 1
  · go_simp; all_goals with_reducible rfl
  try simp only [Act.put, zA, zB, zC]
  refine aVal (i := 13) (v := ?_) rfl (by kernel_rfl) (by rfl) ?_ ?_
  rotate_left 1
  · go_simp; all_goals with_reducible rfl
  try simp only [Act.put, zA, zB, zC]
  refine aSkip (i := 14) (w' := ?_) rfl (by kernel_rfl) (by rfl) ?_ ?_
  rotate_left 1
  · go_simp; all_goals with_reducible rfl
  try simp only [Act.put, zA, zB, zC]
  refine wpAny_done (by kernel_rfl) ?_ _
  go_wp2_with fail
  go_returns
  exact ⟨rfl, st2.out.1, _, _, st2.out.2⟩
theorem Sum27 (l : Nat) (a b c : Value) (x y : Int) (w : World) (hl : w.heap[l]? = some (.cells #[a, b, c, .int .i64 x, .int .i64 y] 92 (0, 0))) :
    Calls Tryz.prog 27 #[.pointer (some ⟨l, 0, none⟩)] w fun e w' => e = .returned (.agg #[.int .i64 x, .int .i64 y]) ∧ Kept [] w w' := by
  have c3 : w.cell? ⟨l, 3, none⟩ = some (.int .i64 x) := cell_of hl 3
  have c4 : w.cell? ⟨l, 4, none⟩ = some (.int .i64 y) := cell_of hl 4
  have ll := heap_lt hl
  clear hl
  go_enter Tryz.func27, Tryz.ntmps27
  go_wp2_with fail
  (try simp only [Exit.inBlock, Exit.then])
  refine bodyPost_ret (by simp [results, Tryz.results27, go_sem, *]; try rfl) rfl ?_
  refine ⟨rfl, ?_⟩
  repeat first | exact Kept.refl _ _ | refine Kept.alloc ?_ _ | refine Kept.setCell ?_ _ _ (Or.inr (by simp))
end
end Go.Proofs.YtgfbfklnhmndfaaGreat
