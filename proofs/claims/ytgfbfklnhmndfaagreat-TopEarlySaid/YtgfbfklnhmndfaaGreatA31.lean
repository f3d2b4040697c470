/- The parts of the top that the law of early release walks through: part 31 of 52. -/
import Derived.Test.YtgfbfklnhmndfaaGreatA1
import Derived.Test.YtgfbfklnhmndfaaGreatA3
import Derived.Test.YtgfbfklnhmndfaaGreatA4
import Derived.Test.YtgfbfklnhmndfaaGreatA8
import Derived.Test.YtgfbfklnhmndfaaGreatA9
import Derived.Test.YtgfbfklnhmndfaaGreatA13
import Derived.Test.YtgfbfklnhmndfaaGreatA15
import Derived.Test.YtgfbfklnhmndfaaGreatA16
import Derived.Test.YtgfbfklnhmndfaaGreatA20
import Derived.Test.YtgfbfklnhmndfaaGreatA21
import Derived.Test.YtgfbfklnhmndfaaGreatA23
import Derived.Test.YtgfbfklnhmndfaaGreatA24
import Derived.Test.YtgfbfklnhmndfaaGreatA25
import Derived.Test.YtgfbfklnhmndfaaGreatA27
import Derived.Test.YtgfbfklnhmndfaaGreatA29
import Derived.Test.YtgfbfklnhmndfaaGreatA30
namespace Go.Proofs.YtgfbfklnhmndfaaGreat
open Go.RowKit
set_option linter.unusedSimpArgs false
set_option linter.unusedVariables false
section
attribute [local go_sem ↓] setCell_drewN alloc_drewN grow_cell grow_frozen setCell_grow grow_size cell_alloc_grow frozen_alloc_grow setCell_alloc_grow cell_grow_alloc_grow frozen_grow_alloc_grow setCell_grow_alloc_grow grow_grow
attribute [local go_sem] lt_len size_setCell
def lastY (z : Ad) (B8 : Nat) (id tn td : Int) (job there : Bool) (i : Nat) (v : Value) (lo hi : Nat) (w : World) : Prop := match i with
  | 0 => v = .pointer (some ⟨z.x, 0, none⟩)
  | 1 => v = .pointer (some ⟨z.x, 0, none⟩)
  | 2 => v = .pointer (some ⟨z.x, 18, none⟩)
  | 3 => v = .map (some z.ls)
  | 4 => v = .pointer (some ⟨B8, 2, none⟩)
  | 5 => v = .int .i64 id
  | 6 => v = .agg #[.int .i64 0, .int .i64 tn, .int .i64 td, .bool job, .bool there]
  | 7 => ∃ b, lo ≤ b ∧ b < hi ∧ v = .pointer (some ⟨b, 0, none⟩) ∧ w.heap[b]? = some (.cells #[.int .i64 0, .int .i64 0, .int .i64 0, .bool false, .bool false] 187 (0, 0))
  | _ => True
set_option maxHeartbeats 8000000 in
theorem count57_one (z : Ad) (tasks mode ring clock idle given jobs id : Int) (all : Value) (G c : Nat) (cur : List Value) (w : World) (hx : XAt w z tasks mode ring clock idle given all) (hb : w.heap[z.bk]? = some (.cells #[.slice none 0 0] 108 (0, 0))) (hm : MeterAt w z.m jobs) (hl : LastAt w z.ls id)
    (hG : w.heap[G]? = some (.cells (pieceL 1 0 id clock 1 (clock + 1) 1 false cur).toArray 53 (0, 0))) (hi0 : 0 ≤ idle) (hi1 : idle < 536870912) (hg0 : 0 ≤ given) (hg1 : given < 536870912) (hk0 : 0 ≤ clock) (hk1 : clock < 536870911) :
    Calls Tryz.prog 57 #[pt z.x, .slice (some ⟨G, 0, none⟩) 1 c] w fun e' w' => e' = .returned (.tuple #[]) ∧ XAt w' z tasks mode ring clock idle given all ∧ w'.heap[z.bk]? = some (.cells #[.slice none 0 0] 108 (0, 0)) ∧ MeterAt w' z.m jobs ∧ LastAt w' z.ls id ∧ Kept [z.x, z.bk, z.m, z.ls] w w' := by
  unfold XAt at *
  replace hb := Lib.hid (And.intro hb (And.intro hm (And.intro hl hG)))
  clear hm hl hG
  have A83 := fun W => whole83 1 W
  go_enter Tryz.func57, Tryz.ntmps57
  go_wp2_with fail
  refine bornQ 14 [] [5, 4, 24, 23, 22, 21, 20, 19, 18, 17, 16, 15, 14, 13] (countY z) (by kernel_rfl) (by kernel_rfl) (by kernel_rfl) (fun _ _ d _ _ h => by cases d <;> exact h) ?_ ?_ ?_
  · intro i v lo hi w w' hY hw
    unfold countY at *
    split at hY <;> first
      | exact hY
      | (obtain ⟨b, h1, h2, h3, h4⟩ := hY; exact ⟨b, h1, h2, h3, by rw [hw b h1 h2]; exact h4⟩)
      | trivial
  · intro i hi o ho a W hr hd hk
    rcases i with _ | _ | _ | _ | _ | _ | _ | _ | _ | _ | _ | _ | _ | _ | i
    · cases ho
      have h0 : a.tmps.getD 0 undef = .pointer (some ⟨z.x, 0, none⟩) := (hr 0 (by kernel_rfl)).trans (by kernel_rfl)
      refine ⟨fun h => absurd h (by decide), fun _ => ?_⟩
      clear hr hd hk A83
      exact born_value _ (by go_simp; try rfl) rfl
    · cases ho
      obtain ⟨_, _, h13⟩ := hd 0 13 (by kernel_rfl) (by kernel_rfl)
      have h13 : a.tmps.getD 13 undef = .pointer (some ⟨z.x, 0, none⟩) := h13
      refine ⟨fun h => absurd h (by decide), fun _ => ?_⟩
      clear hr hd hk A83
      exact born_value _ (by go_simp; try rfl) rfl
    · cases ho
      obtain ⟨_, _, h14⟩ := hd 1 14 (by kernel_rfl) (by kernel_rfl)
      have h14 : a.tmps.getD 14 undef = .pointer (some ⟨z.x, 0, none⟩) := h14
      refine ⟨fun h => absurd h (by decide), fun _ => ?_⟩
      clear hr hd hk A83
      exact born_value _ (by go_simp; try rfl) rfl
    · cases ho
      obtain ⟨_, _, h15⟩ := hd 2 15 (by kernel_rfl) (by kernel_rfl)
      have h15 : a.tmps.getD 15 undef = .pointer (some ⟨z.x, 0, none⟩) := h15
      refine ⟨fun h => absurd h (by decide), fun _ => ?_⟩
      clear hr hd hk A83
      exact born_value _ (by go_simp; try rfl) rfl
    · cases ho
      obtain ⟨_, _, h16⟩ := hd 3 16 (by kernel_rfl) (by kernel_rfl)
      have h16 : a.tmps.getD 16 undef = .pointer (some ⟨z.x, 0, none⟩) := h16
      refine ⟨fun h => absurd h (by decide), fun _ => ?_⟩
      have c0 : W.cell? ⟨z.x, 0, none⟩ = some (.int .i64 1) := cell_of (hk.at hx (by simp)) 0
      have ll := hk.lt (heap_lt hx)
      clear hr hd hk A83
      exact born_value _ (by go_simp; try rfl) rfl
    · cases ho
      obtain ⟨_, _, h17⟩ := hd 4 17 (by kernel_rfl) (by kernel_rfl)
      have h17 : a.tmps.getD 17 undef = .int .i64 1 := h17
      refine ⟨fun h => absurd h (by decide), fun _ => ?_⟩
      clear hr hd hk
      refine Or.inr ⟨_, _, W, by go_simp; first | done | rfl | exact ⟨rfl, rfl⟩, (A83 W).mono ?_⟩
      rintro e' w' ⟨rfl, os, q, rfl⟩
      exact ⟨_, rfl, (Kept.refl _ _).grow _ _, rfl⟩
    · cases ho
      have h0 : a.tmps.getD 0 undef = .pointer (some ⟨z.x, 0, none⟩) := (hr 0 (by kernel_rfl)).trans (by kernel_rfl)
      refine ⟨fun h => absurd h (by decide), fun _ => ?_⟩
      clear hr hd hk A83
      exact born_value _ (by go_simp; try rfl) rfl
    · cases ho
      obtain ⟨_, _, h19⟩ := hd 6 19 (by kernel_rfl) (by kernel_rfl)
      have h19 : a.tmps.getD 19 undef = .pointer (some ⟨z.x, 0, none⟩) := h19
      refine ⟨fun h => absurd h (by decide), fun _ => ?_⟩
      clear hr hd hk A83
      exact born_value _ (by go_simp; try rfl) rfl
    · cases ho
      obtain ⟨_, _, h20⟩ := hd 7 20 (by kernel_rfl) (by kernel_rfl)
      have h20 : a.tmps.getD 20 undef = .pointer (some ⟨z.x, 0, none⟩) := h20
      refine ⟨fun h => absurd h (by decide), fun _ => ?_⟩
      clear hr hd hk A83
      exact born_value _ (by go_simp; try rfl) rfl
    · cases ho
      obtain ⟨_, _, h21⟩ := hd 8 21 (by kernel_rfl) (by kernel_rfl)
      have h21 : a.tmps.getD 21 undef = .pointer (some ⟨z.x, 0, none⟩) := h21
      refine ⟨fun h => absurd h (by decide), fun _ => ?_⟩
      clear hr hd hk A83
      exact born_value _ (by go_simp; try rfl) rfl
    · cases ho
      obtain ⟨_, _, h22⟩ := hd 9 22 (by kernel_rfl) (by kernel_rfl)
      have h22 : a.tmps.getD 22 undef = .pointer (some ⟨z.x, 0, none⟩) := h22
      refine ⟨fun h => absurd h (by decide), fun _ => ?_⟩
      have c0 : W.cell? ⟨z.x, 0, none⟩ = some (.int .i64 1) := cell_of (hk.at hx (by simp)) 0
      have ll := hk.lt (heap_lt hx)
      clear hr hd hk A83
      exact born_value _ (by go_simp; try rfl) rfl
    · cases ho
      obtain ⟨_, _, h23⟩ := hd 10 23 (by kernel_rfl) (by kernel_rfl)
      have h23 : a.tmps.getD 23 undef = .int .i64 1 := h23
      refine ⟨fun h => absurd h (by decide), fun _ => ?_⟩
      clear hr hd hk
      refine Or.inr ⟨_, _, W, by go_simp; first | done | rfl | exact ⟨rfl, rfl⟩, (A83 W).mono ?_⟩
      rintro e' w' ⟨rfl, os, q, rfl⟩
      exact ⟨_, rfl, (Kept.refl _ _).grow _ _, rfl⟩
    · cases ho
      refine ⟨fun h => absurd h (by decide), fun _ => ?_⟩
      clear hr hd hk
      refine born_alloc _ _ (by go_simp; first | done | rfl | exact ⟨rfl, rfl⟩) ⟨W.heap.size, by omega, by omega, rfl, heap_alloc_new⟩
    · cases ho
      refine ⟨fun h => absurd h (by decide), fun _ => ?_⟩
      clear hr hd hk
      refine born_alloc _ _ (by go_simp; first | done | rfl | exact ⟨rfl, rfl⟩) ⟨W.heap.size, by omega, by omega, rfl, heap_alloc_new⟩
    · omega
  · intro vs lo hi W hK h1 h2
    have yy0 : vs 0 = .pointer (some ⟨z.x, 0, none⟩) := (h1 0 (by omega)).2.2.2
    have yy1 : vs 1 = .pointer (some ⟨z.x, 0, none⟩) := (h1 1 (by omega)).2.2.2
    have yy2 : vs 2 = .pointer (some ⟨z.x, 0, none⟩) := (h1 2 (by omega)).2.2.2
    have yy3 : vs 3 = .pointer (some ⟨z.x, 0, none⟩) := (h1 3 (by omega)).2.2.2
    have yy4 : vs 4 = .int .i64 1 := (h1 4 (by omega)).2.2.2
    have yy5 : vs 5 = wi 1 := (h1 5 (by omega)).2.2.2
    have yy6 : vs 6 = .pointer (some ⟨z.x, 0, none⟩) := (h1 6 (by omega)).2.2.2
    have yy7 : vs 7 = .pointer (some ⟨z.x, 0, none⟩) := (h1 7 (by omega)).2.2.2
    have yy8 : vs 8 = .pointer (some ⟨z.x, 0, none⟩) := (h1 8 (by omega)).2.2.2
    have yy9 : vs 9 = .pointer (some ⟨z.x, 0, none⟩) := (h1 9 (by omega)).2.2.2
    have yy10 : vs 10 = .int .i64 1 := (h1 10 (by omega)).2.2.2
    have yy11 : vs 11 = wi 1 := (h1 11 (by omega)).2.2.2
    obtain ⟨p12, q12, r12, b12, t12, u12, yy12, z12⟩ := h1 12 (by omega)
    obtain ⟨p13, q13, r13, b13, t13, u13, yy13, z13⟩ := h1 13 (by omega)
    simp only [fillR, List.length_cons, List.length_nil, Nat.reduceAdd, List.setIfInBounds_toArray, List.set_cons_succ, List.set_cons_zero]
    rw [yy0, yy1, yy2, yy3, yy4, yy5, yy6, yy7, yy8, yy9, yy10, yy11, yy12, yy13]
    show wpAny _ _ _ _ 2 _ _ _
    have ap := h2 12 13 (by omega) (by omega) (by omega)
    have nb : b12 ≠ b13 := by
      rintro rfl
      omega
    have g4 : w.heap.size ≤ b12 := Nat.le_trans p12 t12
    have g5 : w.heap.size ≤ b13 := Nat.le_trans p13 t13
    have f40 : W.frozen? ⟨b12, 0, none⟩ = false := frozen_of z12 0
    have f41 : W.frozen? ⟨b12, 1, none⟩ = false := frozen_of z12 1
    have e40 : W.cell? ⟨b12, 0, none⟩ = some (.int .i64 0) := cell_of z12 0
    have e41 : W.cell? ⟨b12, 1, none⟩ = some (.int .i64 0) := cell_of z12 1
    have l4 := heap_lt z12
    have hB4 : ((W.setCell ⟨b12, 0, none⟩ (.int .i64 1)).setCell ⟨b12, 1, none⟩ (.int .i64 1)).heap[b12]? = some (.cells #[.int .i64 1, .int .i64 1] 39 (0, 0)) := heap_setCell (heap_setCell z12)
    have hB5 : ((W.setCell ⟨b12, 0, none⟩ (.int .i64 1)).setCell ⟨b12, 1, none⟩ (.int .i64 1)).heap[b13]? = _ := (heap_setCell_ne nb).trans ((heap_setCell_ne nb).trans z13)
    have kW : Kept [] w ((W.setCell ⟨b12, 0, none⟩ (.int .i64 1)).setCell ⟨b12, 1, none⟩ (.int .i64 1)) := (hK.setCell _ _ (Or.inr g4)).setCell _ _ (Or.inr g4)
    replace hx := Lib.hid hx
    clear h1 h2 p12 q12 r12 t12 u12 p13 q13 r13 t13 u13 ap yy0 yy1 yy2 yy3 yy4 yy5 yy6 yy7 yy8 yy9 yy10 yy11 yy12 yy13 z12 z13 hK A83
    refine aSkip (i := 14) (w' := ?_) rfl (by kernel_rfl) (by rfl) ?_ ?_
    rotate_left 1
    · go_simp; all_goals with_reducible rfl
    try simp only [Act.put, zA, zB, zC]
    obtain ⟨W2, hW2⟩ : ∃ W2, ((W.setCell ⟨b12, 0, none⟩ (.int .i64 1)).setCell ⟨b12, 1, none⟩ (.int .i64 1)) = W2 := ⟨_, rfl⟩
    rw [hW2] at hB4 hB5 kW ⊢
    clear hW2 f40 f41 e40 e41 l4
    have f50 : W2.frozen? ⟨b13, 0, none⟩ = false := frozen_of hB5 0
    have f51 : W2.frozen? ⟨b13, 1, none⟩ = false := frozen_of hB5 1
    have e50 : W2.cell? ⟨b13, 0, none⟩ = some (.int .i64 0) := cell_of hB5 0
    have e51 : W2.cell? ⟨b13, 1, none⟩ = some (.int .i64 0) := cell_of hB5 1
    have l5 := heap_lt hB5
    have hC5 : ((W2.setCell ⟨b13, 0, none⟩ (.int .i64 1)).setCell ⟨b13, 1, none⟩ (.int .i64 1)).heap[b13]? = some (.cells #[.int .i64 1, .int .i64 1] 39 (0, 0)) := heap_setCell (heap_setCell hB5)
    have hC4 : ((W2.setCell ⟨b13, 0, none⟩ (.int .i64 1)).setCell ⟨b13, 1, none⟩ (.int .i64 1)).heap[b12]? = _ := (heap_setCell_ne (Ne.symm nb)).trans ((heap_setCell_ne (Ne.symm nb)).trans hB4)
    have kC : Kept [] w ((W2.setCell ⟨b13, 0, none⟩ (.int .i64 1)).setCell ⟨b13, 1, none⟩ (.int .i64 1)) := (kW.setCell _ _ (Or.inr g5)).setCell _ _ (Or.inr g5)
    obtain ⟨W3, hW3⟩ : ∃ W3, ((W2.setCell ⟨b13, 0, none⟩ (.int .i64 1)).setCell ⟨b13, 1, none⟩ (.int .i64 1)) = W3 := ⟨_, rfl⟩
    have st := Lib.hid (And.intro (hW3 ▸ kC) (And.intro (hW3 ▸ hC4) (And.intro (hW3 ▸ hC5) (And.intro g4 (And.intro g5 nb)))))
    clear hB4 hB5 kW hC5 hC4 kC g4 g5 nb
    refine aSkip (i := 15) (w' := ?_) rfl (by kernel_rfl) (by rfl) ?_ ?_
    rotate_left 1
    · go_simp; all_goals with_reducible rfl
    try simp only [Act.put, zA, zB, zC]
    refine wpAny_done (by kernel_rfl) ?_ _
    try rw [hW3]
    clear hW3 f50 f51 e50 e51 l5
    obtain ⟨k3, h4, h5, g4, g5, nb⟩ := st.out
    have cs : CS z w W3 tasks mode ring clock idle given jobs id all b12 b13 1 1 := ⟨k3.mono (by simp), k3.at hx.out (by simp), h4, h5, k3.at hb.out.1 (by simp), hb.out.2.1.kept k3 (by simp), hb.out.2.2.1.kept k3 (by simp), g4, g5, nb⟩
    have C := Clone93_one G c 1 0 id clock 1 (clock + 1) 1 false cur W3 (k3.at hb.out.2.2.2 (by simp))
    replace st := Lib.hid cs
    clear k3 h4 h5 g4 g5 nb cs hb hx
    go_wp2_with fail
    refine C.mono ?_
    rintro e' w1 ⟨G1, C1, cur1, rfl, hC1, hGG, hG1, k1⟩
    have cs := st.out.kept0 k1
    replace st := Lib.hid (And.intro cs hG1)
    clear cs hG1 hGG k1 C
    have O := fun W => Stable94 (some ⟨G1, 0, none⟩) (.func (.func 95) #[] #[]) 1 C1 (by omega) W
    go_wp2_with fail
    refine (O _).mono ?_
    rintro e' V1 ⟨rfl, os1, q1, hV⟩
    have cs := st.out.1.kept0 (kept_grow hV)
    have hG1 := (kept_grow hV).at st.out.2 (by simp)
    have c0 : V1.cell? ⟨G1, 0, none⟩ = some (.int .i64 1) := cell_of hG1 0
    have c1 : V1.cell? ⟨G1, 1, none⟩ = some (.int .i64 0) := cell_of hG1 1
    have c2 : V1.cell? ⟨G1, 2, none⟩ = some (.int .i64 id) := cell_of hG1 2
    have c3 : V1.cell? ⟨G1, 3, none⟩ = some (.int .i64 clock) := cell_of hG1 3
    have c4 : V1.cell? ⟨G1, 4, none⟩ = some (.int .i64 1) := cell_of hG1 4
    have c5 : V1.cell? ⟨G1, 5, none⟩ = some (.int .i64 (clock + 1)) := cell_of hG1 5
    have c6 : V1.cell? ⟨G1, 6, none⟩ = some (.int .i64 1) := cell_of hG1 6
    have c7 : V1.cell? ⟨G1, 7, none⟩ = some (.bool false) := cell_of hG1 7
    have lG := heap_lt hG1
    have L1 := fun W => lessI (clock + 1) clock (by omega) (by omega) hk0 (by omega) W
    rw [show clock + 1 - clock = 1 by omega] at L1
    have L2 := fun W => lessI 1 1 (by omega) (by omega) (by omega) (by omega) W
    rw [show (1 : Int) - 1 = 0 by omega] at L2
    replace st := Lib.hid cs
    clear cs hG1 hV O
    go_wp2_with fail
    refine wp_loop_rounds 2 ?_
    rw [rounds_succ]
    go_wp2_with fail
    refine (L1 _).mono ?_
    rintro e' V2 ⟨rfl, os2, q2, hV2⟩
    have kA : Kept [] V1 (V1.alloc (.cells #[.int .i64 1, .int .i64 0, .int .i64 id, .int .i64 clock, .int .i64 1, .int .i64 (clock + 1), .int .i64 1, .bool false] 53)) := (Kept.refl _ _).alloc _
    have p8 := (kept_grow hV2).at (x := V1.heap.size) heap_alloc_new (by simp)
    have cs := (st.out.kept0 kA).kept0 (kept_grow hV2)
    clear kA c0 c1 c2 c3 c4 c5 c6 c7 lG hC1
    obtain ⟨B8, hB8⟩ : ∃ B, V1.heap.size = B := ⟨_, rfl⟩
    rw [hB8] at p8
    have h50 : V2.cell? ⟨b13, 0, none⟩ = some (.int .i64 1) := cell_of cs.h5 0
    have h51 : V2.cell? ⟨b13, 1, none⟩ = some (.int .i64 1) := cell_of cs.h5 1
    have l5 := heap_lt cs.h5
    replace st := Lib.hid (And.intro cs p8)
    clear cs p8 hV2
    go_wp2_with fail
    refine (L2 _).mono ?_
    rintro e' V3 ⟨rfl, os3, q3, hV3⟩
    have kA : Kept [] V2 (V2.alloc (.cells #[.int .i64 1, .int .i64 1] 39)) := (Kept.refl _ _).alloc _
    have p9 := (kept_grow hV3).at (x := V2.heap.size) heap_alloc_new (by simp)
    have cs := (st.out.1.kept0 kA).kept0 (kept_grow hV3)
    have p8 := (Kept.tr kA (kept_grow hV3)).at st.out.2 (by simp)
    have n9 : b13 ≠ V2.heap.size := by omega
    have n94 : b12 ≠ V2.heap.size := by have := heap_lt st.out.1.h4; omega
    have n8 : b13 ≠ B8 := heap_ne cs.h5 p8 (by simp)
    have n84 : b12 ≠ B8 := heap_ne cs.h4 p8 (by simp)
    obtain ⟨B9, hB9⟩ : ∃ B, V2.heap.size = B := ⟨_, rfl⟩
    rw [hB9] at p9 n9 n94
    have cs4 := cs.set5 0
    have p84 : ((V3.setCell ⟨b13, 0, none⟩ (.int .i64 0)).setCell ⟨b13, 1, none⟩ (.int .i64 1)).heap[B8]? = _ := (heap_setCell_ne n8).trans ((heap_setCell_ne n8).trans p8)
    have p94 : ((V3.setCell ⟨b13, 0, none⟩ (.int .i64 0)).setCell ⟨b13, 1, none⟩ (.int .i64 1)).heap[B9]? = _ := (heap_setCell_ne n9).trans ((heap_setCell_ne n9).trans p9)
    clear h50 h51 l5
    have f0 : V3.frozen? ⟨b13, 0, none⟩ = false := frozen_of cs.h5 0
    have f1 : V3.frozen? ⟨b13, 1, none⟩ = false := frozen_of cs.h5 1
    have e50 : V3.cell? ⟨b13, 0, none⟩ = some (.int .i64 1) := cell_of cs.h5 0
    have e51 : V3.cell? ⟨b13, 1, none⟩ = some (.int .i64 1) := cell_of cs.h5 1
    have l5 := heap_lt cs.h5
    obtain ⟨V4, hV4⟩ : ∃ V, ((V3.setCell ⟨b13, 0, none⟩ (.int .i64 0)).setCell ⟨b13, 1, none⟩ (.int .i64 1)) = V := ⟨_, rfl⟩
    rw [hV4] at cs4 p84 p94
    have c7 : V4.cell? ⟨B8, 7, none⟩ = some (.bool false) := cell_of p84 7
    have h40 : V4.cell? ⟨b12, 0, none⟩ = some (.int .i64 1) := cell_of cs4.h4 0
    have h41 : V4.cell? ⟨b12, 1, none⟩ = some (.int .i64 1) := cell_of cs4.h4 1
    have h90 : V4.cell? ⟨B9, 0, none⟩ = some (.int .i64 1) := cell_of p94 0
    have h91 : V4.cell? ⟨B9, 1, none⟩ = some (.int .i64 1) := cell_of p94 1
    have l4 := heap_lt cs4.h4
    have l9 := heap_lt p94
    have l8 := heap_lt p84
    replace st := Lib.hid (And.intro cs4 p84)
    clear cs p8 p9 kA hV3 n9 n8 n94 cs4 p84 p94
    go_wp2_with fail
    refine (L2 _).mono ?_
    rintro e' V5 ⟨rfl, os5, q5, hV5⟩
    have cs := st.out.1.kept0 (kept_grow hV5)
    have p8 := (kept_grow hV5).at st.out.2 (by simp)
    have cs6 := cs.set4 0
    have p86 : ((V5.setCell ⟨b12, 0, none⟩ (.int .i64 0)).setCell ⟨b12, 1, none⟩ (.int .i64 1)).heap[B8]? = _ := (heap_setCell_ne n84).trans ((heap_setCell_ne n84).trans p8)
    clear c7 h40 h41 h90 h91 l4 l9 l8 hV4 hB9 hB8 f0 f1 e50 e51 l5
    have f0 : V5.frozen? ⟨b12, 0, none⟩ = false := frozen_of cs.h4 0
    have f1 : V5.frozen? ⟨b12, 1, none⟩ = false := frozen_of cs.h4 1
    have e40 : V5.cell? ⟨b12, 0, none⟩ = some (.int .i64 1) := cell_of cs.h4 0
    have e41 : V5.cell? ⟨b12, 1, none⟩ = some (.int .i64 1) := cell_of cs.h4 1
    have l4 := heap_lt cs.h4
    obtain ⟨V6, hV6⟩ : ∃ V, ((V5.setCell ⟨b12, 0, none⟩ (.int .i64 0)).setCell ⟨b12, 1, none⟩ (.int .i64 1)) = V := ⟨_, rfl⟩
    rw [hV6] at cs6 p86
    replace st := Lib.hid (And.intro cs6 p86)
    clear cs p8 cs6 p86 hV5 n84 L1 L2
    go_wp2_with fail
    clear hV6 f0 f1 e40 e41 l4
    have cs := st.out.1
    have p8 := st.out.2
    obtain ⟨lv, ⟨tn, td, job, there, rfl, hjob⟩, hLK⟩ := look_last cs.hl
    refine bornQ 8 [] [10, 55, 54, 53, 52, 51, 50, 49] (lastY z B8 id tn td job there) (by kernel_rfl) (by kernel_rfl) (by kernel_rfl) (fun _ _ d _ _ h => by cases d <;> exact h) ?_ ?_ ?_
    · intro i v lo hi w w' hY hw
      unfold lastY at *
      split at hY <;> first
        | exact hY
        | (obtain ⟨b, h1, h2, h3, h4⟩ := hY; exact ⟨b, h1, h2, h3, by rw [hw b h1 h2]; exact h4⟩)
        | trivial
    · intro i hi o ho a W hr hd hk
      rcases i with _ | _ | _ | _ | _ | _ | _ | _ | i
      · cases ho
        have h0 : a.tmps.getD 0 undef = .pointer (some ⟨z.x, 0, none⟩) := (hr 0 (by kernel_rfl)).trans (by kernel_rfl)
        refine ⟨fun h => absurd h (by decide), fun _ => ?_⟩
        clear hr hd hk
        exact born_value _ (by go_simp; try rfl) rfl
      · cases ho
        obtain ⟨_, _, h49⟩ := hd 0 49 (by kernel_rfl) (by kernel_rfl)
        have h49 : a.tmps.getD 49 undef = .pointer (some ⟨z.x, 0, none⟩) := h49
        refine ⟨fun h => absurd h (by decide), fun _ => ?_⟩
        clear hr hd hk
        exact born_value _ (by go_simp; try rfl) rfl
      · cases ho
        obtain ⟨_, _, h50⟩ := hd 1 50 (by kernel_rfl) (by kernel_rfl)
        have h50 : a.tmps.getD 50 undef = .pointer (some ⟨z.x, 0, none⟩) := h50
        refine ⟨fun h => absurd h (by decide), fun _ => ?_⟩
        clear hr hd hk
        exact born_value _ (by go_simp; try rfl) rfl
      · cases ho
        obtain ⟨_, _, h51⟩ := hd 2 51 (by kernel_rfl) (by kernel_rfl)
        have h51 : a.tmps.getD 51 undef = .pointer (some ⟨z.x, 18, none⟩) := h51
        refine ⟨fun h => absurd h (by decide), fun _ => ?_⟩
        have c18 : W.cell? ⟨z.x, 18, none⟩ = some (.map (some z.ls)) := cell_of (hk.at cs.hx (by simp)) 18
        have ll := hk.lt (heap_lt cs.hx)
        clear hr hd hk
        exact born_value _ (by go_simp; try rfl) rfl
      · cases ho
        have h8 : a.tmps.getD 8 undef = .pointer (some ⟨B8, 0, none⟩) := (hr 8 (by kernel_rfl)).trans (by kernel_rfl)
        refine ⟨fun h => absurd h (by decide), fun _ => ?_⟩
        clear hr hd hk
        exact born_value _ (by go_simp; try rfl) rfl
      · cases ho
        obtain ⟨_, _, h53⟩ := hd 4 53 (by kernel_rfl) (by kernel_rfl)
        have h53 : a.tmps.getD 53 undef = .pointer (some ⟨B8, 2, none⟩) := h53
        refine ⟨fun h => absurd h (by decide), fun _ => ?_⟩
        have c18 : W.cell? ⟨B8, 2, none⟩ = some (.int .i64 id) := cell_of (hk.at p8 (by simp)) 2
        have ll := hk.lt (heap_lt p8)
        clear hr hd hk
        exact born_value _ (by go_simp; try rfl) rfl
      · cases ho
        obtain ⟨_, _, h52⟩ := hd 3 52 (by kernel_rfl) (by kernel_rfl)
        have h52 : a.tmps.getD 52 undef = .map (some z.ls) := h52
        obtain ⟨_, _, h54⟩ := hd 5 54 (by kernel_rfl) (by kernel_rfl)
        have h54 : a.tmps.getD 54 undef = .int .i64 id := h54
        refine ⟨fun h => absurd h (by decide), fun _ => ?_⟩
        have hLW := hLK W (hk.2 z.ls cs.hl.lt (by simp))
        clear hr hd hk
        exact born_value _ (by go_simp; try rfl) rfl
      · cases ho
        refine ⟨fun h => absurd h (by decide), fun _ => ?_⟩
        clear hr hd hk
        refine born_alloc _ _ (by go_simp; first | done | rfl | exact ⟨rfl, rfl⟩) ⟨W.heap.size, by omega, by omega, rfl, heap_alloc_new⟩
      · omega
    · intro vs lo hi W hK h1 h2
      have yy0 : vs 0 = .pointer (some ⟨z.x, 0, none⟩) := (h1 0 (by omega)).2.2.2
      have yy1 : vs 1 = .pointer (some ⟨z.x, 0, none⟩) := (h1 1 (by omega)).2.2.2
      have yy2 : vs 2 = .pointer (some ⟨z.x, 18, none⟩) := (h1 2 (by omega)).2.2.2
      have yy3 : vs 3 = .map (some z.ls) := (h1 3 (by omega)).2.2.2
      have yy4 : vs 4 = .pointer (some ⟨B8, 2, none⟩) := (h1 4 (by omega)).2.2.2
      have yy5 : vs 5 = .int .i64 id := (h1 5 (by omega)).2.2.2
      have yy6 : vs 6 = .agg #[.int .i64 0, .int .i64 tn, .int .i64 td, .bool job, .bool there] := (h1 6 (by omega)).2.2.2
      obtain ⟨p7, q7, r7, b7, t7, u7, yy7, z7⟩ := h1 7 (by omega)
      simp only [fillR, List.length_cons, List.length_nil, Nat.reduceAdd, List.setIfInBounds_toArray, List.set_cons_succ, List.set_cons_zero]
      rw [yy0, yy1, yy2, yy3, yy4, yy5, yy6, yy7]
      show wpAny _ _ _ _ 1 _ _ _
      have g7 : V6.heap.size ≤ b7 := Nat.le_trans p7 t7
      have k8 : Kept [] V6 (((((W.setCell ⟨b7, 0, none⟩ (.int .i64 0)).setCell ⟨b7, 1, none⟩ (.int .i64 tn)).setCell ⟨b7, 2, none⟩ (.int .i64 td)).setCell ⟨b7, 3, none⟩ (.bool job)).setCell ⟨b7, 4, none⟩ (.bool there)) := ((((hK.setCell _ _ (Or.inr g7)).setCell _ _ (Or.inr g7)).setCell _ _ (Or.inr g7)).setCell _ _ (Or.inr g7)).setCell _ _ (Or.inr g7)
      have z8 : (((((W.setCell ⟨b7, 0, none⟩ (.int .i64 0)).setCell ⟨b7, 1, none⟩ (.int .i64 tn)).setCell ⟨b7, 2, none⟩ (.int .i64 td)).setCell ⟨b7, 3, none⟩ (.bool job)).setCell ⟨b7, 4, none⟩ (.bool there)).heap[b7]? = some (.cells #[.int .i64 0, .int .i64 tn, .int .i64 td, .bool job, .bool there] 187 (0, 0)) := heap_setCell (heap_setCell (heap_setCell (heap_setCell (heap_setCell z7))))
      have d0 : W.cell? ⟨b7, 0, none⟩ = some (.int .i64 0) := cell_of z7 0
      have d1 : W.cell? ⟨b7, 1, none⟩ = some (.int .i64 0) := cell_of z7 1
      have d2 : W.cell? ⟨b7, 2, none⟩ = some (.int .i64 0) := cell_of z7 2
      have d3 : W.cell? ⟨b7, 3, none⟩ = some (.bool false) := cell_of z7 3
      have d4 : W.cell? ⟨b7, 4, none⟩ = some (.bool false) := cell_of z7 4
      have f0 : W.frozen? ⟨b7, 0, none⟩ = false := frozen_of z7 0
      have f1 : W.frozen? ⟨b7, 1, none⟩ = false := frozen_of z7 1
      have f2 : W.frozen? ⟨b7, 2, none⟩ = false := frozen_of z7 2
      have f3 : W.frozen? ⟨b7, 3, none⟩ = false := frozen_of z7 3
      have f4 : W.frozen? ⟨b7, 4, none⟩ = false := frozen_of z7 4
      have l7 := heap_lt z7
      obtain ⟨V8, hV8⟩ : ∃ V, (((((W.setCell ⟨b7, 0, none⟩ (.int .i64 0)).setCell ⟨b7, 1, none⟩ (.int .i64 tn)).setCell ⟨b7, 2, none⟩ (.int .i64 td)).setCell ⟨b7, 3, none⟩ (.bool job)).setCell ⟨b7, 4, none⟩ (.bool there)) = V := ⟨_, rfl⟩
      rw [hV8] at k8 z8
      have cs := st.out.1.kept0 k8
      have p8 := k8.at st.out.2 (by simp)
      replace st := Lib.hid (And.intro cs p8)
      have zz := Lib.hid z8
      clear h1 h2 p7 q7 r7 t7 u7 yy0 yy1 yy2 yy3 yy4 yy5 yy6 yy7 z7 z8 hK g7 k8 cs p8 hLK
      refine aSkip (i := 8) (w' := ?_) rfl (by kernel_rfl) (by rfl) ?_ ?_
      rotate_left 1
      · go_simp; all_goals with_reducible rfl
      try simp only [Act.put, zA, zB, zC]
      refine wpAny_done (by kernel_rfl) ?_ _
      clear hV8 d0 d1 d2 d3 d4 f0 f1 f2 f3 f4 l7
      have z8 := zz.out
      have p8 := st.out.2
      have d0 : V8.cell? ⟨b7, 0, none⟩ = some (.int .i64 0) := cell_of z8 0
      have d1 : V8.cell? ⟨b7, 1, none⟩ = some (.int .i64 tn) := cell_of z8 1
      have d2 : V8.cell? ⟨b7, 2, none⟩ = some (.int .i64 td) := cell_of z8 2
      have d3 : V8.cell? ⟨b7, 3, none⟩ = some (.bool job) := cell_of z8 3
      have d4 : V8.cell? ⟨b7, 4, none⟩ = some (.bool there) := cell_of z8 4
      have c1 : V8.cell? ⟨B8, 1, none⟩ = some (.int .i64 0) := cell_of p8 1
      have c2 : V8.cell? ⟨B8, 2, none⟩ = some (.int .i64 id) := cell_of p8 2
      have c3 : V8.cell? ⟨B8, 3, none⟩ = some (.int .i64 clock) := cell_of p8 3
      have c4 : V8.cell? ⟨B8, 4, none⟩ = some (.int .i64 1) := cell_of p8 4
      have c5 : V8.cell? ⟨B8, 5, none⟩ = some (.int .i64 (clock + 1)) := cell_of p8 5
      have c6 : V8.cell? ⟨B8, 6, none⟩ = some (.int .i64 1) := cell_of p8 6
      have l7 := heap_lt z8
      have l8 := heap_lt p8
      clear z8 p8 zz
      cases there
      · cases job
        · go_wp2_with fail
          have cs := st.out.1
          have p8 := st.out.2
          obtain ⟨pb, pc, hP⟩ := put_last cs.hl (.agg #[.int .i64 0, .int .i64 (clock + 1), .int .i64 1, .bool true, .bool true])
          have c18 : V8.cell? ⟨z.x, 18, none⟩ = some (.map (some z.ls)) := cell_of cs.hx 18
          have lx := heap_lt cs.hx
          have l8 := heap_lt p8
          have q1 : V8.cell? ⟨B8, 1, none⟩ = some (.int .i64 0) := cell_of p8 1
          have q2 : V8.cell? ⟨B8, 2, none⟩ = some (.int .i64 id) := cell_of p8 2
          have q5 : V8.cell? ⟨B8, 5, none⟩ = some (.int .i64 (clock + 1)) := cell_of p8 5
          have q6 : V8.cell? ⟨B8, 6, none⟩ = some (.int .i64 1) := cell_of p8 6
          clear cs p8
          refine wp_region_any (by kernel_rfl) ?_
          rw [List.size_toArray]
          refine wpAnyS_any (S := fun X => X = V8.drew) (k := 11) _ _ _ ?_ _ rfl
          refine sTake (i := 0) rfl (by kernel_rfl) (fun _ _ _ h => h) (gLoad (by rfl) (fun W hW => by (try dsimp only at hW); subst hW; go_simp; first | done | rfl)) ?_
          try simp only [Act.put, zA, zB, zC]
          refine sTake (i := 1) rfl (by kernel_rfl) (fun _ _ _ h => h) (gLoad (by rfl) (fun W hW => by (try dsimp only at hW); subst hW; go_simp; first | done | rfl)) ?_
          try simp only [Act.put, zA, zB, zC]
          refine sTake (i := 2) rfl (by kernel_rfl) (fun _ _ _ h => h) (gLoad (by rfl) (fun W hW => by (try dsimp only at hW); subst hW; go_simp; first | done | rfl)) ?_
          try simp only [Act.put, zA, zB, zC]
          refine sTake (i := 3) rfl (by kernel_rfl) (fun _ _ _ h => h) (gLoad (by rfl) (fun W hW => by (try dsimp only at hW); subst hW; go_simp; first | done | rfl)) ?_
          try simp only [Act.put, zA, zB, zC]
          refine sTake (i := 4) rfl (by kernel_rfl) (fun _ _ _ h => h) (gLoad (by rfl) (fun W hW => by (try dsimp only at hW); subst hW; go_simp; first | done | rfl)) ?_
          try simp only [Act.put, zA, zB, zC]
          refine sTake (i := 5) rfl (by kernel_rfl) (fun _ _ _ h => h) (gLoad (by rfl) (fun W hW => by (try dsimp only at hW); subst hW; go_simp; first | done | rfl)) ?_
          try simp only [Act.put, zA, zB, zC]
          refine sTake (i := 6) rfl (by kernel_rfl) (fun _ _ _ h => h) (gLoad (by rfl) (fun W hW => by (try dsimp only at hW); subst hW; go_simp; first | done | rfl)) ?_
          try simp only [Act.put, zA, zB, zC]
          refine sTake (i := 7) rfl (by kernel_rfl) (fun _ _ _ h => h) (gLoad (by rfl) (fun W hW => by (try dsimp only at hW); subst hW; go_simp; first | done | rfl)) ?_
          try simp only [Act.put, zA, zB, zC]
          refine sTake (i := 8) rfl (by kernel_rfl) (fun _ _ _ h => h) (gLoad (by rfl) (fun W hW => by (try dsimp only at hW); subst hW; go_simp; first | done | rfl)) ?_
          try simp only [Act.put, zA, zB, zC]
          refine sTake (i := 9) rfl (by kernel_rfl) (fun _ _ _ h => h) (gLoad (by rfl) (fun W hW => by (try dsimp only at hW); subst hW; go_simp; first | done | rfl)) ?_
          try simp only [Act.put, zA, zB, zC]
          refine sTake (i := 10) rfl (by kernel_rfl) (fun _ _ _ h => h) (gLoad (by rfl) (fun W hW => by (try dsimp only at hW); subst hW; go_simp; first | done | rfl)) ?_
          try simp only [Act.put, zA, zB, zC]
          refine sRest (by kernel_rfl) ?_
          rintro X rfl
          have hPX := hP V8.drew rfl
          have cs := (CS.kept0 st.out.1 ((Kept.refl _ _).drew)).last (b := pb) (c := pc) (v := .agg #[.int .i64 0, .int .i64 (clock + 1), .int .i64 1, .bool true, .bool true]) ⟨_, _, _, _, rfl, fun _ => ⟨rfl, by omega, by omega, rfl⟩⟩
          obtain ⟨Z, hZ⟩ : ∃ Z, Go.ChangeMaps.setBlock V8.drew z.ls (.map #[{ key := .int .i64 id, val := .agg #[.int .i64 0, .int .i64 (clock + 1), .int .i64 1, .bool true, .bool true], born := pb }] pc) = Z := ⟨_, rfl⟩
          rw [hZ] at hPX
          rw [hZ] at cs
          replace st := Lib.hid cs
          clear cs c18 lx l8 q1 q2 q5 q6 hP
          refine aSkip (i := 11) (w' := ?_) rfl (by kernel_rfl) (by rfl) ?_ ?_
          rotate_left 1
          · go_simp; all_goals with_reducible rfl
          try simp only [Act.put, zA, zB, zC]
          refine wpAny_done (by kernel_rfl) ?_ _
          clear hPX hZ
          go_wp2_with fail
          rw [rounds_succ]
          go_wp2_with fail
          have cs := st.out
          have hxV := cs.hx
          unfold XAt at hxV
          have h4 := cs.h4
          have h5 := cs.h5
          have hbV := cs.hb
          have hend := Lib.hid cs
          clear cs st
          have st := Lib.hid (And.intro (Kept.refl [z.x, z.bk] Z) (And.intro hxV (And.intro h4 hbV)))
          have cA : Z.cell? ⟨z.x, 14, none⟩ = some (.int .i64 idle) := cell_of hxV 14
          have cB : Z.cell? ⟨z.x, 15, none⟩ = some (.int .i64 1) := cell_of hxV 15
          have cC : Z.cell? ⟨b13, 0, none⟩ = some (.int .i64 0) := cell_of h5 0
          have cD : Z.cell? ⟨b13, 1, none⟩ = some (.int .i64 1) := cell_of h5 1
          have lx := heap_lt hxV
          have l5 := heap_lt h5
          have S59 := fun W => sumI idle 0 hi0 (by omega) (by omega) (by omega) W
          try simp only [Int.add_zero] at S59
          clear h4 h5 hxV hbV
          refine wp_region_any (by kernel_rfl) ?_
          rw [List.size_toArray]
          refine wpAnyS_any (S := fun X => ∃ os q, Go.Proofs.YtgfbfklnhmndfaaGreat.grow Z os q = X) (k := 7) _ _ _ ?_ _ (gr_drew (gr_refl _))
          refine sTake (i := 0) (v := ?_) rfl (by kernel_rfl) (fun _ _ _ h => h) (gLoad (by rfl) ?_) ?_
          rotate_left 1
          · intro W hW; (try dsimp only at hW); obtain ⟨os', q', hW'⟩ := hW; subst hW'; go_simp; all_goals with_reducible rfl
          try simp only [Act.put, zA, zB, zC]
          refine sTake (i := 1) (v := ?_) rfl (by kernel_rfl) (fun _ _ _ h => h) (gLoad (by rfl) ?_) ?_
          rotate_left 1
          · intro W hW; (try dsimp only at hW); obtain ⟨os', q', hW'⟩ := hW; subst hW'; go_simp; all_goals with_reducible rfl
          try simp only [Act.put, zA, zB, zC]
          refine sTake (i := 2) (v := ?_) rfl (by kernel_rfl) (fun _ _ _ h => h) (gLoad (by rfl) ?_) ?_
          rotate_left 1
          · intro W hW; (try dsimp only at hW); obtain ⟨os', q', hW'⟩ := hW; subst hW'; go_simp; all_goals with_reducible rfl
          try simp only [Act.put, zA, zB, zC]
          refine sTake (i := 3) (v := ?_) rfl (by kernel_rfl) (fun _ _ _ h => h) (gLoad (by rfl) ?_) ?_
          rotate_left 1
          · intro W hW; (try dsimp only at hW); obtain ⟨os', q', hW'⟩ := hW; subst hW'; go_simp; all_goals with_reducible rfl
          try simp only [Act.put, zA, zB, zC]
          refine sTake (i := 4) (v := ?_) rfl (by kernel_rfl) (fun _ _ _ h => h) (gLoad (by rfl) ?_) ?_
          rotate_left 1
          · intro W hW; (try dsimp only at hW); obtain ⟨os', q', hW'⟩ := hW; subst hW'; go_simp; all_goals with_reducible rfl
          try simp only [Act.put, zA, zB, zC]
          refine sTake (i := 5) (v := ?_) rfl (by kernel_rfl) (fun _ _ _ h => h) (gLoad (by rfl) ?_) ?_
          rotate_left 1
          · intro W hW; (try dsimp only at hW); obtain ⟨os', q', hW'⟩ := hW; subst hW'; go_simp; all_goals with_reducible rfl
          try simp only [Act.put, zA, zB, zC]
          refine sTake (i := 6) rfl (by kernel_rfl) (fun _ _ _ h => h) (gCall (by rfl) ?_ (fun W hW => RetG.into S59 hW)) ?_
          · intro W hW; go_simp; all_goals with_reducible rfl
          try simp only [Act.put, zA, zB, zC]
          refine sRest (by kernel_rfl) ?_
          intro X hX
          obtain ⟨os3, q3, hX⟩ := hX
          obtain ⟨kV, hxV, h4, hbV⟩ := st.out
          have kG := kept_grow hX
          have hx1 := kG.at hxV (by simp)
          have h41 := kG.at h4 (by simp)
          have hb1 := kG.at hbV (by simp)
          have k1 := Kept.tr kV kG
          have f14 : X.frozen? ⟨z.x, 14, none⟩ = false := frozen_of hx1 14
          have f15 : X.frozen? ⟨z.x, 15, none⟩ = false := frozen_of hx1 15
          have c14 : X.cell? ⟨z.x, 14, none⟩ = some (.int .i64 idle) := cell_of hx1 14
          have c15 : X.cell? ⟨z.x, 15, none⟩ = some (.int .i64 1) := cell_of hx1 15
          have lx1 := heap_lt hx1
          have hx2 : ((X.setCell ⟨z.x, 14, none⟩ (.int .i64 idle)).setCell ⟨z.x, 15, none⟩ (.int .i64 1)).heap[z.x]? = some (.cells (exC z tasks mode ring clock idle given all) 80 (0, 0)) := heap_setCell (heap_setCell hx1)
          have n4 : z.x ≠ b12 := heap_ne hxV h4 (by simp)
          have nbk : z.x ≠ z.bk := heap_ne hxV hbV (by simp)
          have h42 : ((X.setCell ⟨z.x, 14, none⟩ (.int .i64 idle)).setCell ⟨z.x, 15, none⟩ (.int .i64 1)).heap[b12]? = _ := (heap_setCell_ne n4).trans ((heap_setCell_ne n4).trans h41)
          have hb2 : ((X.setCell ⟨z.x, 14, none⟩ (.int .i64 idle)).setCell ⟨z.x, 15, none⟩ (.int .i64 1)).heap[z.bk]? = _ := (heap_setCell_ne nbk).trans ((heap_setCell_ne nbk).trans hb1)
          have k2 := (k1.setCell ⟨z.x, 14, none⟩ (.int .i64 idle) (Or.inl (by simp))).setCell ⟨z.x, 15, none⟩ (.int .i64 1) (Or.inl (by simp))
          obtain ⟨V2, hV2⟩ : ∃ V2, ((X.setCell ⟨z.x, 14, none⟩ (.int .i64 idle)).setCell ⟨z.x, 15, none⟩ (.int .i64 1)) = V2 := ⟨_, rfl⟩
          rw [hV2] at hx2 h42 hb2 k2
          have st := Lib.hid (And.intro k2 (And.intro hx2 (And.intro h42 (And.intro hb2 (And.intro n4 nbk)))))
          clear kV hxV h4 hbV hX kG hx1 h41 hb1 k1 cA cB cC cD lx l5 S59
          clear hx2 h42 hb2 k2 n4 nbk
          refine aVal (i := 7) (v := ?_) rfl (by kernel_rfl) (by rfl) ?_ ?_
          rotate_left 1
          · go_simp; all_goals with_reducible rfl
          try simp only [Act.put, zA, zB, zC]
          refine aVal (i := 8) (v := ?_) rfl (by kernel_rfl) (by rfl) ?_ ?_
          rotate_left 1
          · go_simp; all_goals with_reducible rfl
          try simp only [Act.put, zA, zB, zC]
          refine aSkip (i := 9) (w' := ?_) rfl (by kernel_rfl) (by rfl) ?_ ?_
          rotate_left 1
          · go_simp; all_goals with_reducible rfl
          try simp only [Act.put, zA, zB, zC]
          refine wpAny_done (by kernel_rfl) ?_ _
          try rw [hV2]
          clear hV2 f14 f15 c14 c15 lx1
          obtain ⟨k2, hx2, h42, hb2, n4, nbk⟩ := st.out
          have c11 : V2.cell? ⟨z.x, 11, none⟩ = some (.pointer (some ⟨z.bk, 0, none⟩)) := cell_of hx2 11
          have c40 : V2.cell? ⟨b12, 0, none⟩ = some (.int .i64 ((0 : Nat) : Int)) := cell_of h42 0
          have c41 : V2.cell? ⟨b12, 1, none⟩ = some (.int .i64 1) := cell_of h42 1
          have lx := heap_lt hx2
          have l4 := heap_lt h42
          have F := fun W => floorI 0 (by omega) W
          clear k2 hx2 h42 hb2 n4 nbk
          go_wp2_with fail
          refine wp_region_any (by kernel_rfl) ?_
          rw [List.size_toArray]
          refine wpAnyS_any (S := fun X => ∃ os q, Go.Proofs.YtgfbfklnhmndfaaGreat.grow V2 os q = X) (k := 6) _ _ _ ?_ _ (gr_drew (gr_refl _))
          refine sTake (i := 0) (v := ?_) rfl (by kernel_rfl) (fun _ _ _ h => h) (gLoad (by rfl) ?_) ?_
          rotate_left 1
          · intro W hW; (try dsimp only at hW); obtain ⟨os', q', hW'⟩ := hW; subst hW'; go_simp; all_goals with_reducible rfl
          try simp only [Act.put, zA, zB, zC]
          refine sTake (i := 1) (v := ?_) rfl (by kernel_rfl) (fun _ _ _ h => h) (gLoad (by rfl) ?_) ?_
          rotate_left 1
          · intro W hW; (try dsimp only at hW); obtain ⟨os', q', hW'⟩ := hW; subst hW'; go_simp; all_goals with_reducible rfl
          try simp only [Act.put, zA, zB, zC]
          refine sTake (i := 2) (v := ?_) rfl (by kernel_rfl) (fun _ _ _ h => h) (gLoad (by rfl) ?_) ?_
          rotate_left 1
          · intro W hW; (try dsimp only at hW); obtain ⟨os', q', hW'⟩ := hW; subst hW'; go_simp; all_goals with_reducible rfl
          try simp only [Act.put, zA, zB, zC]
          refine sTake (i := 3) (v := ?_) rfl (by kernel_rfl) (fun _ _ _ h => h) (gLoad (by rfl) ?_) ?_
          rotate_left 1
          · intro W hW; (try dsimp only at hW); obtain ⟨os', q', hW'⟩ := hW; subst hW'; go_simp; all_goals with_reducible rfl
          try simp only [Act.put, zA, zB, zC]
          refine sTake (i := 4) (v := ?_) rfl (by kernel_rfl) (fun _ _ _ h => h) (gLoad (by rfl) ?_) ?_
          rotate_left 1
          · intro W hW; (try dsimp only at hW); obtain ⟨os', q', hW'⟩ := hW; subst hW'; go_simp; all_goals with_reducible rfl
          try simp only [Act.put, zA, zB, zC]
          refine sTake (i := 5) rfl (by kernel_rfl) (fun _ _ _ h => h) (gCall (by rfl) ?_ (fun W hW => RetG.into F hW)) ?_
          · intro W hW; go_simp; all_goals with_reducible rfl
          try simp only [Act.put, zA, zB, zC]
          refine sRest (by kernel_rfl) ?_
          intro X2 hX
          obtain ⟨os4, q4, hX⟩ := hX
          obtain ⟨k2, hx2, h42, hb2, n4, nbk⟩ := st.out
          have kG := kept_grow hX
          have hx3 := kG.at hx2 (by simp)
          have hb3 := kG.at hb2 (by simp)
          have k3 := Kept.tr k2 kG
          have G := Give98 z.bk 0 X2 hb3
          clear k2 hx2 h42 hb2 n4 hX kG c11 c40 c41 lx l4 F
          refine aCall (i := 6) rfl (by kernel_rfl) (by rfl) (by go_simp; first | done | rfl | exact ⟨rfl, rfl⟩) (G.mono ?_)
          rintro e' w5 ⟨rfl, k4, hb4⟩
          refine ⟨_, rfl, ?_⟩
          try simp only [Act.put, zA, zB, zC]
          have hx4 := k4.at hx3 (by simp [nbk])
          have k5 := Kept.trans k3 k4 (U := [z.x, z.bk]) (fun x h => h) (fun x h => Or.inl (by simp at h; simp [h]))
          clear hx3 hb3 k3 G k4
          refine aVal (i := 7) (v := ?_) rfl (by kernel_rfl) (by rfl) ?_ ?_
          rotate_left 1
          · go_simp; all_goals with_reducible rfl
          try simp only [Act.put, zA, zB, zC]
          refine yTake (i := 8) rfl (by kernel_rfl) (fun _ _ _ h => h) (by rfl) (fun _ => by go_simp; first | done | rfl) ?_
          try simp only [Act.put, zA, zB, zC]
          refine yTake (i := 9) rfl (by kernel_rfl) (fun _ _ _ h => h) (by rfl) (fun _ => by go_simp; first | done | rfl) ?_
          try simp only [Act.put, zA, zB, zC]
          refine aVal (i := 10) (v := ?_) rfl (by kernel_rfl) (by rfl) ?_ ?_
          rotate_left 1
          · go_simp; all_goals with_reducible rfl
          try simp only [Act.put, zA, zB, zC]
          refine aVal (i := 11) (v := ?_) rfl (by kernel_rfl) (by rfl) ?_ ?_
          rotate_left 1
          · go_simp; all_goals with_reducible rfl
          try simp only [Act.put, zA, zB, zC]
          refine wpAny_done (by kernel_rfl) ?_ _
          have c16 : w5.cell? ⟨z.x, 16, none⟩ = some (.int .i64 given) := cell_of hx4 16
          have f16 : w5.frozen? ⟨z.x, 16, none⟩ = false := frozen_of hx4 16
          have lx := heap_lt hx4
          have hw16 : IntKind.i64.wrap (given + 0) = given := by rw [Int.add_zero]; exact IntWalk.i64_in _ (by omega)
          have hx5 : (w5.setCell ⟨z.x, 16, none⟩ (.int .i64 given)).heap[z.x]? = some (.cells (exC z tasks mode ring clock idle given all) 80 (0, 0)) := heap_setCell hx4
          have hb5 := (heap_setCell_ne (v := .int .i64 given) (a := ⟨z.x, 16, none⟩) nbk).trans hb4
          have k6 := k5.setCell ⟨z.x, 16, none⟩ (.int .i64 given) (Or.inl (by simp))
          have st := Lib.hid (And.intro hx5 (And.intro hb5 k6))
          clear hx4 hb4 k5 hx5 hb5 k6
          go_wp2_with fail
          go_returns
          have k := st.out.2.2
          have cs := hend.out
          obtain ⟨ma, mb, mc, md, hmm⟩ := cs.hm
          have n1 : z.x ≠ z.m := heap_ne cs.hx hmm (by simp)
          have n2 : z.bk ≠ z.m := heap_ne cs.hb hmm (by simp)
          have n3 : z.ls ≠ z.x := cs.hl.ne cs.hx
          have n4 : z.ls ≠ z.bk := cs.hl.ne cs.hb
          have hx' := st.out.1
          exact ⟨rfl, hx', st.out.2.1, ⟨ma, mb, mc, md, k.at hmm (by simp [Ne.symm n1, Ne.symm n2])⟩, cs.hl.kept k (by simp [n3, n4]), Kept.trans cs.k k (fun x h => h) (fun x h => Or.inl (by simp at h; rcases h with h | h <;> simp [h]))⟩
        · exact absurd (hjob rfl).2.2.2 (by simp)
      · cases job
        · go_wp2_with fail
          have cs := st.out.1
          have p8 := st.out.2
          obtain ⟨pb, pc, hP⟩ := put_last cs.hl (.agg #[.int .i64 0, .int .i64 (clock + 1), .int .i64 1, .bool true, .bool true])
          have c18 : V8.cell? ⟨z.x, 18, none⟩ = some (.map (some z.ls)) := cell_of cs.hx 18
          have lx := heap_lt cs.hx
          have l8 := heap_lt p8
          have q1 : V8.cell? ⟨B8, 1, none⟩ = some (.int .i64 0) := cell_of p8 1
          have q2 : V8.cell? ⟨B8, 2, none⟩ = some (.int .i64 id) := cell_of p8 2
          have q5 : V8.cell? ⟨B8, 5, none⟩ = some (.int .i64 (clock + 1)) := cell_of p8 5
          have q6 : V8.cell? ⟨B8, 6, none⟩ = some (.int .i64 1) := cell_of p8 6
          clear cs p8
          refine wp_region_any (by kernel_rfl) ?_
          rw [List.size_toArray]
          refine wpAnyS_any (S := fun X => X = V8.drew) (k := 11) _ _ _ ?_ _ rfl
          refine sTake (i := 0) rfl (by kernel_rfl) (fun _ _ _ h => h) (gLoad (by rfl) (fun W hW => by (try dsimp only at hW); subst hW; go_simp; first | done | rfl)) ?_
          try simp only [Act.put, zA, zB, zC]
          refine sTake (i := 1) rfl (by kernel_rfl) (fun _ _ _ h => h) (gLoad (by rfl) (fun W hW => by (try dsimp only at hW); subst hW; go_simp; first | done | rfl)) ?_
          try simp only [Act.put, zA, zB, zC]
          refine sTake (i := 2) rfl (by kernel_rfl) (fun _ _ _ h => h) (gLoad (by rfl) (fun W hW => by (try dsimp only at hW); subst hW; go_simp; first | done | rfl)) ?_
          try simp only [Act.put, zA, zB, zC]
          refine sTake (i := 3) rfl (by kernel_rfl) (fun _ _ _ h => h) (gLoad (by rfl) (fun W hW => by (try dsimp only at hW); subst hW; go_simp; first | done | rfl)) ?_
          try simp only [Act.put, zA, zB, zC]
          refine sTake (i := 4) rfl (by kernel_rfl) (fun _ _ _ h => h) (gLoad (by rfl) (fun W hW => by (try dsimp only at hW); subst hW; go_simp; first | done | rfl)) ?_
          try simp only [Act.put, zA, zB, zC]
          refine sTake (i := 5) rfl (by kernel_rfl) (fun _ _ _ h => h) (gLoad (by rfl) (fun W hW => by (try dsimp only at hW); subst hW; go_simp; first | done | rfl)) ?_
          try simp only [Act.put, zA, zB, zC]
          refine sTake (i := 6) rfl (by kernel_rfl) (fun _ _ _ h => h) (gLoad (by rfl) (fun W hW => by (try dsimp only at hW); subst hW; go_simp; first | done | rfl)) ?_
          try simp only [Act.put, zA, zB, zC]
          refine sTake (i := 7) rfl (by kernel_rfl) (fun _ _ _ h => h) (gLoad (by rfl) (fun W hW => by (try dsimp only at hW); subst hW; go_simp; first | done | rfl)) ?_
          try simp only [Act.put, zA, zB, zC]
          refine sTake (i := 8) rfl (by kernel_rfl) (fun _ _ _ h => h) (gLoad (by rfl) (fun W hW => by (try dsimp only at hW); subst hW; go_simp; first | done | rfl)) ?_
          try simp only [Act.put, zA, zB, zC]
          refine sTake (i := 9) rfl (by kernel_rfl) (fun _ _ _ h => h) (gLoad (by rfl) (fun W hW => by (try dsimp only at hW); subst hW; go_simp; first | done | rfl)) ?_
          try simp only [Act.put, zA, zB, zC]
          refine sTake (i := 10) rfl (by kernel_rfl) (fun _ _ _ h => h) (gLoad (by rfl) (fun W hW => by (try dsimp only at hW); subst hW; go_simp; first | done | rfl)) ?_
          try simp only [Act.put, zA, zB, zC]
          refine sRest (by kernel_rfl) ?_
          rintro X rfl
          have hPX := hP V8.drew rfl
          have cs := (CS.kept0 st.out.1 ((Kept.refl _ _).drew)).last (b := pb) (c := pc) (v := .agg #[.int .i64 0, .int .i64 (clock + 1), .int .i64 1, .bool true, .bool true]) ⟨_, _, _, _, rfl, fun _ => ⟨rfl, by omega, by omega, rfl⟩⟩
          obtain ⟨Z, hZ⟩ : ∃ Z, Go.ChangeMaps.setBlock V8.drew z.ls (.map #[{ key := .int .i64 id, val := .agg #[.int .i64 0, .int .i64 (clock + 1), .int .i64 1, .bool true, .bool true], born := pb }] pc) = Z := ⟨_, rfl⟩
          rw [hZ] at hPX
          rw [hZ] at cs
          replace st := Lib.hid cs
          clear cs c18 lx l8 q1 q2 q5 q6 hP
          refine aSkip (i := 11) (w' := ?_) rfl (by kernel_rfl) (by rfl) ?_ ?_
          rotate_left 1
          · go_simp; all_goals with_reducible rfl
          try simp only [Act.put, zA, zB, zC]
          refine wpAny_done (by kernel_rfl) ?_ _
          clear hPX hZ
          go_wp2_with fail
          rw [rounds_succ]
          go_wp2_with fail
          have cs := st.out
          have hxV := cs.hx
          unfold XAt at hxV
          have h4 := cs.h4
          have h5 := cs.h5
          have hbV := cs.hb
          have hend := Lib.hid cs
          clear cs st
          have st := Lib.hid (And.intro (Kept.refl [z.x, z.bk] Z) (And.intro hxV (And.intro h4 hbV)))
          have cA : Z.cell? ⟨z.x, 14, none⟩ = some (.int .i64 idle) := cell_of hxV 14
          have cB : Z.cell? ⟨z.x, 15, none⟩ = some (.int .i64 1) := cell_of hxV 15
          have cC : Z.cell? ⟨b13, 0, none⟩ = some (.int .i64 0) := cell_of h5 0
          have cD : Z.cell? ⟨b13, 1, none⟩ = some (.int .i64 1) := cell_of h5 1
          have lx := heap_lt hxV
          have l5 := heap_lt h5
          have S59 := fun W => sumI idle 0 hi0 (by omega) (by omega) (by omega) W
          try simp only [Int.add_zero] at S59
          clear h4 h5 hxV hbV
          refine wp_region_any (by kernel_rfl) ?_
          rw [List.size_toArray]
          refine wpAnyS_any (S := fun X => ∃ os q, Go.Proofs.YtgfbfklnhmndfaaGreat.grow Z os q = X) (k := 7) _ _ _ ?_ _ (gr_drew (gr_refl _))
          refine sTake (i := 0) (v := ?_) rfl (by kernel_rfl) (fun _ _ _ h => h) (gLoad (by rfl) ?_) ?_
          rotate_left 1
          · intro W hW; (try dsimp only at hW); obtain ⟨os', q', hW'⟩ := hW; subst hW'; go_simp; all_goals with_reducible rfl
          try simp only [Act.put, zA, zB, zC]
          refine sTake (i := 1) (v := ?_) rfl (by kernel_rfl) (fun _ _ _ h => h) (gLoad (by rfl) ?_) ?_
          rotate_left 1
          · intro W hW; (try dsimp only at hW); obtain ⟨os', q', hW'⟩ := hW; subst hW'; go_simp; all_goals with_reducible rfl
          try simp only [Act.put, zA, zB, zC]
          refine sTake (i := 2) (v := ?_) rfl (by kernel_rfl) (fun _ _ _ h => h) (gLoad (by rfl) ?_) ?_
          rotate_left 1
          · intro W hW; (try dsimp only at hW); obtain ⟨os', q', hW'⟩ := hW; subst hW'; go_simp; all_goals with_reducible rfl
          try simp only [Act.put, zA, zB, zC]
          refine sTake (i := 3) (v := ?_) rfl (by kernel_rfl) (fun _ _ _ h => h) (gLoad (by rfl) ?_) ?_
          rotate_left 1
          · intro W hW; (try dsimp only at hW); obtain ⟨os', q', hW'⟩ := hW; subst hW'; go_simp; all_goals with_reducible rfl
          try simp only [Act.put, zA, zB, zC]
          refine sTake (i := 4) (v := ?_) rfl (by kernel_rfl) (fun _ _ _ h => h) (gLoad (by rfl) ?_) ?_
          rotate_left 1
          · intro W hW; (try dsimp only at hW); obtain ⟨os', q', hW'⟩ := hW; subst hW'; go_simp; all_goals with_reducible rfl
          try simp only [Act.put, zA, zB, zC]
          refine sTake (i := 5) (v := ?_) rfl (by kernel_rfl) (fun _ _ _ h => h) (gLoad (by rfl) ?_) ?_
          rotate_left 1
          · intro W hW; (try dsimp only at hW); obtain ⟨os', q', hW'⟩ := hW; subst hW'; go_simp; all_goals with_reducible rfl
          try simp only [Act.put, zA, zB, zC]
          refine sTake (i := 6) rfl (by kernel_rfl) (fun _ _ _ h => h) (gCall (by rfl) ?_ (fun W hW => RetG.into S59 hW)) ?_
          · intro W hW; go_simp; all_goals with_reducible rfl
          try simp only [Act.put, zA, zB, zC]
          refine sRest (by kernel_rfl) ?_
          intro X hX
          obtain ⟨os3, q3, hX⟩ := hX
          obtain ⟨kV, hxV, h4, hbV⟩ := st.out
          have kG := kept_grow hX
          have hx1 := kG.at hxV (by simp)
          have h41 := kG.at h4 (by simp)
          have hb1 := kG.at hbV (by simp)
          have k1 := Kept.tr kV kG
          have f14 : X.frozen? ⟨z.x, 14, none⟩ = false := frozen_of hx1 14
          have f15 : X.frozen? ⟨z.x, 15, none⟩ = false := frozen_of hx1 15
          have c14 : X.cell? ⟨z.x, 14, none⟩ = some (.int .i64 idle) := cell_of hx1 14
          have c15 : X.cell? ⟨z.x, 15, none⟩ = some (.int .i64 1) := cell_of hx1 15
          have lx1 := heap_lt hx1
          have hx2 : ((X.setCell ⟨z.x, 14, none⟩ (.int .i64 idle)).setCell ⟨z.x, 15, none⟩ (.int .i64 1)).heap[z.x]? = some (.cells (exC z tasks mode ring clock idle given all) 80 (0, 0)) := heap_setCell (heap_setCell hx1)
          have n4 : z.x ≠ b12 := heap_ne hxV h4 (by simp)
          have nbk : z.x ≠ z.bk := heap_ne hxV hbV (by simp)
          have h42 : ((X.setCell ⟨z.x, 14, none⟩ (.int .i64 idle)).setCell ⟨z.x, 15, none⟩ (.int .i64 1)).heap[b12]? = _ := (heap_setCell_ne n4).trans ((heap_setCell_ne n4).trans h41)
          have hb2 : ((X.setCell ⟨z.x, 14, none⟩ (.int .i64 idle)).setCell ⟨z.x, 15, none⟩ (.int .i64 1)).heap[z.bk]? = _ := (heap_setCell_ne nbk).trans ((heap_setCell_ne nbk).trans hb1)
          have k2 := (k1.setCell ⟨z.x, 14, none⟩ (.int .i64 idle) (Or.inl (by simp))).setCell ⟨z.x, 15, none⟩ (.int .i64 1) (Or.inl (by simp))
          obtain ⟨V2, hV2⟩ : ∃ V2, ((X.setCell ⟨z.x, 14, none⟩ (.int .i64 idle)).setCell ⟨z.x, 15, none⟩ (.int .i64 1)) = V2 := ⟨_, rfl⟩
          rw [hV2] at hx2 h42 hb2 k2
          have st := Lib.hid (And.intro k2 (And.intro hx2 (And.intro h42 (And.intro hb2 (And.intro n4 nbk)))))
          clear kV hxV h4 hbV hX kG hx1 h41 hb1 k1 cA cB cC cD lx l5 S59
          clear hx2 h42 hb2 k2 n4 nbk
          refine aVal (i := 7) (v := ?_) rfl (by kernel_rfl) (by rfl) ?_ ?_
          rotate_left 1
          · go_simp; all_goals with_reducible rfl
          try simp only [Act.put, zA, zB, zC]
          refine aVal (i := 8) (v := ?_) rfl (by kernel_rfl) (by rfl) ?_ ?_
          rotate_left 1
          · go_simp; all_goals with_reducible rfl
          try simp only [Act.put, zA, zB, zC]
          refine aSkip (i := 9) (w' := ?_) rfl (by kernel_rfl) (by rfl) ?_ ?_
          rotate_left 1
          · go_simp; all_goals with_reducible rfl
          try simp only [Act.put, zA, zB, zC]
          refine wpAny_done (by kernel_rfl) ?_ _
          try rw [hV2]
          clear hV2 f14 f15 c14 c15 lx1
          obtain ⟨k2, hx2, h42, hb2, n4, nbk⟩ := st.out
          have c11 : V2.cell? ⟨z.x, 11, none⟩ = some (.pointer (some ⟨z.bk, 0, none⟩)) := cell_of hx2 11
          have c40 : V2.cell? ⟨b12, 0, none⟩ = some (.int .i64 ((0 : Nat) : Int)) := cell_of h42 0
          have c41 : V2.cell? ⟨b12, 1, none⟩ = some (.int .i64 1) := cell_of h42 1
          have lx := heap_lt hx2
          have l4 := heap_lt h42
          have F := fun W => floorI 0 (by omega) W
          clear k2 hx2 h42 hb2 n4 nbk
          go_wp2_with fail
          refine wp_region_any (by kernel_rfl) ?_
          rw [List.size_toArray]
          refine wpAnyS_any (S := fun X => ∃ os q, Go.Proofs.YtgfbfklnhmndfaaGreat.grow V2 os q = X) (k := 6) _ _ _ ?_ _ (gr_drew (gr_refl _))
          refine sTake (i := 0) (v := ?_) rfl (by kernel_rfl) (fun _ _ _ h => h) (gLoad (by rfl) ?_) ?_
          rotate_left 1
          · intro W hW; (try dsimp only at hW); obtain ⟨os', q', hW'⟩ := hW; subst hW'; go_simp; all_goals with_reducible rfl
          try simp only [Act.put, zA, zB, zC]
          refine sTake (i := 1) (v := ?_) rfl (by kernel_rfl) (fun _ _ _ h => h) (gLoad (by rfl) ?_) ?_
          rotate_left 1
          · intro W hW; (try dsimp only at hW); obtain ⟨os', q', hW'⟩ := hW; subst hW'; go_simp; all_goals with_reducible rfl
          try simp only [Act.put, zA, zB, zC]
          refine sTake (i := 2) (v := ?_) rfl (by kernel_rfl) (fun _ _ _ h => h) (gLoad (by rfl) ?_) ?_
          rotate_left 1
          · intro W hW; (try dsimp only at hW); obtain ⟨os', q', hW'⟩ := hW; subst hW'; go_simp; all_goals with_reducible rfl
          try simp only [Act.put, zA, zB, zC]
          refine sTake (i := 3) (v := ?_) rfl (by kernel_rfl) (fun _ _ _ h => h) (gLoad (by rfl) ?_) ?_
          rotate_left 1
          · intro W hW; (try dsimp only at hW); obtain ⟨os', q', hW'⟩ := hW; subst hW'; go_simp; all_goals with_reducible rfl
          try simp only [Act.put, zA, zB, zC]
          refine sTake (i := 4) (v := ?_) rfl (by kernel_rfl) (fun _ _ _ h => h) (gLoad (by rfl) ?_) ?_
          rotate_left 1
          · intro W hW; (try dsimp only at hW); obtain ⟨os', q', hW'⟩ := hW; subst hW'; go_simp; all_goals with_reducible rfl
          try simp only [Act.put, zA, zB, zC]
          refine sTake (i := 5) rfl (by kernel_rfl) (fun _ _ _ h => h) (gCall (by rfl) ?_ (fun W hW => RetG.into F hW)) ?_
          · intro W hW; go_simp; all_goals with_reducible rfl
          try simp only [Act.put, zA, zB, zC]
          refine sRest (by kernel_rfl) ?_
          intro X2 hX
          obtain ⟨os4, q4, hX⟩ := hX
          obtain ⟨k2, hx2, h42, hb2, n4, nbk⟩ := st.out
          have kG := kept_grow hX
          have hx3 := kG.at hx2 (by simp)
          have hb3 := kG.at hb2 (by simp)
          have k3 := Kept.tr k2 kG
          have G := Give98 z.bk 0 X2 hb3
          clear k2 hx2 h42 hb2 n4 hX kG c11 c40 c41 lx l4 F
          refine aCall (i := 6) rfl (by kernel_rfl) (by rfl) (by go_simp; first | done | rfl | exact ⟨rfl, rfl⟩) (G.mono ?_)
          rintro e' w5 ⟨rfl, k4, hb4⟩
          refine ⟨_, rfl, ?_⟩
          try simp only [Act.put, zA, zB, zC]
          have hx4 := k4.at hx3 (by simp [nbk])
          have k5 := Kept.trans k3 k4 (U := [z.x, z.bk]) (fun x h => h) (fun x h => Or.inl (by simp at h; simp [h]))
          clear hx3 hb3 k3 G k4
          refine aVal (i := 7) (v := ?_) rfl (by kernel_rfl) (by rfl) ?_ ?_
          rotate_left 1
          · go_simp; all_goals with_reducible rfl
          try simp only [Act.put, zA, zB, zC]
          refine yTake (i := 8) rfl (by kernel_rfl) (fun _ _ _ h => h) (by rfl) (fun _ => by go_simp; first | done | rfl) ?_
          try simp only [Act.put, zA, zB, zC]
          refine yTake (i := 9) rfl (by kernel_rfl) (fun _ _ _ h => h) (by rfl) (fun _ => by go_simp; first | done | rfl) ?_
          try simp only [Act.put, zA, zB, zC]
          refine aVal (i := 10) (v := ?_) rfl (by kernel_rfl) (by rfl) ?_ ?_
          rotate_left 1
          · go_simp; all_goals with_reducible rfl
          try simp only [Act.put, zA, zB, zC]
          refine aVal (i := 11) (v := ?_) rfl (by kernel_rfl) (by rfl) ?_ ?_
          rotate_left 1
          · go_simp; all_goals with_reducible rfl
          try simp only [Act.put, zA, zB, zC]
          refine wpAny_done (by kernel_rfl) ?_ _
          have c16 : w5.cell? ⟨z.x, 16, none⟩ = some (.int .i64 given) := cell_of hx4 16
          have f16 : w5.frozen? ⟨z.x, 16, none⟩ = false := frozen_of hx4 16
          have lx := heap_lt hx4
          have hw16 : IntKind.i64.wrap (given + 0) = given := by rw [Int.add_zero]; exact IntWalk.i64_in _ (by omega)
          have hx5 : (w5.setCell ⟨z.x, 16, none⟩ (.int .i64 given)).heap[z.x]? = some (.cells (exC z tasks mode ring clock idle given all) 80 (0, 0)) := heap_setCell hx4
          have hb5 := (heap_setCell_ne (v := .int .i64 given) (a := ⟨z.x, 16, none⟩) nbk).trans hb4
          have k6 := k5.setCell ⟨z.x, 16, none⟩ (.int .i64 given) (Or.inl (by simp))
          have st := Lib.hid (And.intro hx5 (And.intro hb5 k6))
          clear hx4 hb4 k5 hx5 hb5 k6
          go_wp2_with fail
          go_returns
          have k := st.out.2.2
          have cs := hend.out
          obtain ⟨ma, mb, mc, md, hmm⟩ := cs.hm
          have n1 : z.x ≠ z.m := heap_ne cs.hx hmm (by simp)
          have n2 : z.bk ≠ z.m := heap_ne cs.hb hmm (by simp)
          have n3 : z.ls ≠ z.x := cs.hl.ne cs.hx
          have n4 : z.ls ≠ z.bk := cs.hl.ne cs.hb
          have hx' := st.out.1
          exact ⟨rfl, hx', st.out.2.1, ⟨ma, mb, mc, md, k.at hmm (by simp [Ne.symm n1, Ne.symm n2])⟩, cs.hl.kept k (by simp [n3, n4]), Kept.trans cs.k k (fun x h => h) (fun x h => Or.inl (by simp at h; rcases h with h | h <;> simp [h]))⟩
        · obtain ⟨rfl, t1, t2, _⟩ := hjob rfl
          have Cm := fun W => cmpRI clock tn hk0 (by omega) t1 (by omega) W
          go_wp2_with fail
          refine (Cm _).mono ?_
          rintro e' V9 ⟨rfl, os9, q9, hV9⟩
          have cs := st.out.1.kept0 (kept_grow hV9)
          have p8 := (kept_grow hV9).at st.out.2 (by simp)
          replace st := Lib.hid (And.intro cs p8)
          clear cs p8 hV9 d0 d1 d2 d3 d4 c1 c2 c3 c4 c5 c6 l7 l8 Cm
          by_cases hz : cmpR clock tn > 0
          · have dz : decide (cmpR clock tn > 0) = true := by simpa using hz
            have c13 : V9.cell? ⟨z.x, 13, none⟩ = some (.pointer (some ⟨z.m, 0, none⟩)) := cell_of st.out.1.hx 13
            have lx := heap_lt st.out.1.hx
            go_wp2_with fail
            refine (meter_add (n := 1) st.out.1.hm (k := 2) (by omega)).mono ?_
            rintro e' V10 ⟨⟨y, rfl⟩, km, hm⟩
            have n8 : z.m ≠ B8 := by
              obtain ⟨ma, mb, mc, md, hmm⟩ := st.out.1.hm
              exact heap_ne hmm st.out.2 (by simp)
            have cs := st.out.1.meter km hm
            have p8 := km.at st.out.2 (by simp [Ne.symm n8])
            replace st := Lib.hid (And.intro cs p8)
            clear cs p8 km hm n8 c13 lx
            go_wp2_with fail
            have cs := st.out.1
            have p8 := st.out.2
            obtain ⟨pb, pc, hP⟩ := put_last cs.hl (.agg #[.int .i64 0, .int .i64 (clock + 1), .int .i64 1, .bool true, .bool true])
            have c18 : V10.cell? ⟨z.x, 18, none⟩ = some (.map (some z.ls)) := cell_of cs.hx 18
            have lx := heap_lt cs.hx
            have l8 := heap_lt p8
            have q1 : V10.cell? ⟨B8, 1, none⟩ = some (.int .i64 0) := cell_of p8 1
            have q2 : V10.cell? ⟨B8, 2, none⟩ = some (.int .i64 id) := cell_of p8 2
            have q5 : V10.cell? ⟨B8, 5, none⟩ = some (.int .i64 (clock + 1)) := cell_of p8 5
            have q6 : V10.cell? ⟨B8, 6, none⟩ = some (.int .i64 1) := cell_of p8 6
            clear cs p8
            refine wp_region_any (by kernel_rfl) ?_
            rw [List.size_toArray]
            refine wpAnyS_any (S := fun X => X = V10.drew) (k := 11) _ _ _ ?_ _ rfl
            refine sTake (i := 0) rfl (by kernel_rfl) (fun _ _ _ h => h) (gLoad (by rfl) (fun W hW => by (try dsimp only at hW); subst hW; go_simp; first | done | rfl)) ?_
            try simp only [Act.put, zA, zB, zC]
            refine sTake (i := 1) rfl (by kernel_rfl) (fun _ _ _ h => h) (gLoad (by rfl) (fun W hW => by (try dsimp only at hW); subst hW; go_simp; first | done | rfl)) ?_
            try simp only [Act.put, zA, zB, zC]
            refine sTake (i := 2) rfl (by kernel_rfl) (fun _ _ _ h => h) (gLoad (by rfl) (fun W hW => by (try dsimp only at hW); subst hW; go_simp; first | done | rfl)) ?_
            try simp only [Act.put, zA, zB, zC]
            refine sTake (i := 3) rfl (by kernel_rfl) (fun _ _ _ h => h) (gLoad (by rfl) (fun W hW => by (try dsimp only at hW); subst hW; go_simp; first | done | rfl)) ?_
            try simp only [Act.put, zA, zB, zC]
            refine sTake (i := 4) rfl (by kernel_rfl) (fun _ _ _ h => h) (gLoad (by rfl) (fun W hW => by (try dsimp only at hW); subst hW; go_simp; first | done | rfl)) ?_
            try simp only [Act.put, zA, zB, zC]
            refine sTake (i := 5) rfl (by kernel_rfl) (fun _ _ _ h => h) (gLoad (by rfl) (fun W hW => by (try dsimp only at hW); subst hW; go_simp; first | done | rfl)) ?_
            try simp only [Act.put, zA, zB, zC]
            refine sTake (i := 6) rfl (by kernel_rfl) (fun _ _ _ h => h) (gLoad (by rfl) (fun W hW => by (try dsimp only at hW); subst hW; go_simp; first | done | rfl)) ?_
            try simp only [Act.put, zA, zB, zC]
            refine sTake (i := 7) rfl (by kernel_rfl) (fun _ _ _ h => h) (gLoad (by rfl) (fun W hW => by (try dsimp only at hW); subst hW; go_simp; first | done | rfl)) ?_
            try simp only [Act.put, zA, zB, zC]
            refine sTake (i := 8) rfl (by kernel_rfl) (fun _ _ _ h => h) (gLoad (by rfl) (fun W hW => by (try dsimp only at hW); subst hW; go_simp; first | done | rfl)) ?_
            try simp only [Act.put, zA, zB, zC]
            refine sTake (i := 9) rfl (by kernel_rfl) (fun _ _ _ h => h) (gLoad (by rfl) (fun W hW => by (try dsimp only at hW); subst hW; go_simp; first | done | rfl)) ?_
            try simp only [Act.put, zA, zB, zC]
            refine sTake (i := 10) rfl (by kernel_rfl) (fun _ _ _ h => h) (gLoad (by rfl) (fun W hW => by (try dsimp only at hW); subst hW; go_simp; first | done | rfl)) ?_
            try simp only [Act.put, zA, zB, zC]
            refine sRest (by kernel_rfl) ?_
            rintro X rfl
            have hPX := hP V10.drew rfl
            have cs := (CS.kept0 st.out.1 ((Kept.refl _ _).drew)).last (b := pb) (c := pc) (v := .agg #[.int .i64 0, .int .i64 (clock + 1), .int .i64 1, .bool true, .bool true]) ⟨_, _, _, _, rfl, fun _ => ⟨rfl, by omega, by omega, rfl⟩⟩
            obtain ⟨Z, hZ⟩ : ∃ Z, Go.ChangeMaps.setBlock V10.drew z.ls (.map #[{ key := .int .i64 id, val := .agg #[.int .i64 0, .int .i64 (clock + 1), .int .i64 1, .bool true, .bool true], born := pb }] pc) = Z := ⟨_, rfl⟩
            rw [hZ] at hPX
            rw [hZ] at cs
            replace st := Lib.hid cs
            clear cs c18 lx l8 q1 q2 q5 q6 hP
            refine aSkip (i := 11) (w' := ?_) rfl (by kernel_rfl) (by rfl) ?_ ?_
            rotate_left 1
            · go_simp; all_goals with_reducible rfl
            try simp only [Act.put, zA, zB, zC]
            refine wpAny_done (by kernel_rfl) ?_ _
            clear hPX hZ
            go_wp2_with fail
            rw [rounds_succ]
            go_wp2_with fail
            have cs := st.out
            have hxV := cs.hx
            unfold XAt at hxV
            have h4 := cs.h4
            have h5 := cs.h5
            have hbV := cs.hb
            have hend := Lib.hid cs
            clear cs st
            have st := Lib.hid (And.intro (Kept.refl [z.x, z.bk] Z) (And.intro hxV (And.intro h4 hbV)))
            have cA : Z.cell? ⟨z.x, 14, none⟩ = some (.int .i64 idle) := cell_of hxV 14
            have cB : Z.cell? ⟨z.x, 15, none⟩ = some (.int .i64 1) := cell_of hxV 15
            have cC : Z.cell? ⟨b13, 0, none⟩ = some (.int .i64 0) := cell_of h5 0
            have cD : Z.cell? ⟨b13, 1, none⟩ = some (.int .i64 1) := cell_of h5 1
            have lx := heap_lt hxV
            have l5 := heap_lt h5
            have S59 := fun W => sumI idle 0 hi0 (by omega) (by omega) (by omega) W
            try simp only [Int.add_zero] at S59
            clear h4 h5 hxV hbV
            refine wp_region_any (by kernel_rfl) ?_
            rw [List.size_toArray]
            refine wpAnyS_any (S := fun X => ∃ os q, Go.Proofs.YtgfbfklnhmndfaaGreat.grow Z os q = X) (k := 7) _ _ _ ?_ _ (gr_drew (gr_refl _))
            refine sTake (i := 0) (v := ?_) rfl (by kernel_rfl) (fun _ _ _ h => h) (gLoad (by rfl) ?_) ?_
            rotate_left 1
            · intro W hW; (try dsimp only at hW); obtain ⟨os', q', hW'⟩ := hW; subst hW'; go_simp; all_goals with_reducible rfl
            try simp only [Act.put, zA, zB, zC]
            refine sTake (i := 1) (v := ?_) rfl (by kernel_rfl) (fun _ _ _ h => h) (gLoad (by rfl) ?_) ?_
            rotate_left 1
            · intro W hW; (try dsimp only at hW); obtain ⟨os', q', hW'⟩ := hW; subst hW'; go_simp; all_goals with_reducible rfl
            try simp only [Act.put, zA, zB, zC]
            refine sTake (i := 2) (v := ?_) rfl (by kernel_rfl) (fun _ _ _ h => h) (gLoad (by rfl) ?_) ?_
            rotate_left 1
            · intro W hW; (try dsimp only at hW); obtain ⟨os', q', hW'⟩ := hW; subst hW'; go_simp; all_goals with_reducible rfl
            try simp only [Act.put, zA, zB, zC]
            refine sTake (i := 3) (v := ?_) rfl (by kernel_rfl) (fun _ _ _ h => h) (gLoad (by rfl) ?_) ?_
            rotate_left 1
            · intro W hW; (try dsimp only at hW); obtain ⟨os', q', hW'⟩ := hW; subst hW'; go_simp; all_goals with_reducible rfl
            try simp only [Act.put, zA, zB, zC]
            refine sTake (i := 4) (v := ?_) rfl (by kernel_rfl) (fun _ _ _ h => h) (gLoad (by rfl) ?_) ?_
            rotate_left 1
            · intro W hW; (try dsimp only at hW); obtain ⟨os', q', hW'⟩ := hW; subst hW'; go_simp; all_goals with_reducible rfl
            try simp only [Act.put, zA, zB, zC]
            refine sTake (i := 5) (v := ?_) rfl (by kernel_rfl) (fun _ _ _ h => h) (gLoad (by rfl) ?_) ?_
            rotate_left 1
            · intro W hW; (try dsimp only at hW); obtain ⟨os', q', hW'⟩ := hW; subst hW'; go_simp; all_goals with_reducible rfl
            try simp only [Act.put, zA, zB, zC]
            refine sTake (i := 6) rfl (by kernel_rfl) (fun _ _ _ h => h) (gCall (by rfl) ?_ (fun W hW => RetG.into S59 hW)) ?_
            · intro W hW; go_simp; all_goals with_reducible rfl
            try simp only [Act.put, zA, zB, zC]
            refine sRest (by kernel_rfl) ?_
            intro X hX
            obtain ⟨os3, q3, hX⟩ := hX
            obtain ⟨kV, hxV, h4, hbV⟩ := st.out
            have kG := kept_grow hX
            have hx1 := kG.at hxV (by simp)
            have h41 := kG.at h4 (by simp)
            have hb1 := kG.at hbV (by simp)
            have k1 := Kept.tr kV kG
            have f14 : X.frozen? ⟨z.x, 14, none⟩ = false := frozen_of hx1 14
            have f15 : X.frozen? ⟨z.x, 15, none⟩ = false := frozen_of hx1 15
            have c14 : X.cell? ⟨z.x, 14, none⟩ = some (.int .i64 idle) := cell_of hx1 14
            have c15 : X.cell? ⟨z.x, 15, none⟩ = some (.int .i64 1) := cell_of hx1 15
            have lx1 := heap_lt hx1
            have hx2 : ((X.setCell ⟨z.x, 14, none⟩ (.int .i64 idle)).setCell ⟨z.x, 15, none⟩ (.int .i64 1)).heap[z.x]? = some (.cells (exC z tasks mode ring clock idle given all) 80 (0, 0)) := heap_setCell (heap_setCell hx1)
            have n4 : z.x ≠ b12 := heap_ne hxV h4 (by simp)
            have nbk : z.x ≠ z.bk := heap_ne hxV hbV (by simp)
            have h42 : ((X.setCell ⟨z.x, 14, none⟩ (.int .i64 idle)).setCell ⟨z.x, 15, none⟩ (.int .i64 1)).heap[b12]? = _ := (heap_setCell_ne n4).trans ((heap_setCell_ne n4).trans h41)
            have hb2 : ((X.setCell ⟨z.x, 14, none⟩ (.int .i64 idle)).setCell ⟨z.x, 15, none⟩ (.int .i64 1)).heap[z.bk]? = _ := (heap_setCell_ne nbk).trans ((heap_setCell_ne nbk).trans hb1)
            have k2 := (k1.setCell ⟨z.x, 14, none⟩ (.int .i64 idle) (Or.inl (by simp))).setCell ⟨z.x, 15, none⟩ (.int .i64 1) (Or.inl (by simp))
            obtain ⟨V2, hV2⟩ : ∃ V2, ((X.setCell ⟨z.x, 14, none⟩ (.int .i64 idle)).setCell ⟨z.x, 15, none⟩ (.int .i64 1)) = V2 := ⟨_, rfl⟩
            rw [hV2] at hx2 h42 hb2 k2
            have st := Lib.hid (And.intro k2 (And.intro hx2 (And.intro h42 (And.intro hb2 (And.intro n4 nbk)))))
            clear kV hxV h4 hbV hX kG hx1 h41 hb1 k1 cA cB cC cD lx l5 S59
            clear hx2 h42 hb2 k2 n4 nbk
            refine aVal (i := 7) (v := ?_) rfl (by kernel_rfl) (by rfl) ?_ ?_
            rotate_left 1
            · go_simp; all_goals with_reducible rfl
            try simp only [Act.put, zA, zB, zC]
            refine aVal (i := 8) (v := ?_) rfl (by kernel_rfl) (by rfl) ?_ ?_
            rotate_left 1
            · go_simp; all_goals with_reducible rfl
            try simp only [Act.put, zA, zB, zC]
            refine aSkip (i := 9) (w' := ?_) rfl (by kernel_rfl) (by rfl) ?_ ?_
            rotate_left 1
            · go_simp; all_goals with_reducible rfl
            try simp only [Act.put, zA, zB, zC]
            refine wpAny_done (by kernel_rfl) ?_ _
            try rw [hV2]
            clear hV2 f14 f15 c14 c15 lx1
            obtain ⟨k2, hx2, h42, hb2, n4, nbk⟩ := st.out
            have c11 : V2.cell? ⟨z.x, 11, none⟩ = some (.pointer (some ⟨z.bk, 0, none⟩)) := cell_of hx2 11
            have c40 : V2.cell? ⟨b12, 0, none⟩ = some (.int .i64 ((0 : Nat) : Int)) := cell_of h42 0
            have c41 : V2.cell? ⟨b12, 1, none⟩ = some (.int .i64 1) := cell_of h42 1
            have lx := heap_lt hx2
            have l4 := heap_lt h42
            have F := fun W => floorI 0 (by omega) W
            clear k2 hx2 h42 hb2 n4 nbk
            go_wp2_with fail
            refine wp_region_any (by kernel_rfl) ?_
            rw [List.size_toArray]
            refine wpAnyS_any (S := fun X => ∃ os q, Go.Proofs.YtgfbfklnhmndfaaGreat.grow V2 os q = X) (k := 6) _ _ _ ?_ _ (gr_drew (gr_refl _))
            refine sTake (i := 0) (v := ?_) rfl (by kernel_rfl) (fun _ _ _ h => h) (gLoad (by rfl) ?_) ?_
            rotate_left 1
            · intro W hW; (try dsimp only at hW); obtain ⟨os', q', hW'⟩ := hW; subst hW'; go_simp; all_goals with_reducible rfl
            try simp only [Act.put, zA, zB, zC]
            refine sTake (i := 1) (v := ?_) rfl (by kernel_rfl) (fun _ _ _ h => h) (gLoad (by rfl) ?_) ?_
            rotate_left 1
            · intro W hW; (try dsimp only at hW); obtain ⟨os', q', hW'⟩ := hW; subst hW'; go_simp; all_goals with_reducible rfl
            try simp only [Act.put, zA, zB, zC]
            refine sTake (i := 2) (v := ?_) rfl (by kernel_rfl) (fun _ _ _ h => h) (gLoad (by rfl) ?_) ?_
            rotate_left 1
            · intro W hW; (try dsimp only at hW); obtain ⟨os', q', hW'⟩ := hW; subst hW'; go_simp; all_goals with_reducible rfl
            try simp only [Act.put, zA, zB, zC]
            refine sTake (i := 3) (v := ?_) rfl (by kernel_rfl) (fun _ _ _ h => h) (gLoad (by rfl) ?_) ?_
            rotate_left 1
            · intro W hW; (try dsimp only at hW); obtain ⟨os', q', hW'⟩ := hW; subst hW'; go_simp; all_goals with_reducible rfl
            try simp only [Act.put, zA, zB, zC]
            refine sTake (i := 4) (v := ?_) rfl (by kernel_rfl) (fun _ _ _ h => h) (gLoad (by rfl) ?_) ?_
            rotate_left 1
            · intro W hW; (try dsimp only at hW); obtain ⟨os', q', hW'⟩ := hW; subst hW'; go_simp; all_goals with_reducible rfl
            try simp only [Act.put, zA, zB, zC]
            refine sTake (i := 5) rfl (by kernel_rfl) (fun _ _ _ h => h) (gCall (by rfl) ?_ (fun W hW => RetG.into F hW)) ?_
            · intro W hW; go_simp; all_goals with_reducible rfl
            try simp only [Act.put, zA, zB, zC]
            refine sRest (by kernel_rfl) ?_
            intro X2 hX
            obtain ⟨os4, q4, hX⟩ := hX
            obtain ⟨k2, hx2, h42, hb2, n4, nbk⟩ := st.out
            have kG := kept_grow hX
            have hx3 := kG.at hx2 (by simp)
            have hb3 := kG.at hb2 (by simp)
            have k3 := Kept.tr k2 kG
            have G := Give98 z.bk 0 X2 hb3
            clear k2 hx2 h42 hb2 n4 hX kG c11 c40 c41 lx l4 F
            refine aCall (i := 6) rfl (by kernel_rfl) (by rfl) (by go_simp; first | done | rfl | exact ⟨rfl, rfl⟩) (G.mono ?_)
            rintro e' w5 ⟨rfl, k4, hb4⟩
            refine ⟨_, rfl, ?_⟩
            try simp only [Act.put, zA, zB, zC]
            have hx4 := k4.at hx3 (by simp [nbk])
            have k5 := Kept.trans k3 k4 (U := [z.x, z.bk]) (fun x h => h) (fun x h => Or.inl (by simp at h; simp [h]))
            clear hx3 hb3 k3 G k4
            refine aVal (i := 7) (v := ?_) rfl (by kernel_rfl) (by rfl) ?_ ?_
            rotate_left 1
            · go_simp; all_goals with_reducible rfl
            try simp only [Act.put, zA, zB, zC]
            refine yTake (i := 8) rfl (by kernel_rfl) (fun _ _ _ h => h) (by rfl) (fun _ => by go_simp; first | done | rfl) ?_
            try simp only [Act.put, zA, zB, zC]
            refine yTake (i := 9) rfl (by kernel_rfl) (fun _ _ _ h => h) (by rfl) (fun _ => by go_simp; first | done | rfl) ?_
            try simp only [Act.put, zA, zB, zC]
            refine aVal (i := 10) (v := ?_) rfl (by kernel_rfl) (by rfl) ?_ ?_
            rotate_left 1
            · go_simp; all_goals with_reducible rfl
            try simp only [Act.put, zA, zB, zC]
            refine aVal (i := 11) (v := ?_) rfl (by kernel_rfl) (by rfl) ?_ ?_
            rotate_left 1
            · go_simp; all_goals with_reducible rfl
            try simp only [Act.put, zA, zB, zC]
            refine wpAny_done (by kernel_rfl) ?_ _
            have c16 : w5.cell? ⟨z.x, 16, none⟩ = some (.int .i64 given) := cell_of hx4 16
            have f16 : w5.frozen? ⟨z.x, 16, none⟩ = false := frozen_of hx4 16
            have lx := heap_lt hx4
            have hw16 : IntKind.i64.wrap (given + 0) = given := by rw [Int.add_zero]; exact IntWalk.i64_in _ (by omega)
            have hx5 : (w5.setCell ⟨z.x, 16, none⟩ (.int .i64 given)).heap[z.x]? = some (.cells (exC z tasks mode ring clock idle given all) 80 (0, 0)) := heap_setCell hx4
            have hb5 := (heap_setCell_ne (v := .int .i64 given) (a := ⟨z.x, 16, none⟩) nbk).trans hb4
            have k6 := k5.setCell ⟨z.x, 16, none⟩ (.int .i64 given) (Or.inl (by simp))
            have st := Lib.hid (And.intro hx5 (And.intro hb5 k6))
            clear hx4 hb4 k5 hx5 hb5 k6
            go_wp2_with fail
            go_returns
            have k := st.out.2.2
            have cs := hend.out
            obtain ⟨ma, mb, mc, md, hmm⟩ := cs.hm
            have n1 : z.x ≠ z.m := heap_ne cs.hx hmm (by simp)
            have n2 : z.bk ≠ z.m := heap_ne cs.hb hmm (by simp)
            have n3 : z.ls ≠ z.x := cs.hl.ne cs.hx
            have n4 : z.ls ≠ z.bk := cs.hl.ne cs.hb
            have hx' := st.out.1
            exact ⟨rfl, hx', st.out.2.1, ⟨ma, mb, mc, md, k.at hmm (by simp [Ne.symm n1, Ne.symm n2])⟩, cs.hl.kept k (by simp [n3, n4]), Kept.trans cs.k k (fun x h => h) (fun x h => Or.inl (by simp at h; rcases h with h | h <;> simp [h]))⟩
          · have dz : decide (cmpR clock tn > 0) = false := by simpa using hz
            go_wp2_with fail
            have cs := st.out.1
            have p8 := st.out.2
            obtain ⟨pb, pc, hP⟩ := put_last cs.hl (.agg #[.int .i64 0, .int .i64 (clock + 1), .int .i64 1, .bool true, .bool true])
            have c18 : V9.cell? ⟨z.x, 18, none⟩ = some (.map (some z.ls)) := cell_of cs.hx 18
            have lx := heap_lt cs.hx
            have l8 := heap_lt p8
            have q1 : V9.cell? ⟨B8, 1, none⟩ = some (.int .i64 0) := cell_of p8 1
            have q2 : V9.cell? ⟨B8, 2, none⟩ = some (.int .i64 id) := cell_of p8 2
            have q5 : V9.cell? ⟨B8, 5, none⟩ = some (.int .i64 (clock + 1)) := cell_of p8 5
            have q6 : V9.cell? ⟨B8, 6, none⟩ = some (.int .i64 1) := cell_of p8 6
            clear cs p8
            refine wp_region_any (by kernel_rfl) ?_
            rw [List.size_toArray]
            refine wpAnyS_any (S := fun X => X = V9.drew) (k := 11) _ _ _ ?_ _ rfl
            refine sTake (i := 0) rfl (by kernel_rfl) (fun _ _ _ h => h) (gLoad (by rfl) (fun W hW => by (try dsimp only at hW); subst hW; go_simp; first | done | rfl)) ?_
            try simp only [Act.put, zA, zB, zC]
            refine sTake (i := 1) rfl (by kernel_rfl) (fun _ _ _ h => h) (gLoad (by rfl) (fun W hW => by (try dsimp only at hW); subst hW; go_simp; first | done | rfl)) ?_
            try simp only [Act.put, zA, zB, zC]
            refine sTake (i := 2) rfl (by kernel_rfl) (fun _ _ _ h => h) (gLoad (by rfl) (fun W hW => by (try dsimp only at hW); subst hW; go_simp; first | done | rfl)) ?_
            try simp only [Act.put, zA, zB, zC]
            refine sTake (i := 3) rfl (by kernel_rfl) (fun _ _ _ h => h) (gLoad (by rfl) (fun W hW => by (try dsimp only at hW); subst hW; go_simp; first | done | rfl)) ?_
            try simp only [Act.put, zA, zB, zC]
            refine sTake (i := 4) rfl (by kernel_rfl) (fun _ _ _ h => h) (gLoad (by rfl) (fun W hW => by (try dsimp only at hW); subst hW; go_simp; first | done | rfl)) ?_
            try simp only [Act.put, zA, zB, zC]
            refine sTake (i := 5) rfl (by kernel_rfl) (fun _ _ _ h => h) (gLoad (by rfl) (fun W hW => by (try dsimp only at hW); subst hW; go_simp; first | done | rfl)) ?_
            try simp only [Act.put, zA, zB, zC]
            refine sTake (i := 6) rfl (by kernel_rfl) (fun _ _ _ h => h) (gLoad (by rfl) (fun W hW => by (try dsimp only at hW); subst hW; go_simp; first | done | rfl)) ?_
            try simp only [Act.put, zA, zB, zC]
            refine sTake (i := 7) rfl (by kernel_rfl) (fun _ _ _ h => h) (gLoad (by rfl) (fun W hW => by (try dsimp only at hW); subst hW; go_simp; first | done | rfl)) ?_
            try simp only [Act.put, zA, zB, zC]
            refine sTake (i := 8) rfl (by kernel_rfl) (fun _ _ _ h => h) (gLoad (by rfl) (fun W hW => by (try dsimp only at hW); subst hW; go_simp; first | done | rfl)) ?_
            try simp only [Act.put, zA, zB, zC]
            refine sTake (i := 9) rfl (by kernel_rfl) (fun _ _ _ h => h) (gLoad (by rfl) (fun W hW => by (try dsimp only at hW); subst hW; go_simp; first | done | rfl)) ?_
            try simp only [Act.put, zA, zB, zC]
            refine sTake (i := 10) rfl (by kernel_rfl) (fun _ _ _ h => h) (gLoad (by rfl) (fun W hW => by (try dsimp only at hW); subst hW; go_simp; first | done | rfl)) ?_
            try simp only [Act.put, zA, zB, zC]
            refine sRest (by kernel_rfl) ?_
            rintro X rfl
            have hPX := hP V9.drew rfl
            have cs := (CS.kept0 st.out.1 ((Kept.refl _ _).drew)).last (b := pb) (c := pc) (v := .agg #[.int .i64 0, .int .i64 (clock + 1), .int .i64 1, .bool true, .bool true]) ⟨_, _, _, _, rfl, fun _ => ⟨rfl, by omega, by omega, rfl⟩⟩
            obtain ⟨Z, hZ⟩ : ∃ Z, Go.ChangeMaps.setBlock V9.drew z.ls (.map #[{ key := .int .i64 id, val := .agg #[.int .i64 0, .int .i64 (clock + 1), .int .i64 1, .bool true, .bool true], born := pb }] pc) = Z := ⟨_, rfl⟩
            rw [hZ] at hPX
            rw [hZ] at cs
            replace st := Lib.hid cs
            clear cs c18 lx l8 q1 q2 q5 q6 hP
            refine aSkip (i := 11) (w' := ?_) rfl (by kernel_rfl) (by rfl) ?_ ?_
            rotate_left 1
            · go_simp; all_goals with_reducible rfl
            try simp only [Act.put, zA, zB, zC]
            refine wpAny_done (by kernel_rfl) ?_ _
            clear hPX hZ
            go_wp2_with fail
            rw [rounds_succ]
            go_wp2_with fail
            have cs := st.out
            have hxV := cs.hx
            unfold XAt at hxV
            have h4 := cs.h4
            have h5 := cs.h5
            have hbV := cs.hb
            have hend := Lib.hid cs
            clear cs st
            have st := Lib.hid (And.intro (Kept.refl [z.x, z.bk] Z) (And.intro hxV (And.intro h4 hbV)))
            have cA : Z.cell? ⟨z.x, 14, none⟩ = some (.int .i64 idle) := cell_of hxV 14
            have cB : Z.cell? ⟨z.x, 15, none⟩ = some (.int .i64 1) := cell_of hxV 15
            have cC : Z.cell? ⟨b13, 0, none⟩ = some (.int .i64 0) := cell_of h5 0
            have cD : Z.cell? ⟨b13, 1, none⟩ = some (.int .i64 1) := cell_of h5 1
            have lx := heap_lt hxV
            have l5 := heap_lt h5
            have S59 := fun W => sumI idle 0 hi0 (by omega) (by omega) (by omega) W
            try simp only [Int.add_zero] at S59
            clear h4 h5 hxV hbV
            refine wp_region_any (by kernel_rfl) ?_
            rw [List.size_toArray]
            refine wpAnyS_any (S := fun X => ∃ os q, Go.Proofs.YtgfbfklnhmndfaaGreat.grow Z os q = X) (k := 7) _ _ _ ?_ _ (gr_drew (gr_refl _))
            refine sTake (i := 0) (v := ?_) rfl (by kernel_rfl) (fun _ _ _ h => h) (gLoad (by rfl) ?_) ?_
            rotate_left 1
            · intro W hW; (try dsimp only at hW); obtain ⟨os', q', hW'⟩ := hW; subst hW'; go_simp; all_goals with_reducible rfl
            try simp only [Act.put, zA, zB, zC]
            refine sTake (i := 1) (v := ?_) rfl (by kernel_rfl) (fun _ _ _ h => h) (gLoad (by rfl) ?_) ?_
            rotate_left 1
            · intro W hW; (try dsimp only at hW); obtain ⟨os', q', hW'⟩ := hW; subst hW'; go_simp; all_goals with_reducible rfl
            try simp only [Act.put, zA, zB, zC]
            refine sTake (i := 2) (v := ?_) rfl (by kernel_rfl) (fun _ _ _ h => h) (gLoad (by rfl) ?_) ?_
            rotate_left 1
            · intro W hW; (try dsimp only at hW); obtain ⟨os', q', hW'⟩ := hW; subst hW'; go_simp; all_goals with_reducible rfl
            try simp only [Act.put, zA, zB, zC]
            refine sTake (i := 3) (v := ?_) rfl (by kernel_rfl) (fun _ _ _ h => h) (gLoad (by rfl) ?_) ?_
            rotate_left 1
            · intro W hW; (try dsimp only at hW); obtain ⟨os', q', hW'⟩ := hW; subst hW'; go_simp; all_goals with_reducible rfl
            try simp only [Act.put, zA, zB, zC]
            refine sTake (i := 4) (v := ?_) rfl (by kernel_rfl) (fun _ _ _ h => h) (gLoad (by rfl) ?_) ?_
            rotate_left 1
            · intro W hW; (try dsimp only at hW); obtain ⟨os', q', hW'⟩ := hW; subst hW'; go_simp; all_goals with_reducible rfl
            try simp only [Act.put, zA, zB, zC]
            refine sTake (i := 5) (v := ?_) rfl (by kernel_rfl) (fun _ _ _ h => h) (gLoad (by rfl) ?_) ?_
            rotate_left 1
            · intro W hW; (try dsimp only at hW); obtain ⟨os', q', hW'⟩ := hW; subst hW'; go_simp; all_goals with_reducible rfl
            try simp only [Act.put, zA, zB, zC]
            refine sTake (i := 6) rfl (by kernel_rfl) (fun _ _ _ h => h) (gCall (by rfl) ?_ (fun W hW => RetG.into S59 hW)) ?_
            · intro W hW; go_simp; all_goals with_reducible rfl
            try simp only [Act.put, zA, zB, zC]
            refine sRest (by kernel_rfl) ?_
            intro X hX
            obtain ⟨os3, q3, hX⟩ := hX
            obtain ⟨kV, hxV, h4, hbV⟩ := st.out
            have kG := kept_grow hX
            have hx1 := kG.at hxV (by simp)
            have h41 := kG.at h4 (by simp)
            have hb1 := kG.at hbV (by simp)
            have k1 := Kept.tr kV kG
            have f14 : X.frozen? ⟨z.x, 14, none⟩ = false := frozen_of hx1 14
            have f15 : X.frozen? ⟨z.x, 15, none⟩ = false := frozen_of hx1 15
            have c14 : X.cell? ⟨z.x, 14, none⟩ = some (.int .i64 idle) := cell_of hx1 14
            have c15 : X.cell? ⟨z.x, 15, none⟩ = some (.int .i64 1) := cell_of hx1 15
            have lx1 := heap_lt hx1
            have hx2 : ((X.setCell ⟨z.x, 14, none⟩ (.int .i64 idle)).setCell ⟨z.x, 15, none⟩ (.int .i64 1)).heap[z.x]? = some (.cells (exC z tasks mode ring clock idle given all) 80 (0, 0)) := heap_setCell (heap_setCell hx1)
            have n4 : z.x ≠ b12 := heap_ne hxV h4 (by simp)
            have nbk : z.x ≠ z.bk := heap_ne hxV hbV (by simp)
            have h42 : ((X.setCell ⟨z.x, 14, none⟩ (.int .i64 idle)).setCell ⟨z.x, 15, none⟩ (.int .i64 1)).heap[b12]? = _ := (heap_setCell_ne n4).trans ((heap_setCell_ne n4).trans h41)
            have hb2 : ((X.setCell ⟨z.x, 14, none⟩ (.int .i64 idle)).setCell ⟨z.x, 15, none⟩ (.int .i64 1)).heap[z.bk]? = _ := (heap_setCell_ne nbk).trans ((heap_setCell_ne nbk).trans hb1)
            have k2 := (k1.setCell ⟨z.x, 14, none⟩ (.int .i64 idle) (Or.inl (by simp))).setCell ⟨z.x, 15, none⟩ (.int .i64 1) (Or.inl (by simp))
            obtain ⟨V2, hV2⟩ : ∃ V2, ((X.setCell ⟨z.x, 14, none⟩ (.int .i64 idle)).setCell ⟨z.x, 15, none⟩ (.int .i64 1)) = V2 := ⟨_, rfl⟩
            rw [hV2] at hx2 h42 hb2 k2
            have st := Lib.hid (And.intro k2 (And.intro hx2 (And.intro h42 (And.intro hb2 (And.intro n4 nbk)))))
            clear kV hxV h4 hbV hX kG hx1 h41 hb1 k1 cA cB cC cD lx l5 S59
            clear hx2 h42 hb2 k2 n4 nbk
            refine aVal (i := 7) (v := ?_) rfl (by kernel_rfl) (by rfl) ?_ ?_
            rotate_left 1
            · go_simp; all_goals with_reducible rfl
            try simp only [Act.put, zA, zB, zC]
            refine aVal (i := 8) (v := ?_) rfl (by kernel_rfl) (by rfl) ?_ ?_
            rotate_left 1
            · go_simp; all_goals with_reducible rfl
            try simp only [Act.put, zA, zB, zC]
            refine aSkip (i := 9) (w' := ?_) rfl (by kernel_rfl) (by rfl) ?_ ?_
            rotate_left 1
            · go_simp; all_goals with_reducible rfl
            try simp only [Act.put, zA, zB, zC]
            refine wpAny_done (by kernel_rfl) ?_ _
            try rw [hV2]
            clear hV2 f14 f15 c14 c15 lx1
            obtain ⟨k2, hx2, h42, hb2, n4, nbk⟩ := st.out
            have c11 : V2.cell? ⟨z.x, 11, none⟩ = some (.pointer (some ⟨z.bk, 0, none⟩)) := cell_of hx2 11
            have c40 : V2.cell? ⟨b12, 0, none⟩ = some (.int .i64 ((0 : Nat) : Int)) := cell_of h42 0
            have c41 : V2.cell? ⟨b12, 1, none⟩ = some (.int .i64 1) := cell_of h42 1
            have lx := heap_lt hx2
            have l4 := heap_lt h42
            have F := fun W => floorI 0 (by omega) W
            clear k2 hx2 h42 hb2 n4 nbk
            go_wp2_with fail
            refine wp_region_any (by kernel_rfl) ?_
            rw [List.size_toArray]
            refine wpAnyS_any (S := fun X => ∃ os q, Go.Proofs.YtgfbfklnhmndfaaGreat.grow V2 os q = X) (k := 6) _ _ _ ?_ _ (gr_drew (gr_refl _))
            refine sTake (i := 0) (v := ?_) rfl (by kernel_rfl) (fun _ _ _ h => h) (gLoad (by rfl) ?_) ?_
            rotate_left 1
            · intro W hW; (try dsimp only at hW); obtain ⟨os', q', hW'⟩ := hW; subst hW'; go_simp; all_goals with_reducible rfl
            try simp only [Act.put, zA, zB, zC]
            refine sTake (i := 1) (v := ?_) rfl (by kernel_rfl) (fun _ _ _ h => h) (gLoad (by rfl) ?_) ?_
            rotate_left 1
            · intro W hW; (try dsimp only at hW); obtain ⟨os', q', hW'⟩ := hW; subst hW'; go_simp; all_goals with_reducible rfl
            try simp only [Act.put, zA, zB, zC]
            refine sTake (i := 2) (v := ?_) rfl (by kernel_rfl) (fun _ _ _ h => h) (gLoad (by rfl) ?_) ?_
            rotate_left 1
            · intro W hW; (try dsimp only at hW); obtain ⟨os', q', hW'⟩ := hW; subst hW'; go_simp; all_goals with_reducible rfl
            try simp only [Act.put, zA, zB, zC]
            refine sTake (i := 3) (v := ?_) rfl (by kernel_rfl) (fun _ _ _ h => h) (gLoad (by rfl) ?_) ?_
            rotate_left 1
            · intro W hW; (try dsimp only at hW); obtain ⟨os', q', hW'⟩ := hW; subst hW'; go_simp; all_goals with_reducible rfl
            try simp only [Act.put, zA, zB, zC]
            refine sTake (i := 4) (v := ?_) rfl (by kernel_rfl) (fun _ _ _ h => h) (gLoad (by rfl) ?_) ?_
            rotate_left 1
            · intro W hW; (try dsimp only at hW); obtain ⟨os', q', hW'⟩ := hW; subst hW'; go_simp; all_goals with_reducible rfl
            try simp only [Act.put, zA, zB, zC]
            refine sTake (i := 5) rfl (by kernel_rfl) (fun _ _ _ h => h) (gCall (by rfl) ?_ (fun W hW => RetG.into F hW)) ?_
            · intro W hW; go_simp; all_goals with_reducible rfl
            try simp only [Act.put, zA, zB, zC]
            refine sRest (by kernel_rfl) ?_
            intro X2 hX
            obtain ⟨os4, q4, hX⟩ := hX
            obtain ⟨k2, hx2, h42, hb2, n4, nbk⟩ := st.out
            have kG := kept_grow hX
            have hx3 := kG.at hx2 (by simp)
            have hb3 := kG.at hb2 (by simp)
            have k3 := Kept.tr k2 kG
            have G := Give98 z.bk 0 X2 hb3
            clear k2 hx2 h42 hb2 n4 hX kG c11 c40 c41 lx l4 F
            refine aCall (i := 6) rfl (by kernel_rfl) (by rfl) (by go_simp; first | done | rfl | exact ⟨rfl, rfl⟩) (G.mono ?_)
            rintro e' w5 ⟨rfl, k4, hb4⟩
            refine ⟨_, rfl, ?_⟩
            try simp only [Act.put, zA, zB, zC]
            have hx4 := k4.at hx3 (by simp [nbk])
            have k5 := Kept.trans k3 k4 (U := [z.x, z.bk]) (fun x h => h) (fun x h => Or.inl (by simp at h; simp [h]))
            clear hx3 hb3 k3 G k4
            refine aVal (i := 7) (v := ?_) rfl (by kernel_rfl) (by rfl) ?_ ?_
            rotate_left 1
            · go_simp; all_goals with_reducible rfl
            try simp only [Act.put, zA, zB, zC]
            refine yTake (i := 8) rfl (by kernel_rfl) (fun _ _ _ h => h) (by rfl) (fun _ => by go_simp; first | done | rfl) ?_
            try simp only [Act.put, zA, zB, zC]
            refine yTake (i := 9) rfl (by kernel_rfl) (fun _ _ _ h => h) (by rfl) (fun _ => by go_simp; first | done | rfl) ?_
            try simp only [Act.put, zA, zB, zC]
            refine aVal (i := 10) (v := ?_) rfl (by kernel_rfl) (by rfl) ?_ ?_
            rotate_left 1
            · go_simp; all_goals with_reducible rfl
            try simp only [Act.put, zA, zB, zC]
            refine aVal (i := 11) (v := ?_) rfl (by kernel_rfl) (by rfl) ?_ ?_
            rotate_left 1
            · go_simp; all_goals with_reducible rfl
            try simp only [Act.put, zA, zB, zC]
            refine wpAny_done (by kernel_rfl) ?_ _
            have c16 : w5.cell? ⟨z.x, 16, none⟩ = some (.int .i64 given) := cell_of hx4 16
            have f16 : w5.frozen? ⟨z.x, 16, none⟩ = false := frozen_of hx4 16
            have lx := heap_lt hx4
            have hw16 : IntKind.i64.wrap (given + 0) = given := by rw [Int.add_zero]; exact IntWalk.i64_in _ (by omega)
            have hx5 : (w5.setCell ⟨z.x, 16, none⟩ (.int .i64 given)).heap[z.x]? = some (.cells (exC z tasks mode ring clock idle given all) 80 (0, 0)) := heap_setCell hx4
            have hb5 := (heap_setCell_ne (v := .int .i64 given) (a := ⟨z.x, 16, none⟩) nbk).trans hb4
            have k6 := k5.setCell ⟨z.x, 16, none⟩ (.int .i64 given) (Or.inl (by simp))
            have st := Lib.hid (And.intro hx5 (And.intro hb5 k6))
            clear hx4 hb4 k5 hx5 hb5 k6
            go_wp2_with fail
            go_returns
            have k := st.out.2.2
            have cs := hend.out
            obtain ⟨ma, mb, mc, md, hmm⟩ := cs.hm
            have n1 : z.x ≠ z.m := heap_ne cs.hx hmm (by simp)
            have n2 : z.bk ≠ z.m := heap_ne cs.hb hmm (by simp)
            have n3 : z.ls ≠ z.x := cs.hl.ne cs.hx
            have n4 : z.ls ≠ z.bk := cs.hl.ne cs.hb
            have hx' := st.out.1
            exact ⟨rfl, hx', st.out.2.1, ⟨ma, mb, mc, md, k.at hmm (by simp [Ne.symm n1, Ne.symm n2])⟩, cs.hl.kept k (by simp [n3, n4]), Kept.trans cs.k k (fun x h => h) (fun x h => Or.inl (by simp at h; rcases h with h | h <;> simp [h]))⟩
end
end Go.Proofs.YtgfbfklnhmndfaaGreat
