/- The parts of the top that the law of early release walks through: part 39 of 52. -/
import Derived.Test.YtgfbfklnhmndfaaGreatA1
import Derived.Test.YtgfbfklnhmndfaaGreatA3
import Derived.Test.YtgfbfklnhmndfaaGreatA4
import Derived.Test.YtgfbfklnhmndfaaGreatA9
import Derived.Test.YtgfbfklnhmndfaaGreatA11
import Derived.Test.YtgfbfklnhmndfaaGreatA15
import Derived.Test.YtgfbfklnhmndfaaGreatA20
import Derived.Test.YtgfbfklnhmndfaaGreatA21
import Derived.Test.YtgfbfklnhmndfaaGreatA24
import Derived.Test.YtgfbfklnhmndfaaGreatA25
import Derived.Test.YtgfbfklnhmndfaaGreatA26
import Derived.Test.YtgfbfklnhmndfaaGreatA27
import Derived.Test.YtgfbfklnhmndfaaGreatA28
import Derived.Test.YtgfbfklnhmndfaaGreatA29
import Derived.Test.YtgfbfklnhmndfaaGreatA30
import Derived.Test.YtgfbfklnhmndfaaGreatA32
import Derived.Test.YtgfbfklnhmndfaaGreatA33
import Derived.Test.YtgfbfklnhmndfaaGreatA35
import Derived.Test.YtgfbfklnhmndfaaGreatA36
import Derived.Test.YtgfbfklnhmndfaaGreatA37
import Derived.Test.YtgfbfklnhmndfaaGreatA38
namespace Go.Proofs.YtgfbfklnhmndfaaGreat
open Go.RowKit
set_option linter.unusedSimpArgs false
set_option linter.unusedVariables false
section
attribute [local go_sem ↓] setCell_drewN alloc_drewN grow_cell grow_frozen setCell_grow grow_size cell_alloc_grow frozen_alloc_grow setCell_alloc_grow cell_grow_alloc_grow frozen_grow_alloc_grow setCell_grow_alloc_grow grow_grow
attribute [local go_sem] lt_len size_setCell
def newnewPfairY (B1 : Nat) (i : Nat) (v : Value) (lo hi : Nat) (w : World) : Prop := match i with
  | 0 => v = .agg #[.int .i64 1, .int .i64 1, .int .i64 1, .int .i64 0, .int .i64 0]
  | 1 => v = .pointer (some ⟨B1, 4, none⟩)
  | 2 => v = .int .i64 0
  | 3 => v = .pointer (some ⟨B1, 0, none⟩)
  | 4 => v = .int .i64 1
  | 5 => Part (R17) v lo hi w
  | 6 => v = .pointer (some ⟨B1, 1, none⟩)
  | 7 => v = .int .i64 1
  | 8 => Part (R18 1) v lo hi w
  | 9 => v = .pointer (some ⟨B1, 0, none⟩)
  | 10 => v = .int .i64 1
  | 11 => v = .pointer (some ⟨B1, 2, none⟩)
  | 12 => v = .int .i64 1
  | 13 => v = .bool false
  | 14 => Part (R19 false) v lo hi w
  | 15 => v = .pointer (some ⟨B1, 0, none⟩)
  | 16 => v = .int .i64 1
  | 17 => Part (RC (.cells #[.int .i64 1, .bool false, .int .i64 0, .slice none 0 0] 103 (0, 0))) v lo hi w
  | 18 => Part (RC (.cells #[.int .i64 0, .int .i64 1] 105 (0, 0))) v lo hi w
  | 19 => Part (RC (.cells #[.slice none 0 0] 108 (0, 0))) v lo hi w
  | 20 => v = .pointer (some ⟨B1, 3, none⟩)
  | 21 => v = .int .i64 0
  | 22 => Part (R23 0) v lo hi w
  | 23 => Part (RC (.cells #[.int .i64 0, .int .i64 0, .int .i64 0, .int .i64 0, .int .i64 0] 119 (0, 0))) v lo hi w
  | 24 => v = .agg #[.int .i64 0, .int .i64 1]
  | 25 => ∃ b, lo ≤ b ∧ b < hi ∧ v = .map (some b) ∧ w.heap[b]? = some (.map #[] 0)
  | 26 => ∃ b, lo ≤ b ∧ b < hi ∧ v = .map (some b) ∧ w.heap[b]? = some (.map #[] 0)
  | _ => True
set_option maxHeartbeats 8000000 in
theorem newPfair (w : World) : Calls Tryz.prog 11 #[.agg #[.int .i64 1, .int .i64 1, .int .i64 1, .int .i64 0, .int .i64 0]] w fun e W => ∃ c N I U F A B v, e = .returned (.tuple #[pt c.z.x, .int .i64 0]) ∧ NX w W c N I U F A B 1 v ∧ c.tasks = 1 ∧ c.mode = 1 ∧ c.ring = 0 ∧ c.rk = 0 ∧ c.early = false := by
  have kB : Kept [] w (w.alloc (.cells #[.int .i64 1, .int .i64 1, .int .i64 1, .int .i64 0, .int .i64 0] 23)) := (Kept.refl _ _).alloc _
  have hB : (w.alloc (.cells #[.int .i64 1, .int .i64 1, .int .i64 1, .int .i64 0, .int .i64 0] 23)).heap[w.heap.size]? = some (.cells #[.int .i64 1, .int .i64 1, .int .i64 1, .int .i64 0, .int .i64 0] 23) := heap_alloc_new
  obtain ⟨W0, hW0⟩ : ∃ W0, w.alloc (.cells #[.int .i64 1, .int .i64 1, .int .i64 1, .int .i64 0, .int .i64 0] 23) = W0 := ⟨_, rfl⟩
  obtain ⟨B1, hB1⟩ : ∃ B1, w.heap.size = B1 := ⟨_, rfl⟩
  rw [hW0] at kB hB
  rw [hB1] at hB
  have A1 := fun W => within16 1 1 64 (by omega) (by omega) W
  have A2 := fun W => within16 1 1 4096 (by omega) (by omega) W
  have A3 := fun W => within16 1 1 4 (by omega) (by omega) W
  have A4 := fun W => within16 0 0 4096 (by omega) (by omega) W
  have A5 := fun W => within16 0 0 2147483648 (by omega) (by omega) W
  have c0 : W0.cell? ⟨B1, 0, none⟩ = some (.int .i64 1) := cell_of hB 0
  have lB := heap_lt hB
  replace kB := Lib.hid (And.intro kB hB)
  clear hB
  go_enter Tryz.func11, Tryz.ntmps11
  go_wp2_with fail
  try rw [hW0]
  try rw [hB1]
  refine (A1 _).mono ?_
  rintro e' X1 ⟨rfl, os1, q1, hX1⟩
  have kk := kept_grow hX1
  replace kB := Lib.hid (And.intro (Kept.tr kB.out.1 kk) (kk.at kB.out.2 (by simp)))
  have c1 : X1.cell? ⟨B1, 1, none⟩ = some (.int .i64 1) := cell_of kB.out.2 1
  have lB1 := heap_lt kB.out.2
  clear hX1 kk hW0 hB1 c0 lB
  go_wp2_with fail
  refine (A2 _).mono ?_
  rintro e' X2 ⟨rfl, os2, q2, hX2⟩
  have kk := kept_grow hX2
  replace kB := Lib.hid (And.intro (Kept.tr kB.out.1 kk) (kk.at kB.out.2 (by simp)))
  have c2 : X2.cell? ⟨B1, 2, none⟩ = some (.int .i64 1) := cell_of kB.out.2 2
  have lB2 := heap_lt kB.out.2
  clear hX2 kk c1 lB1
  go_wp2_with fail
  refine (A3 _).mono ?_
  rintro e' X3 ⟨rfl, os3, q3, hX3⟩
  have kk := kept_grow hX3
  replace kB := Lib.hid (And.intro (Kept.tr kB.out.1 kk) (kk.at kB.out.2 (by simp)))
  have c3 : X3.cell? ⟨B1, 3, none⟩ = some (.int .i64 0) := cell_of kB.out.2 3
  have lB3 := heap_lt kB.out.2
  clear hX3 kk c2 lB2
  go_wp2_with fail
  refine (A4 _).mono ?_
  rintro e' X4 ⟨rfl, os4, q4, hX4⟩
  have kk := kept_grow hX4
  replace kB := Lib.hid (And.intro (Kept.tr kB.out.1 kk) (kk.at kB.out.2 (by simp)))
  have c4 : X4.cell? ⟨B1, 4, none⟩ = some (.int .i64 0) := cell_of kB.out.2 4
  have lB4 := heap_lt kB.out.2
  clear hX4 kk c3 lB3
  go_wp2_with fail
  refine (A5 _).mono ?_
  rintro e' X5 ⟨rfl, os5, q5, hX5⟩
  have kk := kept_grow hX5
  replace kB := Lib.hid (And.intro (Kept.tr kB.out.1 kk) (kk.at kB.out.2 (by simp)))
  clear hX5 kk c4 lB4
  go_wp2_with fail
  obtain ⟨kW, hB⟩ := kB.out
  clear A1 A2 A3 A4 A5 kB
  have C17 := fun w => call17 w
  have C18 := fun w => call18_1 w
  have C19 := fun w => call19 false w
  have C20 := fun w => call20 w
  have C21 := fun w => call21 w
  have C22 := fun w => call22 w
  have C23 := fun w => call23_0 w
  have C24 := fun w => call24 w
  have M76 := fun w => run_makeMap (P := Tryz.prog) 76 w
  have M77 := fun w => run_makeMap (P := Tryz.prog) 77 w
  refine bornQ 27 [] [58, 57, 56, 55, 54, 53, 52, 51, 50, 49, 48, 47, 46, 45, 44, 43, 42, 41, 40, 39, 38, 37, 36, 35, 34, 33, 32] (newnewPfairY B1) (by kernel_rfl) (by kernel_rfl) (by kernel_rfl) (fun _ _ d _ _ h => by cases d <;> exact h) ?_ ?_ ?_
  · intro i v lo hi w w' hY hw
    unfold newnewPfairY at *
    split at hY <;> first
      | exact hY
      | (obtain ⟨b, h1, h2, h3, h4⟩ := hY; exact ⟨b, h1, h2, h3, by rw [hw b h1 h2]; exact h4⟩)
      | exact Part.stab hY hw
      | trivial
  · intro i hi o ho a W hr hd hk
    rcases i with _ | _ | _ | _ | _ | _ | _ | _ | _ | _ | _ | _ | _ | _ | _ | _ | _ | _ | _ | _ | _ | _ | _ | _ | _ | _ | _ | i
    · cases ho
      have h1 : a.tmps.getD 1 undef = .pointer (some ⟨B1, 0, none⟩) := (hr 1 (by kernel_rfl)).trans (by kernel_rfl)
      refine ⟨fun h => absurd h (by decide), fun _ => ?_⟩
      have c0 : W.cell? ⟨B1, 0, none⟩ = some (.int .i64 1) := cell_of (hk.at hB (by simp)) 0
      have c1 : W.cell? ⟨B1, 1, none⟩ = some (.int .i64 1) := cell_of (hk.at hB (by simp)) 1
      have c2 : W.cell? ⟨B1, 2, none⟩ = some (.int .i64 1) := cell_of (hk.at hB (by simp)) 2
      have c3 : W.cell? ⟨B1, 3, none⟩ = some (.int .i64 0) := cell_of (hk.at hB (by simp)) 3
      have c4 : W.cell? ⟨B1, 4, none⟩ = some (.int .i64 0) := cell_of (hk.at hB (by simp)) 4
      have ll := hk.lt (heap_lt hB)
      clear hr hd hk C17 C18 C19 C20 C21 C22 C23 C24 M76 M77
      exact born_value _ (by go_simp; try rfl) rfl
    · cases ho
      have h1 : a.tmps.getD 1 undef = .pointer (some ⟨B1, 0, none⟩) := (hr 1 (by kernel_rfl)).trans (by kernel_rfl)
      refine ⟨fun h => absurd h (by decide), fun _ => ?_⟩
      clear hr hd hk C17 C18 C19 C20 C21 C22 C23 C24 M76 M77
      exact born_value _ (by go_simp; try rfl) rfl
    · cases ho
      obtain ⟨_, _, h33⟩ := hd 1 33 (by kernel_rfl) (by kernel_rfl)
      have h33 : a.tmps.getD 33 undef = .pointer (some ⟨B1, 4, none⟩) := h33
      refine ⟨fun h => absurd h (by decide), fun _ => ?_⟩
      have c4 : W.cell? ⟨B1, 4, none⟩ = some (.int .i64 0) := cell_of (hk.at hB (by simp)) 4
      have ll := hk.lt (heap_lt hB)
      clear hr hd hk C17 C18 C19 C20 C21 C22 C23 C24 M76 M77
      exact born_value _ (by go_simp; try rfl) rfl
    · cases ho
      have h1 : a.tmps.getD 1 undef = .pointer (some ⟨B1, 0, none⟩) := (hr 1 (by kernel_rfl)).trans (by kernel_rfl)
      refine ⟨fun h => absurd h (by decide), fun _ => ?_⟩
      clear hr hd hk C17 C18 C19 C20 C21 C22 C23 C24 M76 M77
      exact born_value _ (by go_simp; try rfl) rfl
    · cases ho
      obtain ⟨_, _, h35⟩ := hd 3 35 (by kernel_rfl) (by kernel_rfl)
      have h35 : a.tmps.getD 35 undef = .pointer (some ⟨B1, 0, none⟩) := h35
      refine ⟨fun h => absurd h (by decide), fun _ => ?_⟩
      have c0 : W.cell? ⟨B1, 0, none⟩ = some (.int .i64 1) := cell_of (hk.at hB (by simp)) 0
      have ll := hk.lt (heap_lt hB)
      clear hr hd hk C17 C18 C19 C20 C21 C22 C23 C24 M76 M77
      exact born_value _ (by go_simp; try rfl) rfl
    · cases ho
      obtain ⟨_, _, h36⟩ := hd 4 36 (by kernel_rfl) (by kernel_rfl)
      have h36 : a.tmps.getD 36 undef = .int .i64 1 := h36
      refine ⟨fun h => absurd h (by decide), fun _ => ?_⟩
      clear hr hd hk
      refine Or.inr ⟨_, _, W, by go_simp; first | done | rfl | exact ⟨rfl, rfl⟩, (C17 W).mono ?_⟩
      rintro e' w' ⟨u, rfl, hk', hR⟩
      exact ⟨_, rfl, hk', W, w', hR, rfl, rfl, fun _ _ _ => rfl⟩
    · cases ho
      have h1 : a.tmps.getD 1 undef = .pointer (some ⟨B1, 0, none⟩) := (hr 1 (by kernel_rfl)).trans (by kernel_rfl)
      refine ⟨fun h => absurd h (by decide), fun _ => ?_⟩
      clear hr hd hk C17 C18 C19 C20 C21 C22 C23 C24 M76 M77
      exact born_value _ (by go_simp; try rfl) rfl
    · cases ho
      obtain ⟨_, _, h38⟩ := hd 6 38 (by kernel_rfl) (by kernel_rfl)
      have h38 : a.tmps.getD 38 undef = .pointer (some ⟨B1, 1, none⟩) := h38
      refine ⟨fun h => absurd h (by decide), fun _ => ?_⟩
      have c1 : W.cell? ⟨B1, 1, none⟩ = some (.int .i64 1) := cell_of (hk.at hB (by simp)) 1
      have ll := hk.lt (heap_lt hB)
      clear hr hd hk C17 C18 C19 C20 C21 C22 C23 C24 M76 M77
      exact born_value _ (by go_simp; try rfl) rfl
    · cases ho
      obtain ⟨_, _, h39⟩ := hd 7 39 (by kernel_rfl) (by kernel_rfl)
      have h39 : a.tmps.getD 39 undef = .int .i64 1 := h39
      refine ⟨fun h => absurd h (by decide), fun _ => ?_⟩
      clear hr hd hk
      refine Or.inr ⟨_, _, W, by go_simp; first | done | rfl | exact ⟨rfl, rfl⟩, (C18 W).mono ?_⟩
      rintro e' w' ⟨u, rfl, hk', hR⟩
      exact ⟨_, rfl, hk', W, w', hR, rfl, rfl, fun _ _ _ => rfl⟩
    · cases ho
      have h1 : a.tmps.getD 1 undef = .pointer (some ⟨B1, 0, none⟩) := (hr 1 (by kernel_rfl)).trans (by kernel_rfl)
      refine ⟨fun h => absurd h (by decide), fun _ => ?_⟩
      clear hr hd hk C17 C18 C19 C20 C21 C22 C23 C24 M76 M77
      exact born_value _ (by go_simp; try rfl) rfl
    · cases ho
      obtain ⟨_, _, h41⟩ := hd 9 41 (by kernel_rfl) (by kernel_rfl)
      have h41 : a.tmps.getD 41 undef = .pointer (some ⟨B1, 0, none⟩) := h41
      refine ⟨fun h => absurd h (by decide), fun _ => ?_⟩
      have c0 : W.cell? ⟨B1, 0, none⟩ = some (.int .i64 1) := cell_of (hk.at hB (by simp)) 0
      have ll := hk.lt (heap_lt hB)
      clear hr hd hk C17 C18 C19 C20 C21 C22 C23 C24 M76 M77
      exact born_value _ (by go_simp; try rfl) rfl
    · cases ho
      have h1 : a.tmps.getD 1 undef = .pointer (some ⟨B1, 0, none⟩) := (hr 1 (by kernel_rfl)).trans (by kernel_rfl)
      refine ⟨fun h => absurd h (by decide), fun _ => ?_⟩
      clear hr hd hk C17 C18 C19 C20 C21 C22 C23 C24 M76 M77
      exact born_value _ (by go_simp; try rfl) rfl
    · cases ho
      obtain ⟨_, _, h43⟩ := hd 11 43 (by kernel_rfl) (by kernel_rfl)
      have h43 : a.tmps.getD 43 undef = .pointer (some ⟨B1, 2, none⟩) := h43
      refine ⟨fun h => absurd h (by decide), fun _ => ?_⟩
      have c2 : W.cell? ⟨B1, 2, none⟩ = some (.int .i64 1) := cell_of (hk.at hB (by simp)) 2
      have ll := hk.lt (heap_lt hB)
      clear hr hd hk C17 C18 C19 C20 C21 C22 C23 C24 M76 M77
      exact born_value _ (by go_simp; try rfl) rfl
    · cases ho
      obtain ⟨_, _, h44⟩ := hd 12 44 (by kernel_rfl) (by kernel_rfl)
      have h44 : a.tmps.getD 44 undef = .int .i64 1 := h44
      refine ⟨fun h => absurd h (by decide), fun _ => ?_⟩
      clear hr hd hk C17 C18 C19 C20 C21 C22 C23 C24 M76 M77
      exact born_value _ (by go_simp; try rfl) rfl
    · cases ho
      obtain ⟨_, _, h42⟩ := hd 10 42 (by kernel_rfl) (by kernel_rfl)
      have h42 : a.tmps.getD 42 undef = .int .i64 1 := h42
      obtain ⟨_, _, h45⟩ := hd 13 45 (by kernel_rfl) (by kernel_rfl)
      have h45 : a.tmps.getD 45 undef = .bool false := h45
      refine ⟨fun h => absurd h (by decide), fun _ => ?_⟩
      clear hr hd hk
      refine Or.inr ⟨_, _, W, by go_simp; first | done | rfl | exact ⟨rfl, rfl⟩, (C19 W).mono ?_⟩
      rintro e' w' ⟨u, rfl, hk', hR⟩
      exact ⟨_, rfl, hk', W, w', hR, rfl, rfl, fun _ _ _ => rfl⟩
    · cases ho
      have h1 : a.tmps.getD 1 undef = .pointer (some ⟨B1, 0, none⟩) := (hr 1 (by kernel_rfl)).trans (by kernel_rfl)
      refine ⟨fun h => absurd h (by decide), fun _ => ?_⟩
      clear hr hd hk C17 C18 C19 C20 C21 C22 C23 C24 M76 M77
      exact born_value _ (by go_simp; try rfl) rfl
    · cases ho
      obtain ⟨_, _, h47⟩ := hd 15 47 (by kernel_rfl) (by kernel_rfl)
      have h47 : a.tmps.getD 47 undef = .pointer (some ⟨B1, 0, none⟩) := h47
      refine ⟨fun h => absurd h (by decide), fun _ => ?_⟩
      have c0 : W.cell? ⟨B1, 0, none⟩ = some (.int .i64 1) := cell_of (hk.at hB (by simp)) 0
      have ll := hk.lt (heap_lt hB)
      clear hr hd hk C17 C18 C19 C20 C21 C22 C23 C24 M76 M77
      exact born_value _ (by go_simp; try rfl) rfl
    · cases ho
      obtain ⟨_, _, h48⟩ := hd 16 48 (by kernel_rfl) (by kernel_rfl)
      have h48 : a.tmps.getD 48 undef = .int .i64 1 := h48
      refine ⟨fun h => absurd h (by decide), fun _ => ?_⟩
      clear hr hd hk
      refine Or.inr ⟨_, _, W, by go_simp; first | done | rfl | exact ⟨rfl, rfl⟩, (C20 W).mono ?_⟩
      rintro e' w' ⟨u, rfl, hk', hR⟩
      exact ⟨_, rfl, hk', W, w', hR, rfl, rfl, fun _ _ _ => rfl⟩
    · cases ho
      refine ⟨fun h => absurd h (by decide), fun _ => ?_⟩
      clear hr hd hk
      refine Or.inr ⟨_, _, W, by go_simp; first | done | rfl | exact ⟨rfl, rfl⟩, (C21 W).mono ?_⟩
      rintro e' w' ⟨u, rfl, hk', hR⟩
      exact ⟨_, rfl, hk', W, w', hR, rfl, rfl, fun _ _ _ => rfl⟩
    · cases ho
      refine ⟨fun h => absurd h (by decide), fun _ => ?_⟩
      clear hr hd hk
      refine Or.inr ⟨_, _, W, by go_simp; first | done | rfl | exact ⟨rfl, rfl⟩, (C22 W).mono ?_⟩
      rintro e' w' ⟨u, rfl, hk', hR⟩
      exact ⟨_, rfl, hk', W, w', hR, rfl, rfl, fun _ _ _ => rfl⟩
    · cases ho
      have h1 : a.tmps.getD 1 undef = .pointer (some ⟨B1, 0, none⟩) := (hr 1 (by kernel_rfl)).trans (by kernel_rfl)
      refine ⟨fun h => absurd h (by decide), fun _ => ?_⟩
      clear hr hd hk C17 C18 C19 C20 C21 C22 C23 C24 M76 M77
      exact born_value _ (by go_simp; try rfl) rfl
    · cases ho
      obtain ⟨_, _, h52⟩ := hd 20 52 (by kernel_rfl) (by kernel_rfl)
      have h52 : a.tmps.getD 52 undef = .pointer (some ⟨B1, 3, none⟩) := h52
      refine ⟨fun h => absurd h (by decide), fun _ => ?_⟩
      have c3 : W.cell? ⟨B1, 3, none⟩ = some (.int .i64 0) := cell_of (hk.at hB (by simp)) 3
      have ll := hk.lt (heap_lt hB)
      clear hr hd hk C17 C18 C19 C20 C21 C22 C23 C24 M76 M77
      exact born_value _ (by go_simp; try rfl) rfl
    · cases ho
      obtain ⟨_, _, h53⟩ := hd 21 53 (by kernel_rfl) (by kernel_rfl)
      have h53 : a.tmps.getD 53 undef = .int .i64 0 := h53
      refine ⟨fun h => absurd h (by decide), fun _ => ?_⟩
      clear hr hd hk
      refine Or.inr ⟨_, _, W, by go_simp; first | done | rfl | exact ⟨rfl, rfl⟩, (C23 W).mono ?_⟩
      rintro e' w' ⟨u, rfl, hk', hR⟩
      exact ⟨_, rfl, hk', W, w', hR, rfl, rfl, fun _ _ _ => rfl⟩
    · cases ho
      refine ⟨fun h => absurd h (by decide), fun _ => ?_⟩
      clear hr hd hk
      refine Or.inr ⟨_, _, W, by go_simp; first | done | rfl | exact ⟨rfl, rfl⟩, (C24 W).mono ?_⟩
      rintro e' w' ⟨u, rfl, hk', hR⟩
      exact ⟨_, rfl, hk', W, w', hR, rfl, rfl, fun _ _ _ => rfl⟩
    · cases ho
      refine ⟨fun h => absurd h (by decide), fun _ => ?_⟩
      clear hr hd hk C17 C18 C19 C20 C21 C22 C23 C24 M76 M77
      exact born_value _ (by go_simp; try rfl) rfl
    · cases ho
      refine ⟨fun h => absurd h (by decide), fun _ => ?_⟩
      clear hr hd hk
      refine born_alloc _ _ (by go_simp; first | done | rfl | exact ⟨rfl, rfl⟩) ⟨W.heap.size, by omega, by omega, rfl, heap_alloc_new⟩
    · cases ho
      refine ⟨fun h => absurd h (by decide), fun _ => ?_⟩
      clear hr hd hk
      refine born_alloc _ _ (by go_simp; first | done | rfl | exact ⟨rfl, rfl⟩) ⟨W.heap.size, by omega, by omega, rfl, heap_alloc_new⟩
    · omega
  · intro vs lo hi W hK h1 h2
    have yy0 : vs 0 = .agg #[.int .i64 1, .int .i64 1, .int .i64 1, .int .i64 0, .int .i64 0] := (h1 0 (by omega)).2.2.2
    have yy1 : vs 1 = .pointer (some ⟨B1, 4, none⟩) := (h1 1 (by omega)).2.2.2
    have yy2 : vs 2 = .int .i64 0 := (h1 2 (by omega)).2.2.2
    have yy3 : vs 3 = .pointer (some ⟨B1, 0, none⟩) := (h1 3 (by omega)).2.2.2
    have yy4 : vs 4 = .int .i64 1 := (h1 4 (by omega)).2.2.2
    obtain ⟨p5, q5, r5, wa5, wb5, R5, t5, u5, s5⟩ := h1 5 (by omega)
    obtain ⟨l, A, B, yy5, ⟨n1, n2, n3⟩, nAB, e1, e2, e3⟩ := R5
    have yy6 : vs 6 = .pointer (some ⟨B1, 1, none⟩) := (h1 6 (by omega)).2.2.2
    have yy7 : vs 7 = .int .i64 1 := (h1 7 (by omega)).2.2.2
    obtain ⟨p8, q8, r8, wa8, wb8, R8, t8, u8, s8⟩ := h1 8 (by omega)
    obtain ⟨j, L, s, I, U, M, F, v, yy8, hS, e4, e5, n4, n5, nL, nj⟩ := R8
    have yy9 : vs 9 = .pointer (some ⟨B1, 0, none⟩) := (h1 9 (by omega)).2.2.2
    have yy10 : vs 10 = .int .i64 1 := (h1 10 (by omega)).2.2.2
    have yy11 : vs 11 = .pointer (some ⟨B1, 2, none⟩) := (h1 11 (by omega)).2.2.2
    have yy12 : vs 12 = .int .i64 1 := (h1 12 (by omega)).2.2.2
    have yy13 : vs 13 = .bool false := (h1 13 (by omega)).2.2.2
    obtain ⟨p14, q14, r14, wa14, wb14, R14, t14, u14, s14⟩ := h1 14 (by omega)
    obtain ⟨q, sp, N, T, yy14, ⟨n6, n7, n8, n9⟩, nNT, hQ⟩ := R14
    have yy15 : vs 15 = .pointer (some ⟨B1, 0, none⟩) := (h1 15 (by omega)).2.2.2
    have yy16 : vs 16 = .int .i64 1 := (h1 16 (by omega)).2.2.2
    obtain ⟨p17, q17, r17, wa17, wb17, R17, t17, u17, s17⟩ := h1 17 (by omega)
    obtain ⟨b17, yy17, m17, e17⟩ := R17
    obtain ⟨p18, q18, r18, wa18, wb18, R18, t18, u18, s18⟩ := h1 18 (by omega)
    obtain ⟨b18, yy18, m18, e18⟩ := R18
    obtain ⟨p19, q19, r19, wa19, wb19, R19, t19, u19, s19⟩ := h1 19 (by omega)
    obtain ⟨b19, yy19, m19, e19⟩ := R19
    have yy20 : vs 20 = .pointer (some ⟨B1, 3, none⟩) := (h1 20 (by omega)).2.2.2
    have yy21 : vs 21 = .int .i64 0 := (h1 21 (by omega)).2.2.2
    obtain ⟨p22, q22, r22, wa22, wb22, R22, t22, u22, s22⟩ := h1 22 (by omega)
    obtain ⟨rg, rb, yy22, m1, m2, hrg⟩ := R22
    obtain ⟨p23, q23, r23, wa23, wb23, R23, t23, u23, s23⟩ := h1 23 (by omega)
    obtain ⟨b23, yy23, m23, e23⟩ := R23
    have yy24 : vs 24 = .agg #[.int .i64 0, .int .i64 1] := (h1 24 (by omega)).2.2.2
    obtain ⟨p25, q25, r25, b25, t25, u25, yy25, z25⟩ := h1 25 (by omega)
    obtain ⟨p26, q26, r26, b26, t26, u26, yy26, z26⟩ := h1 26 (by omega)
    simp only [fillR, List.length_cons, List.length_nil, Nat.reduceAdd, List.setIfInBounds_toArray, List.set_cons_succ, List.set_cons_zero]
    rw [yy0, yy1, yy2, yy3, yy4, yy5, yy6, yy7, yy8, yy9, yy10, yy11, yy12, yy13, yy14, yy15, yy16, yy17, yy18, yy19, yy20, yy21, yy22, yy23, yy24, yy25, yy26]
    show wpAny _ _ _ _ 4 _ _ _
    obtain ⟨x1, x2, x3, x4, x5⟩ := hS.new
    have hS' : SlotsW w W s I U M F 1 1 v := hS.moved (by omega) (fun b hb1 hb2 => s8 b (by omega) (by omega)) (Kept.tr kW hK) (by have := kW.1; omega)
    have i1 := h2 8 14 (by omega) (by omega) (by omega)
    have i2 := h2 8 25 (by omega) (by omega) (by omega)
    have i3 := h2 8 26 (by omega) (by omega) (by omega)
    have i4 := h2 8 5 (by omega) (by omega) (by omega)
    have i5 := h2 14 25 (by omega) (by omega) (by omega)
    have i6 := h2 14 26 (by omega) (by omega) (by omega)
    have i7 := h2 14 5 (by omega) (by omega) (by omega)
    have i8 := h2 25 26 (by omega) (by omega) (by omega)
    have i9 := h2 25 5 (by omega) (by omega) (by omega)
    have i10 := h2 26 5 (by omega) (by omega) (by omega)
    have lA := heap_lt e2
    have lBB := heap_lt e3
    have ll := heap_lt e1
    have lM := heap_lt hS.hM
    have lT := (hQ 0).hL.lt
    have lN := (hQ 0).hN.lt
    have lq := heap_lt (hQ 0).hq
    have lsp := heap_lt (hQ 0).hs
    have lj := heap_lt e4
    have lL := heap_lt e5
    have lrg := heap_lt hrg.1
    have lrb : rb < wb22.heap.size := by obtain ⟨_, _, hs, _⟩ := hrg; exact heap_lt hs
    have l17 := heap_lt e17
    have l18 := heap_lt e18
    have l19 := heap_lt e19
    have l23 := heap_lt e23
    have hw0 := kW.1
    have nd : [M, T, N, b25, b26, A, B].Nodup := by
      simp only [List.nodup_cons, List.mem_cons, List.not_mem_nil, or_false, not_or, not_false_eq_true, List.nodup_nil, and_true]
      refine ⟨⟨?_, ?_, ?_, ?_, ?_, ?_⟩, ⟨?_, ?_, ?_, ?_, ?_⟩, ⟨?_, ?_, ?_, ?_⟩, ⟨?_, ?_, ?_⟩, ⟨?_, ?_⟩, ?_⟩
      · clear i2 i3 i4 i5 i6 i7 i8 i9 i10; omega
      · clear i2 i3 i4 i5 i6 i7 i8 i9 i10; omega
      · clear i1 i3 i4 i5 i6 i7 i8 i9 i10; omega
      · clear i1 i2 i4 i5 i6 i7 i8 i9 i10; omega
      · clear i1 i2 i3 i5 i6 i7 i8 i9 i10; omega
      · clear i1 i2 i3 i5 i6 i7 i8 i9 i10; omega
      · exact Ne.symm nNT
      · clear i1 i2 i3 i4 i6 i7 i8 i9 i10; omega
      · clear i1 i2 i3 i4 i5 i7 i8 i9 i10; omega
      · clear i1 i2 i3 i4 i5 i6 i8 i9 i10; omega
      · clear i1 i2 i3 i4 i5 i6 i8 i9 i10; omega
      · clear i1 i2 i3 i4 i6 i7 i8 i9 i10; omega
      · clear i1 i2 i3 i4 i5 i7 i8 i9 i10; omega
      · clear i1 i2 i3 i4 i5 i6 i8 i9 i10; omega
      · clear i1 i2 i3 i4 i5 i6 i8 i9 i10; omega
      · clear i1 i2 i3 i4 i5 i6 i7 i9 i10; omega
      · clear i1 i2 i3 i4 i5 i6 i7 i8 i10; omega
      · clear i1 i2 i3 i4 i5 i6 i7 i8 i10; omega
      · clear i1 i2 i3 i4 i5 i6 i7 i8 i9; omega
      · clear i1 i2 i3 i4 i5 i6 i7 i8 i9; omega
      · exact nAB
    have hQ' : ∀ id, QuantAt W q sp N T false id := by
      intro id
      have h := hQ id
      obtain ⟨nc, nes, g1, g2⟩ := h.hN
      obtain ⟨lc, les, g3, g4⟩ := h.hL
      exact ⟨(s14 q (by omega) (by omega)).trans h.hq, (s14 sp (by omega) (by omega)).trans h.hs, ⟨nc, nes, (s14 N (by omega) (by omega)).trans g1, g2⟩, ⟨lc, les, (s14 T (by omega) (by omega)).trans g3, g4⟩⟩
    have hr' : RingAt W rg rb 0 0 := by
      obtain ⟨g1, cs, g2, g3⟩ := hrg
      exact ⟨(s22 rg (by omega) (by omega)).trans g1, cs, (s22 rb (by omega) (by omega)).trans g2, g3⟩
    have o1 := (s5 l (by omega) (by omega)).trans e1
    have o2 := (s5 A (by omega) (by omega)).trans e2
    have o3 := (s5 B (by omega) (by omega)).trans e3
    have o4 := (s8 j (by omega) (by omega)).trans e4
    have o5 := (s8 L (by omega) (by omega)).trans e5
    have o17 := (s17 b17 (by omega) (by omega)).trans e17
    have o18 := (s18 b18 (by omega) (by omega)).trans e18
    have o19 := (s19 b19 (by omega) (by omega)).trans e19
    have o23 := (s23 b23 (by omega) (by omega)).trans e23
    have hnew : ∀ b ∈ [j, L, q, sp, b18, b19, rg, rb, b23, T, N, b25, b26, l, A, B, b17], w.heap.size ≤ b := by
      clear i1 i2 i3 i4 i5 i6 i7 i8 i9 i10
      intro b hb
      simp only [List.mem_cons, List.not_mem_nil, or_false] at hb
      rcases hb with rfl | rfl | rfl | rfl | rfl | rfl | rfl | rfl | rfl | rfl | rfl | rfl | rfl | rfl | rfl | rfl | rfl <;> omega
    have kWW := Kept.tr kW hK
    have st := Lib.hid (And.intro kWW (And.intro hS' (And.intro nd (And.intro hQ' (And.intro hr' (And.intro o1 (And.intro o2 (And.intro o3 (And.intro o4 (And.intro o5 (And.intro o17 (And.intro o18 (And.intro o19 (And.intro o23 (And.intro z25 (And.intro z26 (And.intro hnew (And.intro nL nj))))))))))))))))))
    clear h1 h2 yy0 yy1 yy2 yy3 yy4 yy5 yy6 yy7 yy8 yy9 yy10 yy11 yy12 yy13 yy14 yy15 yy16 yy17 yy18 yy19 yy20 yy21 yy22 yy23 yy24 yy25 yy26 p5 q5 r5 t5 u5 p8 q8 r8 t8 u8 p14 q14 r14 t14 u14 p17 q17 r17 t17 u17 p18 q18 r18 t18 u18 p19 q19 r19 t19 u19 p22 q22 r22 t22 u22 p23 q23 r23 t23 u23 p25 q25 r25 t25 u25 p26 q26 r26 t26 u26 s5 s8 s14 s17 s18 s19 s22 s23 z25 z26
    clear kWW hS' nd hQ' hr' o1 o2 o3 o4 o5 o17 o18 o19 o23 hnew nL nj hS hQ hrg e1 e2 e3 e4 e5 e17 e18 e19 e23 kW hK hB C17 C18 C19 C20 C21 C22 C23 C24 M76 M77
    clear x1 x2 x3 x4 x5 i1 i2 i3 i4 i5 i6 i7 i8 i9 i10 lA lBB ll lM lT lN lq lsp lj lL lrg lrb l17 l18 l19 l23 hw0 n1 n2 n3 n4 n5 n6 n7 n8 n9 nAB nNT m1 m2 m17 m18 m19 m23
    refine aVal (i := 27) (v := ?_) rfl (by kernel_rfl) (by rfl) ?_ ?_
    rotate_left 1
    · go_simp; all_goals with_reducible rfl
    try simp only [Act.put, zA, zB, zC]
    refine aValW (i := 28) rfl (by kernel_rfl) (by rfl) (by go_simp; first | done | exact ⟨rfl, rfl⟩ | rfl) ?_
    try simp only [Act.put, zA, zB, zC]
    refine aVal (i := 29) (v := ?_) rfl (by kernel_rfl) (by rfl) ?_ ?_
    rotate_left 1
    · go_simp; all_goals with_reducible rfl
    try simp only [Act.put, zA, zB, zC]
    refine aVal (i := 30) (v := ?_) rfl (by kernel_rfl) (by rfl) ?_ ?_
    rotate_left 1
    · go_simp; all_goals with_reducible rfl
    try simp only [Act.put, zA, zB, zC]
    refine wpAny_done (by kernel_rfl) ?_ _
    go_wp2_with fail
    go_returns
    obtain ⟨kWW, hS', nd, hQ', hr', o1, o2, o3, o4, o5, o17, o18, o19, o23, z25, z26, hnew, nL, nj⟩ := st.out
    obtain ⟨OB, hOB⟩ : ∃ OB : Obj, OB = .cells (exC ⟨W.heap.size, l, j, q, b17, b18, b19, rg, b23, b25, b26⟩ 1 1 0 0 0 0 (.slice none 0 0)) 80 := ⟨_, rfl⟩
    have kx : Kept [] W (W.alloc OB) := (Kept.refl _ _).alloc _
    have hx : (W.alloc OB).heap[W.heap.size]? = some OB := heap_alloc_new
    subst hOB
    have nx : ∀ b ∈ [W.heap.size, j, L, q, sp, b18, b19, rg, rb, b23, T, N, b25, b26, l, A, B, b17], w.heap.size ≤ b := by
      intro b hb
      rcases List.mem_cons.1 hb with rfl | hb
      · exact kWW.1
      · exact hnew b hb
    obtain ⟨g1, cs, g2, g3⟩ := hr'
    refine ⟨⟨⟨W.heap.size, l, j, q, b17, b18, b19, rg, b23, b25, b26⟩, s, M, L, 1, sp, T, rb, 0, 0, 0, 0, 1, 1, 0, false⟩, N, I, U, F, A, B, v, rfl, ⟨hx, hS'.moved (by omega) (fun b _ hb => kx.2 b hb (by simp)) (Kept.tr kWW kx) (Nat.le_refl _), kx.at o4 (by simp), kx.at o5 (by simp), nL, nj, fun id => (hQ' id).kept kx (by simp) (by simp) (by simp) (by simp), ⟨0, sm_zero, kx.at o18 (by simp)⟩, kx.at o19 (by simp), ⟨0, 0, 0, 0, kx.at o23 (by simp)⟩, kx.at z26 (by simp), kx.at z25 (by simp), ⟨kx.at g1 (by simp), cs, kx.at g2 (by simp), g3⟩, kx.at o1 (by simp), kx.at o2 (by simp), kx.at o3 (by simp), kx.at o17 (by simp), nd, rfl, nx⟩, rfl, rfl, rfl, rfl, rfl⟩
end
end Go.Proofs.YtgfbfklnhmndfaaGreat
