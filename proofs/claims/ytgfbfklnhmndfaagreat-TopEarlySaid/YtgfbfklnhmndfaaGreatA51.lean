/- The parts of the top that the law of early release walks through: part 51 of 52. -/
import Derived.Test.YtgfbfklnhmndfaaGreatA1
import Derived.Test.YtgfbfklnhmndfaaGreatA3
import Derived.Test.YtgfbfklnhmndfaaGreatA4
import Derived.Test.YtgfbfklnhmndfaaGreatA9
import Derived.Test.YtgfbfklnhmndfaaGreatA15
import Derived.Test.YtgfbfklnhmndfaaGreatA16
import Derived.Test.YtgfbfklnhmndfaaGreatA21
import Derived.Test.YtgfbfklnhmndfaaGreatA25
import Derived.Test.YtgfbfklnhmndfaaGreatA27
import Derived.Test.YtgfbfklnhmndfaaGreatA28
import Derived.Test.YtgfbfklnhmndfaaGreatA29
import Derived.Test.YtgfbfklnhmndfaaGreatA30
import Derived.Test.YtgfbfklnhmndfaaGreatA32
import Derived.Test.YtgfbfklnhmndfaaGreatA33
import Derived.Test.YtgfbfklnhmndfaaGreatA35
import Derived.Test.YtgfbfklnhmndfaaGreatA36
import Derived.Test.YtgfbfklnhmndfaaGreatA37
import Derived.Test.YtgfbfklnhmndfaaGreatA41
import Derived.Test.YtgfbfklnhmndfaaGreatA42
import Derived.Test.YtgfbfklnhmndfaaGreatA49
namespace Go.Proofs.YtgfbfklnhmndfaaGreat
open Go.RowKit
set_option linter.unusedSimpArgs false
set_option linter.unusedVariables false
section
attribute [local go_sem ↓] setCell_drewN alloc_drewN grow_cell grow_frozen setCell_grow grow_size cell_alloc_grow frozen_alloc_grow setCell_alloc_grow cell_grow_alloc_grow frozen_grow_alloc_grow setCell_grow_alloc_grow grow_grow
attribute [local go_sem] lt_len size_setCell
theorem Most28 (la : Nat) (x y : Int) (w : World) (hl : w.heap[la]? = some (.cells #[.int .i64 x, .int .i64 y] 105 (0, 0))) : Calls Tryz.prog 28 #[pt la] w (RetG (.agg #[.int .i64 x, .int .i64 y]) w) := by
  have c0 : w.cell? ⟨la, 0, none⟩ = some (.int .i64 x) := cell_of hl 0
  have c1 : w.cell? ⟨la, 1, none⟩ = some (.int .i64 y) := cell_of hl 1
  have ll := heap_lt hl
  clear hl
  unfold RetG
  go_enter Tryz.func28, Tryz.ntmps28
  go_wp2_with fail
  go_returns
  exact ⟨rfl, by repeat (first | exact gr_refl _ | apply gr_alloc | apply gr_grow | apply gr_drewN | apply gr_drew)⟩
theorem End31 (b : Nat) (e : Int) (l : Value) (w : World) (hb : w.heap[b]? = some (.cells #[.int .i64 1, .bool true, .int .i64 e, l] 103 (0, 0))) : Calls Tryz.prog 31 #[pt b] w fun e' W => e' = .returned (.int .i64 e) ∧ w = W := by
  have c1 : w.cell? ⟨b, 1, none⟩ = some (.bool true) := cell_of hb 1
  have c2 : w.cell? ⟨b, 2, none⟩ = some (.int .i64 e) := cell_of hb 2
  have lb := heap_lt hb
  clear hb
  go_enter Tryz.func31, Tryz.ntmps31
  go_wp2_with fail
  go_returns
  exact ⟨rfl, rfl⟩
theorem Get43 (m k : Nat) (x : Int) (c : Array Value) (w : World) (hk : k < 5) (hm : w.heap[m]? = some (.cells c 119 (0, 0))) (hc : c[k]? = some (.int .i64 x)) :
    Calls Tryz.prog 43 #[pt m, .int .i64 k] w fun e' W => e' = .returned (.int .i64 x) ∧ w = W := by
  have A := int_load m k x w ((cell_of hm k).trans hc)
  have T := there66 m k hk w
  have hl : ¬ ((k : Int) < 0) := by omega
  have hl2 : (k : Int) < 5 := by omega
  have hd1 : decide ((k : Int) < 0) = false := by simp
  have hd2 : decide ((k : Int) < 5) = true := by simpa using hl2
  have lm := heap_lt hm
  clear hm hc hl hl2
  rcases (by omega : k = 0 ∨ k = 1 ∨ k = 2 ∨ k = 3 ∨ k = 4) with rfl | rfl | rfl | rfl | rfl
  all_goals
    clear hk hd1 hd2
    go_enter Tryz.func43, Tryz.ntmps43
    go_wp2_with fail
    refine T.mono ?_
    rintro e' w1 ⟨rfl, rfl⟩
    go_wp2_with fail
    refine A.mono ?_
    rintro e' w1 ⟨rfl, rfl⟩
    go_wp2_with fail
    go_returns
    exact ⟨rfl, rfl⟩
set_option maxHeartbeats 1000000 in
theorem All29 (m : Nat) (a b c d e : Int) (w : World) (hm : w.heap[m]? = some (.cells #[.int .i64 a, .int .i64 b, .int .i64 c, .int .i64 d, .int .i64 e] 119 (0, 0))) :
    Calls Tryz.prog 29 #[pt m] w fun e' W => e' = .returned (.agg #[.int .i64 a, .int .i64 b, .int .i64 c, .int .i64 d, .int .i64 e]) ∧ Kept [] w W := by
  have G := fun k x W hk h hc => Get43 m k x #[.int .i64 a, .int .i64 b, .int .i64 c, .int .i64 d, .int .i64 e] W hk h hc
  replace hm := Lib.hid hm
  replace G := Lib.hid G
  go_enter Tryz.func29, Tryz.ntmps29
  go_wp2_with fail
  refine wp_loop_rounds 6 ?_
  rw [rounds_succ]
  go_wp2_with fail
  refine (G.out 0 a _ (by omega) ((((Kept.refl [] w).alloc _).alloc _).at hm.out (by simp)) rfl).mono ?_
  rintro e' w1 ⟨rfl, rfl⟩
  go_wp2_with fail
  rw [rounds_succ]
  go_wp2_with fail
  refine (G.out 1 b _ (by omega) ((((Kept.refl [] w).alloc _).alloc _).at hm.out (by simp)) rfl).mono ?_
  rintro e' w2 ⟨rfl, rfl⟩
  go_wp2_with fail
  rw [rounds_succ]
  go_wp2_with fail
  refine (G.out 2 c _ (by omega) ((((Kept.refl [] w).alloc _).alloc _).at hm.out (by simp)) rfl).mono ?_
  rintro e' w3 ⟨rfl, rfl⟩
  go_wp2_with fail
  rw [rounds_succ]
  go_wp2_with fail
  refine (G.out 3 d _ (by omega) ((((Kept.refl [] w).alloc _).alloc _).at hm.out (by simp)) rfl).mono ?_
  rintro e' w4 ⟨rfl, rfl⟩
  go_wp2_with fail
  rw [rounds_succ]
  go_wp2_with fail
  refine (G.out 4 e _ (by omega) ((((Kept.refl [] w).alloc _).alloc _).at hm.out (by simp)) rfl).mono ?_
  rintro e' w5 ⟨rfl, rfl⟩
  go_wp2_with fail
  rw [rounds_succ]
  go_wp2_with fail
  go_returns
  exact ⟨rfl, ((Kept.refl _ _).alloc _).alloc _⟩
end
section
attribute [local go_sem ↓] setCell_drewN alloc_drewN grow_cell grow_frozen setCell_grow grow_size cell_alloc_grow frozen_alloc_grow setCell_alloc_grow cell_grow_alloc_grow frozen_grow_alloc_grow setCell_grow_alloc_grow grow_grow
attribute [local go_sem] lt_len size_setCell
def infoY (c : Pm) (s1 s2 y1 y2 ma mb mc md : Int) (i : Nat) (v : Value) (lo hi : Nat) (w : World) : Prop := match i with
  | 0 => v = .pointer (some ⟨c.z.x, 0, none⟩)
  | 1 => v = .pointer (some ⟨c.z.x, 0, none⟩)
  | 2 => v = .pointer (some ⟨c.z.x, 5, none⟩)
  | 3 => v = .int .i64 2
  | 4 => v = .pointer (some ⟨c.z.x, 0, none⟩)
  | 5 => v = .pointer (some ⟨c.z.x, 0, none⟩)
  | 6 => v = .pointer (some ⟨c.z.x, 7, none⟩)
  | 7 => v = .pointer (some ⟨c.z.j, 0, none⟩)
  | 8 => ∃ b, lo ≤ b ∧ b < hi ∧ ∃ cap, v = .slice (some ⟨b, 0, none⟩) 1 cap
  | 9 => v = .int .i64 1
  | 10 => v = .pointer (some ⟨c.z.x, 0, none⟩)
  | 11 => v = .pointer (some ⟨c.z.x, 0, none⟩)
  | 12 => v = .pointer (some ⟨c.z.x, 6, none⟩)
  | 13 => v = .pointer (some ⟨c.z.l, 0, none⟩)
  | 14 => v = .agg #[.int .i64 s1, .int .i64 s2]
  | 15 => v = .pointer (some ⟨c.z.x, 0, none⟩)
  | 16 => v = .pointer (some ⟨c.z.x, 0, none⟩)
  | 17 => v = .pointer (some ⟨c.z.x, 10, none⟩)
  | 18 => v = .pointer (some ⟨c.z.la, 0, none⟩)
  | 19 => v = .agg #[.int .i64 y1, .int .i64 y2]
  | 20 => v = .pointer (some ⟨c.z.x, 0, none⟩)
  | 21 => v = .pointer (some ⟨c.z.x, 0, none⟩)
  | 22 => v = .pointer (some ⟨c.z.x, 14, none⟩)
  | 23 => v = wi 1
  | 24 => v = .pointer (some ⟨c.z.x, 0, none⟩)
  | 25 => v = .pointer (some ⟨c.z.x, 0, none⟩)
  | 26 => v = .pointer (some ⟨c.z.x, 16, none⟩)
  | 27 => v = .int .i64 0
  | 28 => v = .pointer (some ⟨c.z.x, 0, none⟩)
  | 29 => v = .pointer (some ⟨c.z.x, 0, none⟩)
  | 30 => v = .pointer (some ⟨c.z.x, 13, none⟩)
  | 31 => v = .pointer (some ⟨c.z.m, 0, none⟩)
  | 32 => v = .agg #[.int .i64 ma, .int .i64 mb, .int .i64 mc, .int .i64 md, .int .i64 1]
  | 33 => v = .agg #[.int .i64 2, .int .i64 1, .int .i64 s1, .int .i64 s2, .int .i64 y1, .int .i64 y2, .int .i64 1, .int .i64 1, .int .i64 0, .int .i64 ma, .int .i64 mb, .int .i64 mc, .int .i64 md, .int .i64 1, .int .i64 (-1)]
  | 34 => ∃ b, lo ≤ b ∧ b < hi ∧ v = .pointer (some ⟨b, 0, none⟩) ∧ w.heap[b]? = some (.cells #[.int .i64 0, .int .i64 0, .int .i64 0, .int .i64 0, .int .i64 0, .int .i64 0, .int .i64 0, .int .i64 0, .int .i64 0, .int .i64 0, .int .i64 0, .int .i64 0, .int .i64 0, .int .i64 0, .int .i64 0] 42 (0, 0))
  | _ => True
set_option maxHeartbeats 16000000 in
set_option maxRecDepth 100000 in
theorem Info13 {S0 : List Nat} {w0 w : World} {c : Pm} {N : Nat} {rest : List Value} {all : Value} {xs : List Value} {Lp C : Nat} {cl : List Value} {va vb vc : Value} {s1 s2 : Int} (T : TX S0 w0 w c (⟨N, false, 0, 0, 1, 2, 1, 0, 1, 2, rest, all, 1, xs⟩ : Dy) 1 Lp C cl #[va, vb, vc, .int .i64 s1, .int .i64 s2]) (hm : ModeIs c.mode true) :
    Calls Tryz.prog 13 #[pt c.z.x] w fun e' W => (∃ y1 y2 ma mb mc md en : Int, e' = .returned (.agg #[.int .i64 2, .int .i64 1, .int .i64 s1, .int .i64 s2, .int .i64 y1, .int .i64 y2, .int .i64 1, .int .i64 1, .int .i64 0, .int .i64 ma, .int .i64 mb, .int .i64 mc, .int .i64 md, .int .i64 1, .int .i64 en])) ∧ Kept [] w W := by
  obtain ⟨yr, _, hla⟩ := T.ex.hla
  obtain ⟨ma, mb, mc, md, hme⟩ := T.ex.hm
  replace hla : w.heap[c.z.la]? = some (.cells #[.int .i64 yr.num, .int .i64 yr.den] 105 (0, 0)) := hla
  obtain ⟨y1, hy1⟩ : ∃ y1 : Int, yr.num = y1 := ⟨_, rfl⟩
  obtain ⟨y2, hy2⟩ : ∃ y2 : Int, (yr.den : Int) = y2 := ⟨_, rfl⟩
  rw [hy1, hy2] at hla
  have bs := Lib.hid (And.intro T (And.intro hla hme))
  clear T hla hme hy1 hy2
  replace hm := Lib.hid hm
  have KW : Hid (Kept [] w w) := Lib.hid (Kept.refl _ _)
  go_enter Tryz.func13, Tryz.ntmps13
  go_wp2_with fail
  obtain ⟨W0, V_W0⟩ : ∃ x, (w.alloc (.cells #[.int .i64 0, .int .i64 0, .int .i64 0, .int .i64 0, .int .i64 0, .int .i64 0, .int .i64 0, .int .i64 0, .int .i64 0, .int .i64 0, .int .i64 0, .int .i64 0, .int .i64 0, .int .i64 0, .int .i64 0] 42)) = x := ⟨_, rfl⟩
  have kg1 : Kept [] (w.alloc (.cells #[.int .i64 0, .int .i64 0, .int .i64 0, .int .i64 0, .int .i64 0, .int .i64 0, .int .i64 0, .int .i64 0, .int .i64 0, .int .i64 0, .int .i64 0, .int .i64 0, .int .i64 0, .int .i64 0, .int .i64 0] 42)) W0 := by rw [V_W0]; exact Kept.refl _ _
  have kA1 : Kept [] w W0 := Kept.tr ((Kept.refl [] w).alloc _) kg1
  have hx_T2 := kg1.at (heap_alloc_new (w := w) (o := .cells #[.int .i64 0, .int .i64 0, .int .i64 0, .int .i64 0, .int .i64 0, .int .i64 0, .int .i64 0, .int .i64 0, .int .i64 0, .int .i64 0, .int .i64 0, .int .i64 0, .int .i64 0, .int .i64 0, .int .i64 0] 42)) (by simp)
  obtain ⟨T2, E_T2⟩ : ∃ x, w.heap.size = x := ⟨_, rfl⟩
  rw [E_T2] at hx_T2
  have g1 := KW.out.1
  have G_T2 : Hid (w.heap.size ≤ T2) := Lib.hid (by omega)
  have B_T2 := Lib.hid hx_T2
  replace KW := Lib.hid (Kept.tr KW.out kA1)
  clear hx_T2 kA1 g1 kg1
  try rw [E_T2]
  try rw [V_W0]
  try rw [E_T2]
  obtain ⟨T, hla, hme⟩ := bs.out
  have T0 := T.step0 KW.out
  have BX := T0.ex.hx
  unfold XAt at BX
  have BJ := T0.ex.hJ
  have BL := T0.hl
  have BLA := KW.out.at hla (by simp)
  have BM := KW.out.at hme (by simp)
  replace T0 := Lib.hid T0
  clear T hla hme
  refine bornQ 35 [] [3, 40, 39, 38, 37, 36, 35, 34, 33, 32, 31, 30, 29, 28, 27, 26, 25, 24, 23, 22, 21, 20, 19, 18, 17, 16, 15, 14, 13, 12, 11, 10, 9, 8, 7] (infoY c s1 s2 y1 y2 ma mb mc md) (by kernel_rfl) (by kernel_rfl) (by kernel_rfl) (fun _ _ d _ _ h => by cases d <;> exact h) ?_ ?_ ?_
  · intro i v lo hi w w' hY hw
    unfold infoY at *
    split at hY <;> first
      | exact hY
      | (obtain ⟨b, h1, h2, h3, h4⟩ := hY; exact ⟨b, h1, h2, h3, by rw [hw b h1 h2]; exact h4⟩)
      | (obtain ⟨b, h1, h2, h3⟩ := hY; exact ⟨b, h1, h2, h3⟩)
      | trivial
  · intro i hi o ho a W hr hd hk
    rcases i with _ | _ | _ | _ | _ | _ | _ | _ | _ | _ | _ | _ | _ | _ | _ | _ | _ | _ | _ | _ | _ | _ | _ | _ | _ | _ | _ | _ | _ | _ | _ | _ | _ | _ | _ | i
    · cases ho
      have h0 : a.tmps.getD 0 undef = .pointer (some ⟨c.z.x, 0, none⟩) := (hr 0 (by kernel_rfl)).trans (by kernel_rfl)
      refine ⟨fun h => absurd h (by decide), fun _ => ?_⟩
      clear hr hd hk
      exact born_value _ (by go_simp; try rfl) rfl
    · cases ho
      obtain ⟨_, _, h7⟩ := hd 0 7 (by kernel_rfl) (by kernel_rfl)
      have h7 : a.tmps.getD 7 undef = .pointer (some ⟨c.z.x, 0, none⟩) := h7
      refine ⟨fun h => absurd h (by decide), fun _ => ?_⟩
      clear hr hd hk
      exact born_value _ (by go_simp; try rfl) rfl
    · cases ho
      obtain ⟨_, _, h8⟩ := hd 1 8 (by kernel_rfl) (by kernel_rfl)
      have h8 : a.tmps.getD 8 undef = .pointer (some ⟨c.z.x, 0, none⟩) := h8
      refine ⟨fun h => absurd h (by decide), fun _ => ?_⟩
      clear hr hd hk
      exact born_value _ (by go_simp; try rfl) rfl
    · cases ho
      obtain ⟨_, _, h9⟩ := hd 2 9 (by kernel_rfl) (by kernel_rfl)
      have h9 : a.tmps.getD 9 undef = .pointer (some ⟨c.z.x, 5, none⟩) := h9
      refine ⟨fun h => absurd h (by decide), fun _ => ?_⟩
      have c5 : W.cell? ⟨c.z.x, 5, none⟩ = some (.int .i64 2) := cell_of (hk.at BX (by simp)) 5
      have ll := hk.lt (heap_lt BX)
      clear hr hd hk
      exact born_value _ (by go_simp; try rfl) rfl
    · cases ho
      have h0 : a.tmps.getD 0 undef = .pointer (some ⟨c.z.x, 0, none⟩) := (hr 0 (by kernel_rfl)).trans (by kernel_rfl)
      refine ⟨fun h => absurd h (by decide), fun _ => ?_⟩
      clear hr hd hk
      exact born_value _ (by go_simp; try rfl) rfl
    · cases ho
      obtain ⟨_, _, h11⟩ := hd 4 11 (by kernel_rfl) (by kernel_rfl)
      have h11 : a.tmps.getD 11 undef = .pointer (some ⟨c.z.x, 0, none⟩) := h11
      refine ⟨fun h => absurd h (by decide), fun _ => ?_⟩
      clear hr hd hk
      exact born_value _ (by go_simp; try rfl) rfl
    · cases ho
      obtain ⟨_, _, h12⟩ := hd 5 12 (by kernel_rfl) (by kernel_rfl)
      have h12 : a.tmps.getD 12 undef = .pointer (some ⟨c.z.x, 0, none⟩) := h12
      refine ⟨fun h => absurd h (by decide), fun _ => ?_⟩
      clear hr hd hk
      exact born_value _ (by go_simp; try rfl) rfl
    · cases ho
      obtain ⟨_, _, h13⟩ := hd 6 13 (by kernel_rfl) (by kernel_rfl)
      have h13 : a.tmps.getD 13 undef = .pointer (some ⟨c.z.x, 7, none⟩) := h13
      refine ⟨fun h => absurd h (by decide), fun _ => ?_⟩
      have c7 : W.cell? ⟨c.z.x, 7, none⟩ = some (.pointer (some ⟨c.z.j, 0, none⟩)) := cell_of (hk.at BX (by simp)) 7
      have ll := hk.lt (heap_lt BX)
      clear hr hd hk
      exact born_value _ (by go_simp; try rfl) rfl
    · cases ho
      obtain ⟨_, _, h14⟩ := hd 7 14 (by kernel_rfl) (by kernel_rfl)
      have h14 : a.tmps.getD 14 undef = .pointer (some ⟨c.z.j, 0, none⟩) := h14
      refine ⟨fun h => absurd h (by decide), fun _ => ?_⟩
      have AA := IDs26 (BJ.kept0 hk)
      clear hr hd hk
      refine Or.inr ⟨_, _, W, by go_simp; first | done | rfl | exact ⟨rfl, rfl⟩, AA.mono ?_⟩
      rintro e' w' ⟨g1, cap1, rfl, hg1, hg2, hc1, hk1⟩
      exact ⟨_, rfl, hk1, g1, hg1, hg2, cap1, rfl⟩
    · cases ho
      refine ⟨fun h => absurd h (by decide), fun _ => ?_⟩
      obtain ⟨_, _, h15⟩ := hd 8 15 (by kernel_rfl) (by kernel_rfl)
      obtain ⟨b15, _, _, cap15, h15⟩ := h15
      clear hr hd hk
      exact born_value _ (by go_simp; try rfl) rfl
    · cases ho
      have h0 : a.tmps.getD 0 undef = .pointer (some ⟨c.z.x, 0, none⟩) := (hr 0 (by kernel_rfl)).trans (by kernel_rfl)
      refine ⟨fun h => absurd h (by decide), fun _ => ?_⟩
      clear hr hd hk
      exact born_value _ (by go_simp; try rfl) rfl
    · cases ho
      obtain ⟨_, _, h17⟩ := hd 10 17 (by kernel_rfl) (by kernel_rfl)
      have h17 : a.tmps.getD 17 undef = .pointer (some ⟨c.z.x, 0, none⟩) := h17
      refine ⟨fun h => absurd h (by decide), fun _ => ?_⟩
      clear hr hd hk
      exact born_value _ (by go_simp; try rfl) rfl
    · cases ho
      obtain ⟨_, _, h18⟩ := hd 11 18 (by kernel_rfl) (by kernel_rfl)
      have h18 : a.tmps.getD 18 undef = .pointer (some ⟨c.z.x, 0, none⟩) := h18
      refine ⟨fun h => absurd h (by decide), fun _ => ?_⟩
      clear hr hd hk
      exact born_value _ (by go_simp; try rfl) rfl
    · cases ho
      obtain ⟨_, _, h19⟩ := hd 12 19 (by kernel_rfl) (by kernel_rfl)
      have h19 : a.tmps.getD 19 undef = .pointer (some ⟨c.z.x, 6, none⟩) := h19
      refine ⟨fun h => absurd h (by decide), fun _ => ?_⟩
      have c6 : W.cell? ⟨c.z.x, 6, none⟩ = some (.pointer (some ⟨c.z.l, 0, none⟩)) := cell_of (hk.at BX (by simp)) 6
      have ll := hk.lt (heap_lt BX)
      clear hr hd hk
      exact born_value _ (by go_simp; try rfl) rfl
    · cases ho
      obtain ⟨_, _, h20⟩ := hd 13 20 (by kernel_rfl) (by kernel_rfl)
      have h20 : a.tmps.getD 20 undef = .pointer (some ⟨c.z.l, 0, none⟩) := h20
      refine ⟨fun h => absurd h (by decide), fun _ => ?_⟩
      have AA := Sum27 c.z.l _ _ _ s1 s2 W (hk.at BL (by simp))
      clear hr hd hk
      refine Or.inr ⟨_, _, W, by go_simp; first | done | rfl | exact ⟨rfl, rfl⟩, AA.mono ?_⟩
      rintro e' w' ⟨rfl, hk1⟩
      exact ⟨_, rfl, hk1, rfl⟩
    · cases ho
      have h0 : a.tmps.getD 0 undef = .pointer (some ⟨c.z.x, 0, none⟩) := (hr 0 (by kernel_rfl)).trans (by kernel_rfl)
      refine ⟨fun h => absurd h (by decide), fun _ => ?_⟩
      clear hr hd hk
      exact born_value _ (by go_simp; try rfl) rfl
    · cases ho
      obtain ⟨_, _, h22⟩ := hd 15 22 (by kernel_rfl) (by kernel_rfl)
      have h22 : a.tmps.getD 22 undef = .pointer (some ⟨c.z.x, 0, none⟩) := h22
      refine ⟨fun h => absurd h (by decide), fun _ => ?_⟩
      clear hr hd hk
      exact born_value _ (by go_simp; try rfl) rfl
    · cases ho
      obtain ⟨_, _, h23⟩ := hd 16 23 (by kernel_rfl) (by kernel_rfl)
      have h23 : a.tmps.getD 23 undef = .pointer (some ⟨c.z.x, 0, none⟩) := h23
      refine ⟨fun h => absurd h (by decide), fun _ => ?_⟩
      clear hr hd hk
      exact born_value _ (by go_simp; try rfl) rfl
    · cases ho
      obtain ⟨_, _, h24⟩ := hd 17 24 (by kernel_rfl) (by kernel_rfl)
      have h24 : a.tmps.getD 24 undef = .pointer (some ⟨c.z.x, 10, none⟩) := h24
      refine ⟨fun h => absurd h (by decide), fun _ => ?_⟩
      have c10 : W.cell? ⟨c.z.x, 10, none⟩ = some (.pointer (some ⟨c.z.la, 0, none⟩)) := cell_of (hk.at BX (by simp)) 10
      have ll := hk.lt (heap_lt BX)
      clear hr hd hk
      exact born_value _ (by go_simp; try rfl) rfl
    · cases ho
      obtain ⟨_, _, h25⟩ := hd 18 25 (by kernel_rfl) (by kernel_rfl)
      have h25 : a.tmps.getD 25 undef = .pointer (some ⟨c.z.la, 0, none⟩) := h25
      refine ⟨fun h => absurd h (by decide), fun _ => ?_⟩
      have AA := Most28 c.z.la y1 y2 W (hk.at BLA (by simp))
      clear hr hd hk
      refine Or.inr ⟨_, _, W, by go_simp; first | done | rfl | exact ⟨rfl, rfl⟩, AA.mono ?_⟩
      rintro e' w' ⟨rfl, os, q, rfl⟩
      exact ⟨_, rfl, (Kept.refl _ _).grow _ _, rfl⟩
    · cases ho
      have h0 : a.tmps.getD 0 undef = .pointer (some ⟨c.z.x, 0, none⟩) := (hr 0 (by kernel_rfl)).trans (by kernel_rfl)
      refine ⟨fun h => absurd h (by decide), fun _ => ?_⟩
      clear hr hd hk
      exact born_value _ (by go_simp; try rfl) rfl
    · cases ho
      obtain ⟨_, _, h27⟩ := hd 20 27 (by kernel_rfl) (by kernel_rfl)
      have h27 : a.tmps.getD 27 undef = .pointer (some ⟨c.z.x, 0, none⟩) := h27
      refine ⟨fun h => absurd h (by decide), fun _ => ?_⟩
      clear hr hd hk
      exact born_value _ (by go_simp; try rfl) rfl
    · cases ho
      obtain ⟨_, _, h28⟩ := hd 21 28 (by kernel_rfl) (by kernel_rfl)
      have h28 : a.tmps.getD 28 undef = .pointer (some ⟨c.z.x, 0, none⟩) := h28
      refine ⟨fun h => absurd h (by decide), fun _ => ?_⟩
      clear hr hd hk
      exact born_value _ (by go_simp; try rfl) rfl
    · cases ho
      obtain ⟨_, _, h29⟩ := hd 22 29 (by kernel_rfl) (by kernel_rfl)
      have h29 : a.tmps.getD 29 undef = .pointer (some ⟨c.z.x, 14, none⟩) := h29
      refine ⟨fun h => absurd h (by decide), fun _ => ?_⟩
      have c14 : W.cell? ⟨c.z.x, 14, none⟩ = some (.int .i64 1) := cell_of (hk.at BX (by simp)) 14
      have ll := hk.lt (heap_lt BX)
      have c15 : W.cell? ⟨c.z.x, 15, none⟩ = some (.int .i64 1) := cell_of (hk.at BX (by simp)) 15
      clear hr hd hk
      exact born_value _ (by go_simp; try rfl) rfl
    · cases ho
      have h0 : a.tmps.getD 0 undef = .pointer (some ⟨c.z.x, 0, none⟩) := (hr 0 (by kernel_rfl)).trans (by kernel_rfl)
      refine ⟨fun h => absurd h (by decide), fun _ => ?_⟩
      clear hr hd hk
      exact born_value _ (by go_simp; try rfl) rfl
    · cases ho
      obtain ⟨_, _, h31⟩ := hd 24 31 (by kernel_rfl) (by kernel_rfl)
      have h31 : a.tmps.getD 31 undef = .pointer (some ⟨c.z.x, 0, none⟩) := h31
      refine ⟨fun h => absurd h (by decide), fun _ => ?_⟩
      clear hr hd hk
      exact born_value _ (by go_simp; try rfl) rfl
    · cases ho
      obtain ⟨_, _, h32⟩ := hd 25 32 (by kernel_rfl) (by kernel_rfl)
      have h32 : a.tmps.getD 32 undef = .pointer (some ⟨c.z.x, 0, none⟩) := h32
      refine ⟨fun h => absurd h (by decide), fun _ => ?_⟩
      clear hr hd hk
      exact born_value _ (by go_simp; try rfl) rfl
    · cases ho
      obtain ⟨_, _, h33⟩ := hd 26 33 (by kernel_rfl) (by kernel_rfl)
      have h33 : a.tmps.getD 33 undef = .pointer (some ⟨c.z.x, 16, none⟩) := h33
      refine ⟨fun h => absurd h (by decide), fun _ => ?_⟩
      have c16 : W.cell? ⟨c.z.x, 16, none⟩ = some (.int .i64 0) := cell_of (hk.at BX (by simp)) 16
      have ll := hk.lt (heap_lt BX)
      clear hr hd hk
      exact born_value _ (by go_simp; try rfl) rfl
    · cases ho
      have h0 : a.tmps.getD 0 undef = .pointer (some ⟨c.z.x, 0, none⟩) := (hr 0 (by kernel_rfl)).trans (by kernel_rfl)
      refine ⟨fun h => absurd h (by decide), fun _ => ?_⟩
      clear hr hd hk
      exact born_value _ (by go_simp; try rfl) rfl
    · cases ho
      obtain ⟨_, _, h35⟩ := hd 28 35 (by kernel_rfl) (by kernel_rfl)
      have h35 : a.tmps.getD 35 undef = .pointer (some ⟨c.z.x, 0, none⟩) := h35
      refine ⟨fun h => absurd h (by decide), fun _ => ?_⟩
      clear hr hd hk
      exact born_value _ (by go_simp; try rfl) rfl
    · cases ho
      obtain ⟨_, _, h36⟩ := hd 29 36 (by kernel_rfl) (by kernel_rfl)
      have h36 : a.tmps.getD 36 undef = .pointer (some ⟨c.z.x, 0, none⟩) := h36
      refine ⟨fun h => absurd h (by decide), fun _ => ?_⟩
      clear hr hd hk
      exact born_value _ (by go_simp; try rfl) rfl
    · cases ho
      obtain ⟨_, _, h37⟩ := hd 30 37 (by kernel_rfl) (by kernel_rfl)
      have h37 : a.tmps.getD 37 undef = .pointer (some ⟨c.z.x, 13, none⟩) := h37
      refine ⟨fun h => absurd h (by decide), fun _ => ?_⟩
      have c13 : W.cell? ⟨c.z.x, 13, none⟩ = some (.pointer (some ⟨c.z.m, 0, none⟩)) := cell_of (hk.at BX (by simp)) 13
      have ll := hk.lt (heap_lt BX)
      clear hr hd hk
      exact born_value _ (by go_simp; try rfl) rfl
    · cases ho
      obtain ⟨_, _, h38⟩ := hd 31 38 (by kernel_rfl) (by kernel_rfl)
      have h38 : a.tmps.getD 38 undef = .pointer (some ⟨c.z.m, 0, none⟩) := h38
      refine ⟨fun h => absurd h (by decide), fun _ => ?_⟩
      have AA := All29 c.z.m ma mb mc md 1 W (hk.at BM (by simp))
      clear hr hd hk
      refine Or.inr ⟨_, _, W, by go_simp; first | done | rfl | exact ⟨rfl, rfl⟩, AA.mono ?_⟩
      rintro e' w' ⟨rfl, hk1⟩
      exact ⟨_, rfl, hk1, rfl⟩
    · cases ho
      obtain ⟨_, _, h10⟩ := hd 3 10 (by kernel_rfl) (by kernel_rfl)
      have h10 : a.tmps.getD 10 undef = .int .i64 2 := h10
      obtain ⟨_, _, h16⟩ := hd 9 16 (by kernel_rfl) (by kernel_rfl)
      have h16 : a.tmps.getD 16 undef = .int .i64 1 := h16
      obtain ⟨_, _, h21⟩ := hd 14 21 (by kernel_rfl) (by kernel_rfl)
      have h21 : a.tmps.getD 21 undef = .agg #[.int .i64 s1, .int .i64 s2] := h21
      obtain ⟨_, _, h26⟩ := hd 19 26 (by kernel_rfl) (by kernel_rfl)
      have h26 : a.tmps.getD 26 undef = .agg #[.int .i64 y1, .int .i64 y2] := h26
      obtain ⟨_, _, h30⟩ := hd 23 30 (by kernel_rfl) (by kernel_rfl)
      have h30 : a.tmps.getD 30 undef = wi 1 := h30
      obtain ⟨_, _, h34⟩ := hd 27 34 (by kernel_rfl) (by kernel_rfl)
      have h34 : a.tmps.getD 34 undef = .int .i64 0 := h34
      obtain ⟨_, _, h39⟩ := hd 32 39 (by kernel_rfl) (by kernel_rfl)
      have h39 : a.tmps.getD 39 undef = .agg #[.int .i64 ma, .int .i64 mb, .int .i64 mc, .int .i64 md, .int .i64 1] := h39
      refine ⟨fun h => absurd h (by decide), fun _ => ?_⟩
      have k10 : (a.tmps[10]?).getD undef = .int .i64 2 := by rw [← Array.getD_eq_getD_getElem?]; exact h10
      have k16 : (a.tmps[16]?).getD undef = .int .i64 1 := by rw [← Array.getD_eq_getD_getElem?]; exact h16
      have k21 : (a.tmps[21]?).getD undef = .agg #[.int .i64 s1, .int .i64 s2] := by rw [← Array.getD_eq_getD_getElem?]; exact h21
      have k26 : (a.tmps[26]?).getD undef = .agg #[.int .i64 y1, .int .i64 y2] := by rw [← Array.getD_eq_getD_getElem?]; exact h26
      have k30 : (a.tmps[30]?).getD undef = wi 1 := by rw [← Array.getD_eq_getD_getElem?]; exact h30
      have k34 : (a.tmps[34]?).getD undef = .int .i64 0 := by rw [← Array.getD_eq_getD_getElem?]; exact h34
      have k39 : (a.tmps[39]?).getD undef = .agg #[.int .i64 ma, .int .i64 mb, .int .i64 mc, .int .i64 md, .int .i64 1] := by rw [← Array.getD_eq_getD_getElem?]; exact h39
      clear hr hd hk
      exact born_value _ (by go_simp; try rfl) rfl
    · cases ho
      refine ⟨fun h => absurd h (by decide), fun _ => ?_⟩
      clear hr hd hk
      refine born_alloc _ _ (by go_simp; first | done | rfl | exact ⟨rfl, rfl⟩) ⟨W.heap.size, by omega, by omega, rfl, heap_alloc_new⟩
    · omega
  · intro vs lo hi W hK h1 h2
    have yy0 : vs 0 = .pointer (some ⟨c.z.x, 0, none⟩) := (h1 0 (by omega)).2.2.2
    have yy1 : vs 1 = .pointer (some ⟨c.z.x, 0, none⟩) := (h1 1 (by omega)).2.2.2
    have yy2 : vs 2 = .pointer (some ⟨c.z.x, 5, none⟩) := (h1 2 (by omega)).2.2.2
    have yy3 : vs 3 = .int .i64 2 := (h1 3 (by omega)).2.2.2
    have yy4 : vs 4 = .pointer (some ⟨c.z.x, 0, none⟩) := (h1 4 (by omega)).2.2.2
    have yy5 : vs 5 = .pointer (some ⟨c.z.x, 0, none⟩) := (h1 5 (by omega)).2.2.2
    have yy6 : vs 6 = .pointer (some ⟨c.z.x, 7, none⟩) := (h1 6 (by omega)).2.2.2
    have yy7 : vs 7 = .pointer (some ⟨c.z.j, 0, none⟩) := (h1 7 (by omega)).2.2.2
    obtain ⟨p8, q8, r8, b8, t8, u8, cap8, yy8⟩ := h1 8 (by omega)
    have yy9 : vs 9 = .int .i64 1 := (h1 9 (by omega)).2.2.2
    have yy10 : vs 10 = .pointer (some ⟨c.z.x, 0, none⟩) := (h1 10 (by omega)).2.2.2
    have yy11 : vs 11 = .pointer (some ⟨c.z.x, 0, none⟩) := (h1 11 (by omega)).2.2.2
    have yy12 : vs 12 = .pointer (some ⟨c.z.x, 6, none⟩) := (h1 12 (by omega)).2.2.2
    have yy13 : vs 13 = .pointer (some ⟨c.z.l, 0, none⟩) := (h1 13 (by omega)).2.2.2
    have yy14 : vs 14 = .agg #[.int .i64 s1, .int .i64 s2] := (h1 14 (by omega)).2.2.2
    have yy15 : vs 15 = .pointer (some ⟨c.z.x, 0, none⟩) := (h1 15 (by omega)).2.2.2
    have yy16 : vs 16 = .pointer (some ⟨c.z.x, 0, none⟩) := (h1 16 (by omega)).2.2.2
    have yy17 : vs 17 = .pointer (some ⟨c.z.x, 10, none⟩) := (h1 17 (by omega)).2.2.2
    have yy18 : vs 18 = .pointer (some ⟨c.z.la, 0, none⟩) := (h1 18 (by omega)).2.2.2
    have yy19 : vs 19 = .agg #[.int .i64 y1, .int .i64 y2] := (h1 19 (by omega)).2.2.2
    have yy20 : vs 20 = .pointer (some ⟨c.z.x, 0, none⟩) := (h1 20 (by omega)).2.2.2
    have yy21 : vs 21 = .pointer (some ⟨c.z.x, 0, none⟩) := (h1 21 (by omega)).2.2.2
    have yy22 : vs 22 = .pointer (some ⟨c.z.x, 14, none⟩) := (h1 22 (by omega)).2.2.2
    have yy23 : vs 23 = wi 1 := (h1 23 (by omega)).2.2.2
    have yy24 : vs 24 = .pointer (some ⟨c.z.x, 0, none⟩) := (h1 24 (by omega)).2.2.2
    have yy25 : vs 25 = .pointer (some ⟨c.z.x, 0, none⟩) := (h1 25 (by omega)).2.2.2
    have yy26 : vs 26 = .pointer (some ⟨c.z.x, 16, none⟩) := (h1 26 (by omega)).2.2.2
    have yy27 : vs 27 = .int .i64 0 := (h1 27 (by omega)).2.2.2
    have yy28 : vs 28 = .pointer (some ⟨c.z.x, 0, none⟩) := (h1 28 (by omega)).2.2.2
    have yy29 : vs 29 = .pointer (some ⟨c.z.x, 0, none⟩) := (h1 29 (by omega)).2.2.2
    have yy30 : vs 30 = .pointer (some ⟨c.z.x, 13, none⟩) := (h1 30 (by omega)).2.2.2
    have yy31 : vs 31 = .pointer (some ⟨c.z.m, 0, none⟩) := (h1 31 (by omega)).2.2.2
    have yy32 : vs 32 = .agg #[.int .i64 ma, .int .i64 mb, .int .i64 mc, .int .i64 md, .int .i64 1] := (h1 32 (by omega)).2.2.2
    have yy33 : vs 33 = .agg #[.int .i64 2, .int .i64 1, .int .i64 s1, .int .i64 s2, .int .i64 y1, .int .i64 y2, .int .i64 1, .int .i64 1, .int .i64 0, .int .i64 ma, .int .i64 mb, .int .i64 mc, .int .i64 md, .int .i64 1, .int .i64 (-1)] := (h1 33 (by omega)).2.2.2
    obtain ⟨p34, q34, r34, b34, t34, u34, yy34, z34⟩ := h1 34 (by omega)
    simp only [fillR, List.length_cons, List.length_nil, Nat.reduceAdd, List.setIfInBounds_toArray, List.set_cons_succ, List.set_cons_zero]
    rw [yy0, yy1, yy2, yy3, yy4, yy5, yy6, yy7, yy8, yy9, yy10, yy11, yy12, yy13, yy14, yy15, yy16, yy17, yy18, yy19, yy20, yy21, yy22, yy23, yy24, yy25, yy26, yy27, yy28, yy29, yy30, yy31, yy32, yy33, yy34]
    show wpAny _ _ _ _ 1 _ _ _
    have ge : W0.heap.size ≤ b34 := Nat.le_trans p34 t34
    have hf0 : W.frozen? ⟨b34, 0, none⟩ = false := frozen_of z34 0
    have he0 : W.cell? ⟨b34, 0, none⟩ = some (.int .i64 0) := cell_of z34 0
    have hf1 : W.frozen? ⟨b34, 1, none⟩ = false := frozen_of z34 1
    have he1 : W.cell? ⟨b34, 1, none⟩ = some (.int .i64 0) := cell_of z34 1
    have hf2 : W.frozen? ⟨b34, 2, none⟩ = false := frozen_of z34 2
    have he2 : W.cell? ⟨b34, 2, none⟩ = some (.int .i64 0) := cell_of z34 2
    have hf3 : W.frozen? ⟨b34, 3, none⟩ = false := frozen_of z34 3
    have he3 : W.cell? ⟨b34, 3, none⟩ = some (.int .i64 0) := cell_of z34 3
    have hf4 : W.frozen? ⟨b34, 4, none⟩ = false := frozen_of z34 4
    have he4 : W.cell? ⟨b34, 4, none⟩ = some (.int .i64 0) := cell_of z34 4
    have hf5 : W.frozen? ⟨b34, 5, none⟩ = false := frozen_of z34 5
    have he5 : W.cell? ⟨b34, 5, none⟩ = some (.int .i64 0) := cell_of z34 5
    have hf6 : W.frozen? ⟨b34, 6, none⟩ = false := frozen_of z34 6
    have he6 : W.cell? ⟨b34, 6, none⟩ = some (.int .i64 0) := cell_of z34 6
    have hf7 : W.frozen? ⟨b34, 7, none⟩ = false := frozen_of z34 7
    have he7 : W.cell? ⟨b34, 7, none⟩ = some (.int .i64 0) := cell_of z34 7
    have hf8 : W.frozen? ⟨b34, 8, none⟩ = false := frozen_of z34 8
    have he8 : W.cell? ⟨b34, 8, none⟩ = some (.int .i64 0) := cell_of z34 8
    have hf9 : W.frozen? ⟨b34, 9, none⟩ = false := frozen_of z34 9
    have he9 : W.cell? ⟨b34, 9, none⟩ = some (.int .i64 0) := cell_of z34 9
    have hf10 : W.frozen? ⟨b34, 10, none⟩ = false := frozen_of z34 10
    have he10 : W.cell? ⟨b34, 10, none⟩ = some (.int .i64 0) := cell_of z34 10
    have hf11 : W.frozen? ⟨b34, 11, none⟩ = false := frozen_of z34 11
    have he11 : W.cell? ⟨b34, 11, none⟩ = some (.int .i64 0) := cell_of z34 11
    have hf12 : W.frozen? ⟨b34, 12, none⟩ = false := frozen_of z34 12
    have he12 : W.cell? ⟨b34, 12, none⟩ = some (.int .i64 0) := cell_of z34 12
    have hf13 : W.frozen? ⟨b34, 13, none⟩ = false := frozen_of z34 13
    have he13 : W.cell? ⟨b34, 13, none⟩ = some (.int .i64 0) := cell_of z34 13
    have hf14 : W.frozen? ⟨b34, 14, none⟩ = false := frozen_of z34 14
    have he14 : W.cell? ⟨b34, 14, none⟩ = some (.int .i64 0) := cell_of z34 14
    have hl34 := heap_lt z34
    obtain ⟨V1, V_V1⟩ : ∃ V1, (((((((((((((((W.setCell ⟨b34, 0, none⟩ (.int .i64 2)).setCell ⟨b34, 1, none⟩ (.int .i64 1)).setCell ⟨b34, 2, none⟩ (.int .i64 s1)).setCell ⟨b34, 3, none⟩ (.int .i64 s2)).setCell ⟨b34, 4, none⟩ (.int .i64 y1)).setCell ⟨b34, 5, none⟩ (.int .i64 y2)).setCell ⟨b34, 6, none⟩ (.int .i64 1)).setCell ⟨b34, 7, none⟩ (.int .i64 1)).setCell ⟨b34, 8, none⟩ (.int .i64 0)).setCell ⟨b34, 9, none⟩ (.int .i64 ma)).setCell ⟨b34, 10, none⟩ (.int .i64 mb)).setCell ⟨b34, 11, none⟩ (.int .i64 mc)).setCell ⟨b34, 12, none⟩ (.int .i64 md)).setCell ⟨b34, 13, none⟩ (.int .i64 1)).setCell ⟨b34, 14, none⟩ (.int .i64 (-1))) = V1 := ⟨_, rfl⟩
    have Y0 : (W.setCell ⟨b34, 0, none⟩ (.int .i64 2)).heap[b34]? = some (.cells #[.int .i64 2, .int .i64 0, .int .i64 0, .int .i64 0, .int .i64 0, .int .i64 0, .int .i64 0, .int .i64 0, .int .i64 0, .int .i64 0, .int .i64 0, .int .i64 0, .int .i64 0, .int .i64 0, .int .i64 0] 42 (0, 0)) := heap_setCell z34
    have Y1 : ((W.setCell ⟨b34, 0, none⟩ (.int .i64 2)).setCell ⟨b34, 1, none⟩ (.int .i64 1)).heap[b34]? = some (.cells #[.int .i64 2, .int .i64 1, .int .i64 0, .int .i64 0, .int .i64 0, .int .i64 0, .int .i64 0, .int .i64 0, .int .i64 0, .int .i64 0, .int .i64 0, .int .i64 0, .int .i64 0, .int .i64 0, .int .i64 0] 42 (0, 0)) := heap_setCell Y0
    have Y2 : (((W.setCell ⟨b34, 0, none⟩ (.int .i64 2)).setCell ⟨b34, 1, none⟩ (.int .i64 1)).setCell ⟨b34, 2, none⟩ (.int .i64 s1)).heap[b34]? = some (.cells #[.int .i64 2, .int .i64 1, .int .i64 s1, .int .i64 0, .int .i64 0, .int .i64 0, .int .i64 0, .int .i64 0, .int .i64 0, .int .i64 0, .int .i64 0, .int .i64 0, .int .i64 0, .int .i64 0, .int .i64 0] 42 (0, 0)) := heap_setCell Y1
    have Y3 : ((((W.setCell ⟨b34, 0, none⟩ (.int .i64 2)).setCell ⟨b34, 1, none⟩ (.int .i64 1)).setCell ⟨b34, 2, none⟩ (.int .i64 s1)).setCell ⟨b34, 3, none⟩ (.int .i64 s2)).heap[b34]? = some (.cells #[.int .i64 2, .int .i64 1, .int .i64 s1, .int .i64 s2, .int .i64 0, .int .i64 0, .int .i64 0, .int .i64 0, .int .i64 0, .int .i64 0, .int .i64 0, .int .i64 0, .int .i64 0, .int .i64 0, .int .i64 0] 42 (0, 0)) := heap_setCell Y2
    have Y4 : (((((W.setCell ⟨b34, 0, none⟩ (.int .i64 2)).setCell ⟨b34, 1, none⟩ (.int .i64 1)).setCell ⟨b34, 2, none⟩ (.int .i64 s1)).setCell ⟨b34, 3, none⟩ (.int .i64 s2)).setCell ⟨b34, 4, none⟩ (.int .i64 y1)).heap[b34]? = some (.cells #[.int .i64 2, .int .i64 1, .int .i64 s1, .int .i64 s2, .int .i64 y1, .int .i64 0, .int .i64 0, .int .i64 0, .int .i64 0, .int .i64 0, .int .i64 0, .int .i64 0, .int .i64 0, .int .i64 0, .int .i64 0] 42 (0, 0)) := heap_setCell Y3
    have Y5 : ((((((W.setCell ⟨b34, 0, none⟩ (.int .i64 2)).setCell ⟨b34, 1, none⟩ (.int .i64 1)).setCell ⟨b34, 2, none⟩ (.int .i64 s1)).setCell ⟨b34, 3, none⟩ (.int .i64 s2)).setCell ⟨b34, 4, none⟩ (.int .i64 y1)).setCell ⟨b34, 5, none⟩ (.int .i64 y2)).heap[b34]? = some (.cells #[.int .i64 2, .int .i64 1, .int .i64 s1, .int .i64 s2, .int .i64 y1, .int .i64 y2, .int .i64 0, .int .i64 0, .int .i64 0, .int .i64 0, .int .i64 0, .int .i64 0, .int .i64 0, .int .i64 0, .int .i64 0] 42 (0, 0)) := heap_setCell Y4
    have Y6 : (((((((W.setCell ⟨b34, 0, none⟩ (.int .i64 2)).setCell ⟨b34, 1, none⟩ (.int .i64 1)).setCell ⟨b34, 2, none⟩ (.int .i64 s1)).setCell ⟨b34, 3, none⟩ (.int .i64 s2)).setCell ⟨b34, 4, none⟩ (.int .i64 y1)).setCell ⟨b34, 5, none⟩ (.int .i64 y2)).setCell ⟨b34, 6, none⟩ (.int .i64 1)).heap[b34]? = some (.cells #[.int .i64 2, .int .i64 1, .int .i64 s1, .int .i64 s2, .int .i64 y1, .int .i64 y2, .int .i64 1, .int .i64 0, .int .i64 0, .int .i64 0, .int .i64 0, .int .i64 0, .int .i64 0, .int .i64 0, .int .i64 0] 42 (0, 0)) := heap_setCell Y5
    have Y7 : ((((((((W.setCell ⟨b34, 0, none⟩ (.int .i64 2)).setCell ⟨b34, 1, none⟩ (.int .i64 1)).setCell ⟨b34, 2, none⟩ (.int .i64 s1)).setCell ⟨b34, 3, none⟩ (.int .i64 s2)).setCell ⟨b34, 4, none⟩ (.int .i64 y1)).setCell ⟨b34, 5, none⟩ (.int .i64 y2)).setCell ⟨b34, 6, none⟩ (.int .i64 1)).setCell ⟨b34, 7, none⟩ (.int .i64 1)).heap[b34]? = some (.cells #[.int .i64 2, .int .i64 1, .int .i64 s1, .int .i64 s2, .int .i64 y1, .int .i64 y2, .int .i64 1, .int .i64 1, .int .i64 0, .int .i64 0, .int .i64 0, .int .i64 0, .int .i64 0, .int .i64 0, .int .i64 0] 42 (0, 0)) := heap_setCell Y6
    have Y8 : (((((((((W.setCell ⟨b34, 0, none⟩ (.int .i64 2)).setCell ⟨b34, 1, none⟩ (.int .i64 1)).setCell ⟨b34, 2, none⟩ (.int .i64 s1)).setCell ⟨b34, 3, none⟩ (.int .i64 s2)).setCell ⟨b34, 4, none⟩ (.int .i64 y1)).setCell ⟨b34, 5, none⟩ (.int .i64 y2)).setCell ⟨b34, 6, none⟩ (.int .i64 1)).setCell ⟨b34, 7, none⟩ (.int .i64 1)).setCell ⟨b34, 8, none⟩ (.int .i64 0)).heap[b34]? = some (.cells #[.int .i64 2, .int .i64 1, .int .i64 s1, .int .i64 s2, .int .i64 y1, .int .i64 y2, .int .i64 1, .int .i64 1, .int .i64 0, .int .i64 0, .int .i64 0, .int .i64 0, .int .i64 0, .int .i64 0, .int .i64 0] 42 (0, 0)) := heap_setCell Y7
    have Y9 : ((((((((((W.setCell ⟨b34, 0, none⟩ (.int .i64 2)).setCell ⟨b34, 1, none⟩ (.int .i64 1)).setCell ⟨b34, 2, none⟩ (.int .i64 s1)).setCell ⟨b34, 3, none⟩ (.int .i64 s2)).setCell ⟨b34, 4, none⟩ (.int .i64 y1)).setCell ⟨b34, 5, none⟩ (.int .i64 y2)).setCell ⟨b34, 6, none⟩ (.int .i64 1)).setCell ⟨b34, 7, none⟩ (.int .i64 1)).setCell ⟨b34, 8, none⟩ (.int .i64 0)).setCell ⟨b34, 9, none⟩ (.int .i64 ma)).heap[b34]? = some (.cells #[.int .i64 2, .int .i64 1, .int .i64 s1, .int .i64 s2, .int .i64 y1, .int .i64 y2, .int .i64 1, .int .i64 1, .int .i64 0, .int .i64 ma, .int .i64 0, .int .i64 0, .int .i64 0, .int .i64 0, .int .i64 0] 42 (0, 0)) := heap_setCell Y8
    have Y10 : (((((((((((W.setCell ⟨b34, 0, none⟩ (.int .i64 2)).setCell ⟨b34, 1, none⟩ (.int .i64 1)).setCell ⟨b34, 2, none⟩ (.int .i64 s1)).setCell ⟨b34, 3, none⟩ (.int .i64 s2)).setCell ⟨b34, 4, none⟩ (.int .i64 y1)).setCell ⟨b34, 5, none⟩ (.int .i64 y2)).setCell ⟨b34, 6, none⟩ (.int .i64 1)).setCell ⟨b34, 7, none⟩ (.int .i64 1)).setCell ⟨b34, 8, none⟩ (.int .i64 0)).setCell ⟨b34, 9, none⟩ (.int .i64 ma)).setCell ⟨b34, 10, none⟩ (.int .i64 mb)).heap[b34]? = some (.cells #[.int .i64 2, .int .i64 1, .int .i64 s1, .int .i64 s2, .int .i64 y1, .int .i64 y2, .int .i64 1, .int .i64 1, .int .i64 0, .int .i64 ma, .int .i64 mb, .int .i64 0, .int .i64 0, .int .i64 0, .int .i64 0] 42 (0, 0)) := heap_setCell Y9
    have Y11 : ((((((((((((W.setCell ⟨b34, 0, none⟩ (.int .i64 2)).setCell ⟨b34, 1, none⟩ (.int .i64 1)).setCell ⟨b34, 2, none⟩ (.int .i64 s1)).setCell ⟨b34, 3, none⟩ (.int .i64 s2)).setCell ⟨b34, 4, none⟩ (.int .i64 y1)).setCell ⟨b34, 5, none⟩ (.int .i64 y2)).setCell ⟨b34, 6, none⟩ (.int .i64 1)).setCell ⟨b34, 7, none⟩ (.int .i64 1)).setCell ⟨b34, 8, none⟩ (.int .i64 0)).setCell ⟨b34, 9, none⟩ (.int .i64 ma)).setCell ⟨b34, 10, none⟩ (.int .i64 mb)).setCell ⟨b34, 11, none⟩ (.int .i64 mc)).heap[b34]? = some (.cells #[.int .i64 2, .int .i64 1, .int .i64 s1, .int .i64 s2, .int .i64 y1, .int .i64 y2, .int .i64 1, .int .i64 1, .int .i64 0, .int .i64 ma, .int .i64 mb, .int .i64 mc, .int .i64 0, .int .i64 0, .int .i64 0] 42 (0, 0)) := heap_setCell Y10
    have Y12 : (((((((((((((W.setCell ⟨b34, 0, none⟩ (.int .i64 2)).setCell ⟨b34, 1, none⟩ (.int .i64 1)).setCell ⟨b34, 2, none⟩ (.int .i64 s1)).setCell ⟨b34, 3, none⟩ (.int .i64 s2)).setCell ⟨b34, 4, none⟩ (.int .i64 y1)).setCell ⟨b34, 5, none⟩ (.int .i64 y2)).setCell ⟨b34, 6, none⟩ (.int .i64 1)).setCell ⟨b34, 7, none⟩ (.int .i64 1)).setCell ⟨b34, 8, none⟩ (.int .i64 0)).setCell ⟨b34, 9, none⟩ (.int .i64 ma)).setCell ⟨b34, 10, none⟩ (.int .i64 mb)).setCell ⟨b34, 11, none⟩ (.int .i64 mc)).setCell ⟨b34, 12, none⟩ (.int .i64 md)).heap[b34]? = some (.cells #[.int .i64 2, .int .i64 1, .int .i64 s1, .int .i64 s2, .int .i64 y1, .int .i64 y2, .int .i64 1, .int .i64 1, .int .i64 0, .int .i64 ma, .int .i64 mb, .int .i64 mc, .int .i64 md, .int .i64 0, .int .i64 0] 42 (0, 0)) := heap_setCell Y11
    have Y13 : ((((((((((((((W.setCell ⟨b34, 0, none⟩ (.int .i64 2)).setCell ⟨b34, 1, none⟩ (.int .i64 1)).setCell ⟨b34, 2, none⟩ (.int .i64 s1)).setCell ⟨b34, 3, none⟩ (.int .i64 s2)).setCell ⟨b34, 4, none⟩ (.int .i64 y1)).setCell ⟨b34, 5, none⟩ (.int .i64 y2)).setCell ⟨b34, 6, none⟩ (.int .i64 1)).setCell ⟨b34, 7, none⟩ (.int .i64 1)).setCell ⟨b34, 8, none⟩ (.int .i64 0)).setCell ⟨b34, 9, none⟩ (.int .i64 ma)).setCell ⟨b34, 10, none⟩ (.int .i64 mb)).setCell ⟨b34, 11, none⟩ (.int .i64 mc)).setCell ⟨b34, 12, none⟩ (.int .i64 md)).setCell ⟨b34, 13, none⟩ (.int .i64 1)).heap[b34]? = some (.cells #[.int .i64 2, .int .i64 1, .int .i64 s1, .int .i64 s2, .int .i64 y1, .int .i64 y2, .int .i64 1, .int .i64 1, .int .i64 0, .int .i64 ma, .int .i64 mb, .int .i64 mc, .int .i64 md, .int .i64 1, .int .i64 0] 42 (0, 0)) := heap_setCell Y12
    have Y14 : (((((((((((((((W.setCell ⟨b34, 0, none⟩ (.int .i64 2)).setCell ⟨b34, 1, none⟩ (.int .i64 1)).setCell ⟨b34, 2, none⟩ (.int .i64 s1)).setCell ⟨b34, 3, none⟩ (.int .i64 s2)).setCell ⟨b34, 4, none⟩ (.int .i64 y1)).setCell ⟨b34, 5, none⟩ (.int .i64 y2)).setCell ⟨b34, 6, none⟩ (.int .i64 1)).setCell ⟨b34, 7, none⟩ (.int .i64 1)).setCell ⟨b34, 8, none⟩ (.int .i64 0)).setCell ⟨b34, 9, none⟩ (.int .i64 ma)).setCell ⟨b34, 10, none⟩ (.int .i64 mb)).setCell ⟨b34, 11, none⟩ (.int .i64 mc)).setCell ⟨b34, 12, none⟩ (.int .i64 md)).setCell ⟨b34, 13, none⟩ (.int .i64 1)).setCell ⟨b34, 14, none⟩ (.int .i64 (-1))).heap[b34]? = some (.cells #[.int .i64 2, .int .i64 1, .int .i64 s1, .int .i64 s2, .int .i64 y1, .int .i64 y2, .int .i64 1, .int .i64 1, .int .i64 0, .int .i64 ma, .int .i64 mb, .int .i64 mc, .int .i64 md, .int .i64 1, .int .i64 (-1)] 42 (0, 0)) := heap_setCell Y13
    have h34 : V1.heap[b34]? = some (.cells #[.int .i64 2, .int .i64 1, .int .i64 s1, .int .i64 s2, .int .i64 y1, .int .i64 y2, .int .i64 1, .int .i64 1, .int .i64 0, .int .i64 ma, .int .i64 mb, .int .i64 mc, .int .i64 md, .int .i64 1, .int .i64 (-1)] 42 (0, 0)) := by rw [← V_V1]; exact Y14
    have kk : Kept [] W0 V1 := by rw [← V_V1]; exact (((((((((((((((hK.setCell _ _ (Or.inr ge)).setCell _ _ (Or.inr ge)).setCell _ _ (Or.inr ge)).setCell _ _ (Or.inr ge)).setCell _ _ (Or.inr ge)).setCell _ _ (Or.inr ge)).setCell _ _ (Or.inr ge)).setCell _ _ (Or.inr ge)).setCell _ _ (Or.inr ge)).setCell _ _ (Or.inr ge)).setCell _ _ (Or.inr ge)).setCell _ _ (Or.inr ge)).setCell _ _ (Or.inr ge)).setCell _ _ (Or.inr ge)).setCell _ _ (Or.inr ge))
    have Z_T2 := kk.at B_T2.out (by simp)
    have gg := KW.out.1
    have G_b34 : Hid (w.heap.size ≤ b34) := Lib.hid (Nat.le_trans gg ge)
    have N_T2_b34 : Hid (T2 ≠ b34) := Lib.hid (Nat.ne_of_lt (Nat.lt_of_lt_of_le (heap_lt B_T2.out) ge))
    replace B_T2 := Lib.hid Z_T2
    have B_b34 := Lib.hid h34
    replace KW := Lib.hid (Kept.tr KW.out kk)
    clear gg Z_T2
    replace T0 := Lib.hid (T0.out.step0 kk)
    clear Y0 Y1 Y2 Y3 Y4 Y5 Y6 Y7 Y8 Y9 Y10 Y11 Y12 Y13 Y14
    clear h1 h2 h34 kk ge hK BX BJ BL BLA BM p8 q8 r8 t8 u8 p34 q34 r34 t34 u34 z34 yy0 yy1 yy2 yy3 yy4 yy5 yy6 yy7 yy8 yy9 yy10 yy11 yy12 yy13 yy14 yy15 yy16 yy17 yy18 yy19 yy20 yy21 yy22 yy23 yy24 yy25 yy26 yy27 yy28 yy29 yy30 yy31 yy32 yy33 yy34
    refine aSkip (i := 35) (w' := ?_) rfl (by kernel_rfl) (by rfl) ?_ ?_
    rotate_left 1
    · go_simp; all_goals with_reducible rfl
    try simp only [Act.put, zA, zB, zC]
    refine wpAny_done (by kernel_rfl) ?_ _
    try rw [V_V1]
    clear V_V1 hl34 hf0 he0 hf1 he1 hf2 he2 hf3 he3 hf4 he4 hf5 he5 hf6 he6 hf7 he7 hf8 he8 hf9 he9 hf10 he10 hf11 he11 hf12 he12 hf13 he13 hf14 he14
    have O := slices30 (w := V1) (z := c.z) T0.out.ex.hx hm.out
    have EN := End31 c.z.s 2 _ V1 T0.out.hs
    have hx1 := T0.out.ex.hx
    unfold XAt at hx1
    have x9 : V1.cell? ⟨c.z.x, 9, none⟩ = some (.pointer (some ⟨c.z.s, 0, none⟩)) := cell_of hx1 9
    have lx := heap_lt hx1
    clear hx1
    have c_V1_T2_0 : V1.cell? ⟨T2, 0, none⟩ = some (.int .i64 0) := cell_of B_T2.out 0
    have c_V1_T2_1 : V1.cell? ⟨T2, 1, none⟩ = some (.int .i64 0) := cell_of B_T2.out 1
    have c_V1_T2_2 : V1.cell? ⟨T2, 2, none⟩ = some (.int .i64 0) := cell_of B_T2.out 2
    have c_V1_T2_3 : V1.cell? ⟨T2, 3, none⟩ = some (.int .i64 0) := cell_of B_T2.out 3
    have c_V1_T2_4 : V1.cell? ⟨T2, 4, none⟩ = some (.int .i64 0) := cell_of B_T2.out 4
    have c_V1_T2_5 : V1.cell? ⟨T2, 5, none⟩ = some (.int .i64 0) := cell_of B_T2.out 5
    have c_V1_T2_6 : V1.cell? ⟨T2, 6, none⟩ = some (.int .i64 0) := cell_of B_T2.out 6
    have c_V1_T2_7 : V1.cell? ⟨T2, 7, none⟩ = some (.int .i64 0) := cell_of B_T2.out 7
    have c_V1_T2_8 : V1.cell? ⟨T2, 8, none⟩ = some (.int .i64 0) := cell_of B_T2.out 8
    have c_V1_T2_9 : V1.cell? ⟨T2, 9, none⟩ = some (.int .i64 0) := cell_of B_T2.out 9
    have c_V1_T2_10 : V1.cell? ⟨T2, 10, none⟩ = some (.int .i64 0) := cell_of B_T2.out 10
    have c_V1_T2_11 : V1.cell? ⟨T2, 11, none⟩ = some (.int .i64 0) := cell_of B_T2.out 11
    have c_V1_T2_12 : V1.cell? ⟨T2, 12, none⟩ = some (.int .i64 0) := cell_of B_T2.out 12
    have c_V1_T2_13 : V1.cell? ⟨T2, 13, none⟩ = some (.int .i64 0) := cell_of B_T2.out 13
    have c_V1_T2_14 : V1.cell? ⟨T2, 14, none⟩ = some (.int .i64 0) := cell_of B_T2.out 14
    have l_V1_T2 := heap_lt B_T2.out
    have c_V1_b34_0 : V1.cell? ⟨b34, 0, none⟩ = some (.int .i64 2) := cell_of B_b34.out 0
    have c_V1_b34_1 : V1.cell? ⟨b34, 1, none⟩ = some (.int .i64 1) := cell_of B_b34.out 1
    have c_V1_b34_2 : V1.cell? ⟨b34, 2, none⟩ = some (.int .i64 s1) := cell_of B_b34.out 2
    have c_V1_b34_3 : V1.cell? ⟨b34, 3, none⟩ = some (.int .i64 s2) := cell_of B_b34.out 3
    have c_V1_b34_4 : V1.cell? ⟨b34, 4, none⟩ = some (.int .i64 y1) := cell_of B_b34.out 4
    have c_V1_b34_5 : V1.cell? ⟨b34, 5, none⟩ = some (.int .i64 y2) := cell_of B_b34.out 5
    have c_V1_b34_6 : V1.cell? ⟨b34, 6, none⟩ = some (.int .i64 1) := cell_of B_b34.out 6
    have c_V1_b34_7 : V1.cell? ⟨b34, 7, none⟩ = some (.int .i64 1) := cell_of B_b34.out 7
    have c_V1_b34_8 : V1.cell? ⟨b34, 8, none⟩ = some (.int .i64 0) := cell_of B_b34.out 8
    have c_V1_b34_9 : V1.cell? ⟨b34, 9, none⟩ = some (.int .i64 ma) := cell_of B_b34.out 9
    have c_V1_b34_10 : V1.cell? ⟨b34, 10, none⟩ = some (.int .i64 mb) := cell_of B_b34.out 10
    have c_V1_b34_11 : V1.cell? ⟨b34, 11, none⟩ = some (.int .i64 mc) := cell_of B_b34.out 11
    have c_V1_b34_12 : V1.cell? ⟨b34, 12, none⟩ = some (.int .i64 md) := cell_of B_b34.out 12
    have c_V1_b34_13 : V1.cell? ⟨b34, 13, none⟩ = some (.int .i64 1) := cell_of B_b34.out 13
    have c_V1_b34_14 : V1.cell? ⟨b34, 14, none⟩ = some (.int .i64 (-1)) := cell_of B_b34.out 14
    have f_V1_b34_0 : V1.frozen? ⟨b34, 0, none⟩ = false := frozen_of B_b34.out 0
    have f_V1_b34_1 : V1.frozen? ⟨b34, 1, none⟩ = false := frozen_of B_b34.out 1
    have f_V1_b34_2 : V1.frozen? ⟨b34, 2, none⟩ = false := frozen_of B_b34.out 2
    have f_V1_b34_3 : V1.frozen? ⟨b34, 3, none⟩ = false := frozen_of B_b34.out 3
    have f_V1_b34_4 : V1.frozen? ⟨b34, 4, none⟩ = false := frozen_of B_b34.out 4
    have f_V1_b34_5 : V1.frozen? ⟨b34, 5, none⟩ = false := frozen_of B_b34.out 5
    have f_V1_b34_6 : V1.frozen? ⟨b34, 6, none⟩ = false := frozen_of B_b34.out 6
    have f_V1_b34_7 : V1.frozen? ⟨b34, 7, none⟩ = false := frozen_of B_b34.out 7
    have f_V1_b34_8 : V1.frozen? ⟨b34, 8, none⟩ = false := frozen_of B_b34.out 8
    have f_V1_b34_9 : V1.frozen? ⟨b34, 9, none⟩ = false := frozen_of B_b34.out 9
    have f_V1_b34_10 : V1.frozen? ⟨b34, 10, none⟩ = false := frozen_of B_b34.out 10
    have f_V1_b34_11 : V1.frozen? ⟨b34, 11, none⟩ = false := frozen_of B_b34.out 11
    have f_V1_b34_12 : V1.frozen? ⟨b34, 12, none⟩ = false := frozen_of B_b34.out 12
    have f_V1_b34_13 : V1.frozen? ⟨b34, 13, none⟩ = false := frozen_of B_b34.out 13
    have f_V1_b34_14 : V1.frozen? ⟨b34, 14, none⟩ = false := frozen_of B_b34.out 14
    have l_V1_b34 := heap_lt B_b34.out
    go_wp2_with fail
    refine O.mono ?_
    rintro e' w9 ⟨rfl, rfl⟩
    clear O
    go_wp2_with fail
    refine EN.mono ?_
    rintro e' w9 ⟨rfl, rfl⟩
    clear EN
    obtain ⟨V3, V_V3⟩ : ∃ x, (V1.setCell ⟨b34, 14, none⟩ (.int .i64 2)) = x := ⟨_, rfl⟩
    have Z_b34 : V3.heap[b34]? = some (.cells #[.int .i64 2, .int .i64 1, .int .i64 s1, .int .i64 s2, .int .i64 y1, .int .i64 y2, .int .i64 1, .int .i64 1, .int .i64 0, .int .i64 ma, .int .i64 mb, .int .i64 mc, .int .i64 md, .int .i64 1, .int .i64 2] 42 (0, 0)) := by rw [← V_V3]; exact heap_setCell (B_b34.out)
    have Z_T2 : V3.heap[T2]? = some (.cells #[.int .i64 0, .int .i64 0, .int .i64 0, .int .i64 0, .int .i64 0, .int .i64 0, .int .i64 0, .int .i64 0, .int .i64 0, .int .i64 0, .int .i64 0, .int .i64 0, .int .i64 0, .int .i64 0, .int .i64 0] 42 (0, 0)) := by rw [← V_V3]; exact (heap_setCell_ne (Ne.symm N_T2_b34.out)).trans (B_T2.out)
    have Zk := (KW.out.setCell ⟨b34, 14, none⟩ (.int .i64 2) (Or.inr G_b34.out))
    rw [V_V3] at Zk
    replace B_T2 := Lib.hid Z_T2
    replace B_b34 := Lib.hid Z_b34
    replace KW := Lib.hid Zk
    clear Zk Z_T2 Z_b34
    have c_V3_T2_0 : V3.cell? ⟨T2, 0, none⟩ = some (.int .i64 0) := cell_of B_T2.out 0
    have c_V3_T2_1 : V3.cell? ⟨T2, 1, none⟩ = some (.int .i64 0) := cell_of B_T2.out 1
    have c_V3_T2_2 : V3.cell? ⟨T2, 2, none⟩ = some (.int .i64 0) := cell_of B_T2.out 2
    have c_V3_T2_3 : V3.cell? ⟨T2, 3, none⟩ = some (.int .i64 0) := cell_of B_T2.out 3
    have c_V3_T2_4 : V3.cell? ⟨T2, 4, none⟩ = some (.int .i64 0) := cell_of B_T2.out 4
    have c_V3_T2_5 : V3.cell? ⟨T2, 5, none⟩ = some (.int .i64 0) := cell_of B_T2.out 5
    have c_V3_T2_6 : V3.cell? ⟨T2, 6, none⟩ = some (.int .i64 0) := cell_of B_T2.out 6
    have c_V3_T2_7 : V3.cell? ⟨T2, 7, none⟩ = some (.int .i64 0) := cell_of B_T2.out 7
    have c_V3_T2_8 : V3.cell? ⟨T2, 8, none⟩ = some (.int .i64 0) := cell_of B_T2.out 8
    have c_V3_T2_9 : V3.cell? ⟨T2, 9, none⟩ = some (.int .i64 0) := cell_of B_T2.out 9
    have c_V3_T2_10 : V3.cell? ⟨T2, 10, none⟩ = some (.int .i64 0) := cell_of B_T2.out 10
    have c_V3_T2_11 : V3.cell? ⟨T2, 11, none⟩ = some (.int .i64 0) := cell_of B_T2.out 11
    have c_V3_T2_12 : V3.cell? ⟨T2, 12, none⟩ = some (.int .i64 0) := cell_of B_T2.out 12
    have c_V3_T2_13 : V3.cell? ⟨T2, 13, none⟩ = some (.int .i64 0) := cell_of B_T2.out 13
    have c_V3_T2_14 : V3.cell? ⟨T2, 14, none⟩ = some (.int .i64 0) := cell_of B_T2.out 14
    have f_V3_T2_0 : V3.frozen? ⟨T2, 0, none⟩ = false := frozen_of B_T2.out 0
    have f_V3_T2_1 : V3.frozen? ⟨T2, 1, none⟩ = false := frozen_of B_T2.out 1
    have f_V3_T2_2 : V3.frozen? ⟨T2, 2, none⟩ = false := frozen_of B_T2.out 2
    have f_V3_T2_3 : V3.frozen? ⟨T2, 3, none⟩ = false := frozen_of B_T2.out 3
    have f_V3_T2_4 : V3.frozen? ⟨T2, 4, none⟩ = false := frozen_of B_T2.out 4
    have f_V3_T2_5 : V3.frozen? ⟨T2, 5, none⟩ = false := frozen_of B_T2.out 5
    have f_V3_T2_6 : V3.frozen? ⟨T2, 6, none⟩ = false := frozen_of B_T2.out 6
    have f_V3_T2_7 : V3.frozen? ⟨T2, 7, none⟩ = false := frozen_of B_T2.out 7
    have f_V3_T2_8 : V3.frozen? ⟨T2, 8, none⟩ = false := frozen_of B_T2.out 8
    have f_V3_T2_9 : V3.frozen? ⟨T2, 9, none⟩ = false := frozen_of B_T2.out 9
    have f_V3_T2_10 : V3.frozen? ⟨T2, 10, none⟩ = false := frozen_of B_T2.out 10
    have f_V3_T2_11 : V3.frozen? ⟨T2, 11, none⟩ = false := frozen_of B_T2.out 11
    have f_V3_T2_12 : V3.frozen? ⟨T2, 12, none⟩ = false := frozen_of B_T2.out 12
    have f_V3_T2_13 : V3.frozen? ⟨T2, 13, none⟩ = false := frozen_of B_T2.out 13
    have f_V3_T2_14 : V3.frozen? ⟨T2, 14, none⟩ = false := frozen_of B_T2.out 14
    have l_V3_T2 := heap_lt B_T2.out
    have c_V3_b34_0 : V3.cell? ⟨b34, 0, none⟩ = some (.int .i64 2) := cell_of B_b34.out 0
    have c_V3_b34_1 : V3.cell? ⟨b34, 1, none⟩ = some (.int .i64 1) := cell_of B_b34.out 1
    have c_V3_b34_2 : V3.cell? ⟨b34, 2, none⟩ = some (.int .i64 s1) := cell_of B_b34.out 2
    have c_V3_b34_3 : V3.cell? ⟨b34, 3, none⟩ = some (.int .i64 s2) := cell_of B_b34.out 3
    have c_V3_b34_4 : V3.cell? ⟨b34, 4, none⟩ = some (.int .i64 y1) := cell_of B_b34.out 4
    have c_V3_b34_5 : V3.cell? ⟨b34, 5, none⟩ = some (.int .i64 y2) := cell_of B_b34.out 5
    have c_V3_b34_6 : V3.cell? ⟨b34, 6, none⟩ = some (.int .i64 1) := cell_of B_b34.out 6
    have c_V3_b34_7 : V3.cell? ⟨b34, 7, none⟩ = some (.int .i64 1) := cell_of B_b34.out 7
    have c_V3_b34_8 : V3.cell? ⟨b34, 8, none⟩ = some (.int .i64 0) := cell_of B_b34.out 8
    have c_V3_b34_9 : V3.cell? ⟨b34, 9, none⟩ = some (.int .i64 ma) := cell_of B_b34.out 9
    have c_V3_b34_10 : V3.cell? ⟨b34, 10, none⟩ = some (.int .i64 mb) := cell_of B_b34.out 10
    have c_V3_b34_11 : V3.cell? ⟨b34, 11, none⟩ = some (.int .i64 mc) := cell_of B_b34.out 11
    have c_V3_b34_12 : V3.cell? ⟨b34, 12, none⟩ = some (.int .i64 md) := cell_of B_b34.out 12
    have c_V3_b34_13 : V3.cell? ⟨b34, 13, none⟩ = some (.int .i64 1) := cell_of B_b34.out 13
    have c_V3_b34_14 : V3.cell? ⟨b34, 14, none⟩ = some (.int .i64 2) := cell_of B_b34.out 14
    have l_V3_b34 := heap_lt B_b34.out
    obtain ⟨V4, V_V4⟩ : ∃ x, (((((((((((((((V3.setCell ⟨T2, 0, none⟩ (.int .i64 2)).setCell ⟨T2, 1, none⟩ (.int .i64 1)).setCell ⟨T2, 2, none⟩ (.int .i64 s1)).setCell ⟨T2, 3, none⟩ (.int .i64 s2)).setCell ⟨T2, 4, none⟩ (.int .i64 y1)).setCell ⟨T2, 5, none⟩ (.int .i64 y2)).setCell ⟨T2, 6, none⟩ (.int .i64 1)).setCell ⟨T2, 7, none⟩ (.int .i64 1)).setCell ⟨T2, 8, none⟩ (.int .i64 0)).setCell ⟨T2, 9, none⟩ (.int .i64 ma)).setCell ⟨T2, 10, none⟩ (.int .i64 mb)).setCell ⟨T2, 11, none⟩ (.int .i64 mc)).setCell ⟨T2, 12, none⟩ (.int .i64 md)).setCell ⟨T2, 13, none⟩ (.int .i64 1)).setCell ⟨T2, 14, none⟩ (.int .i64 2)) = x := ⟨_, rfl⟩
    have Y_0 : (V3.setCell ⟨T2, 0, none⟩ (.int .i64 2)).heap[T2]? = some (.cells #[.int .i64 2, .int .i64 0, .int .i64 0, .int .i64 0, .int .i64 0, .int .i64 0, .int .i64 0, .int .i64 0, .int .i64 0, .int .i64 0, .int .i64 0, .int .i64 0, .int .i64 0, .int .i64 0, .int .i64 0] 42 (0, 0)) := heap_setCell B_T2.out
    have Y_1 : ((V3.setCell ⟨T2, 0, none⟩ (.int .i64 2)).setCell ⟨T2, 1, none⟩ (.int .i64 1)).heap[T2]? = some (.cells #[.int .i64 2, .int .i64 1, .int .i64 0, .int .i64 0, .int .i64 0, .int .i64 0, .int .i64 0, .int .i64 0, .int .i64 0, .int .i64 0, .int .i64 0, .int .i64 0, .int .i64 0, .int .i64 0, .int .i64 0] 42 (0, 0)) := heap_setCell Y_0
    have Y_2 : (((V3.setCell ⟨T2, 0, none⟩ (.int .i64 2)).setCell ⟨T2, 1, none⟩ (.int .i64 1)).setCell ⟨T2, 2, none⟩ (.int .i64 s1)).heap[T2]? = some (.cells #[.int .i64 2, .int .i64 1, .int .i64 s1, .int .i64 0, .int .i64 0, .int .i64 0, .int .i64 0, .int .i64 0, .int .i64 0, .int .i64 0, .int .i64 0, .int .i64 0, .int .i64 0, .int .i64 0, .int .i64 0] 42 (0, 0)) := heap_setCell Y_1
    have Y_3 : ((((V3.setCell ⟨T2, 0, none⟩ (.int .i64 2)).setCell ⟨T2, 1, none⟩ (.int .i64 1)).setCell ⟨T2, 2, none⟩ (.int .i64 s1)).setCell ⟨T2, 3, none⟩ (.int .i64 s2)).heap[T2]? = some (.cells #[.int .i64 2, .int .i64 1, .int .i64 s1, .int .i64 s2, .int .i64 0, .int .i64 0, .int .i64 0, .int .i64 0, .int .i64 0, .int .i64 0, .int .i64 0, .int .i64 0, .int .i64 0, .int .i64 0, .int .i64 0] 42 (0, 0)) := heap_setCell Y_2
    have Y_4 : (((((V3.setCell ⟨T2, 0, none⟩ (.int .i64 2)).setCell ⟨T2, 1, none⟩ (.int .i64 1)).setCell ⟨T2, 2, none⟩ (.int .i64 s1)).setCell ⟨T2, 3, none⟩ (.int .i64 s2)).setCell ⟨T2, 4, none⟩ (.int .i64 y1)).heap[T2]? = some (.cells #[.int .i64 2, .int .i64 1, .int .i64 s1, .int .i64 s2, .int .i64 y1, .int .i64 0, .int .i64 0, .int .i64 0, .int .i64 0, .int .i64 0, .int .i64 0, .int .i64 0, .int .i64 0, .int .i64 0, .int .i64 0] 42 (0, 0)) := heap_setCell Y_3
    have Y_5 : ((((((V3.setCell ⟨T2, 0, none⟩ (.int .i64 2)).setCell ⟨T2, 1, none⟩ (.int .i64 1)).setCell ⟨T2, 2, none⟩ (.int .i64 s1)).setCell ⟨T2, 3, none⟩ (.int .i64 s2)).setCell ⟨T2, 4, none⟩ (.int .i64 y1)).setCell ⟨T2, 5, none⟩ (.int .i64 y2)).heap[T2]? = some (.cells #[.int .i64 2, .int .i64 1, .int .i64 s1, .int .i64 s2, .int .i64 y1, .int .i64 y2, .int .i64 0, .int .i64 0, .int .i64 0, .int .i64 0, .int .i64 0, .int .i64 0, .int .i64 0, .int .i64 0, .int .i64 0] 42 (0, 0)) := heap_setCell Y_4
    have Y_6 : (((((((V3.setCell ⟨T2, 0, none⟩ (.int .i64 2)).setCell ⟨T2, 1, none⟩ (.int .i64 1)).setCell ⟨T2, 2, none⟩ (.int .i64 s1)).setCell ⟨T2, 3, none⟩ (.int .i64 s2)).setCell ⟨T2, 4, none⟩ (.int .i64 y1)).setCell ⟨T2, 5, none⟩ (.int .i64 y2)).setCell ⟨T2, 6, none⟩ (.int .i64 1)).heap[T2]? = some (.cells #[.int .i64 2, .int .i64 1, .int .i64 s1, .int .i64 s2, .int .i64 y1, .int .i64 y2, .int .i64 1, .int .i64 0, .int .i64 0, .int .i64 0, .int .i64 0, .int .i64 0, .int .i64 0, .int .i64 0, .int .i64 0] 42 (0, 0)) := heap_setCell Y_5
    have Y_7 : ((((((((V3.setCell ⟨T2, 0, none⟩ (.int .i64 2)).setCell ⟨T2, 1, none⟩ (.int .i64 1)).setCell ⟨T2, 2, none⟩ (.int .i64 s1)).setCell ⟨T2, 3, none⟩ (.int .i64 s2)).setCell ⟨T2, 4, none⟩ (.int .i64 y1)).setCell ⟨T2, 5, none⟩ (.int .i64 y2)).setCell ⟨T2, 6, none⟩ (.int .i64 1)).setCell ⟨T2, 7, none⟩ (.int .i64 1)).heap[T2]? = some (.cells #[.int .i64 2, .int .i64 1, .int .i64 s1, .int .i64 s2, .int .i64 y1, .int .i64 y2, .int .i64 1, .int .i64 1, .int .i64 0, .int .i64 0, .int .i64 0, .int .i64 0, .int .i64 0, .int .i64 0, .int .i64 0] 42 (0, 0)) := heap_setCell Y_6
    have Y_8 : (((((((((V3.setCell ⟨T2, 0, none⟩ (.int .i64 2)).setCell ⟨T2, 1, none⟩ (.int .i64 1)).setCell ⟨T2, 2, none⟩ (.int .i64 s1)).setCell ⟨T2, 3, none⟩ (.int .i64 s2)).setCell ⟨T2, 4, none⟩ (.int .i64 y1)).setCell ⟨T2, 5, none⟩ (.int .i64 y2)).setCell ⟨T2, 6, none⟩ (.int .i64 1)).setCell ⟨T2, 7, none⟩ (.int .i64 1)).setCell ⟨T2, 8, none⟩ (.int .i64 0)).heap[T2]? = some (.cells #[.int .i64 2, .int .i64 1, .int .i64 s1, .int .i64 s2, .int .i64 y1, .int .i64 y2, .int .i64 1, .int .i64 1, .int .i64 0, .int .i64 0, .int .i64 0, .int .i64 0, .int .i64 0, .int .i64 0, .int .i64 0] 42 (0, 0)) := heap_setCell Y_7
    have Y_9 : ((((((((((V3.setCell ⟨T2, 0, none⟩ (.int .i64 2)).setCell ⟨T2, 1, none⟩ (.int .i64 1)).setCell ⟨T2, 2, none⟩ (.int .i64 s1)).setCell ⟨T2, 3, none⟩ (.int .i64 s2)).setCell ⟨T2, 4, none⟩ (.int .i64 y1)).setCell ⟨T2, 5, none⟩ (.int .i64 y2)).setCell ⟨T2, 6, none⟩ (.int .i64 1)).setCell ⟨T2, 7, none⟩ (.int .i64 1)).setCell ⟨T2, 8, none⟩ (.int .i64 0)).setCell ⟨T2, 9, none⟩ (.int .i64 ma)).heap[T2]? = some (.cells #[.int .i64 2, .int .i64 1, .int .i64 s1, .int .i64 s2, .int .i64 y1, .int .i64 y2, .int .i64 1, .int .i64 1, .int .i64 0, .int .i64 ma, .int .i64 0, .int .i64 0, .int .i64 0, .int .i64 0, .int .i64 0] 42 (0, 0)) := heap_setCell Y_8
    have Y_10 : (((((((((((V3.setCell ⟨T2, 0, none⟩ (.int .i64 2)).setCell ⟨T2, 1, none⟩ (.int .i64 1)).setCell ⟨T2, 2, none⟩ (.int .i64 s1)).setCell ⟨T2, 3, none⟩ (.int .i64 s2)).setCell ⟨T2, 4, none⟩ (.int .i64 y1)).setCell ⟨T2, 5, none⟩ (.int .i64 y2)).setCell ⟨T2, 6, none⟩ (.int .i64 1)).setCell ⟨T2, 7, none⟩ (.int .i64 1)).setCell ⟨T2, 8, none⟩ (.int .i64 0)).setCell ⟨T2, 9, none⟩ (.int .i64 ma)).setCell ⟨T2, 10, none⟩ (.int .i64 mb)).heap[T2]? = some (.cells #[.int .i64 2, .int .i64 1, .int .i64 s1, .int .i64 s2, .int .i64 y1, .int .i64 y2, .int .i64 1, .int .i64 1, .int .i64 0, .int .i64 ma, .int .i64 mb, .int .i64 0, .int .i64 0, .int .i64 0, .int .i64 0] 42 (0, 0)) := heap_setCell Y_9
    have Y_11 : ((((((((((((V3.setCell ⟨T2, 0, none⟩ (.int .i64 2)).setCell ⟨T2, 1, none⟩ (.int .i64 1)).setCell ⟨T2, 2, none⟩ (.int .i64 s1)).setCell ⟨T2, 3, none⟩ (.int .i64 s2)).setCell ⟨T2, 4, none⟩ (.int .i64 y1)).setCell ⟨T2, 5, none⟩ (.int .i64 y2)).setCell ⟨T2, 6, none⟩ (.int .i64 1)).setCell ⟨T2, 7, none⟩ (.int .i64 1)).setCell ⟨T2, 8, none⟩ (.int .i64 0)).setCell ⟨T2, 9, none⟩ (.int .i64 ma)).setCell ⟨T2, 10, none⟩ (.int .i64 mb)).setCell ⟨T2, 11, none⟩ (.int .i64 mc)).heap[T2]? = some (.cells #[.int .i64 2, .int .i64 1, .int .i64 s1, .int .i64 s2, .int .i64 y1, .int .i64 y2, .int .i64 1, .int .i64 1, .int .i64 0, .int .i64 ma, .int .i64 mb, .int .i64 mc, .int .i64 0, .int .i64 0, .int .i64 0] 42 (0, 0)) := heap_setCell Y_10
    have Y_12 : (((((((((((((V3.setCell ⟨T2, 0, none⟩ (.int .i64 2)).setCell ⟨T2, 1, none⟩ (.int .i64 1)).setCell ⟨T2, 2, none⟩ (.int .i64 s1)).setCell ⟨T2, 3, none⟩ (.int .i64 s2)).setCell ⟨T2, 4, none⟩ (.int .i64 y1)).setCell ⟨T2, 5, none⟩ (.int .i64 y2)).setCell ⟨T2, 6, none⟩ (.int .i64 1)).setCell ⟨T2, 7, none⟩ (.int .i64 1)).setCell ⟨T2, 8, none⟩ (.int .i64 0)).setCell ⟨T2, 9, none⟩ (.int .i64 ma)).setCell ⟨T2, 10, none⟩ (.int .i64 mb)).setCell ⟨T2, 11, none⟩ (.int .i64 mc)).setCell ⟨T2, 12, none⟩ (.int .i64 md)).heap[T2]? = some (.cells #[.int .i64 2, .int .i64 1, .int .i64 s1, .int .i64 s2, .int .i64 y1, .int .i64 y2, .int .i64 1, .int .i64 1, .int .i64 0, .int .i64 ma, .int .i64 mb, .int .i64 mc, .int .i64 md, .int .i64 0, .int .i64 0] 42 (0, 0)) := heap_setCell Y_11
    have Y_13 : ((((((((((((((V3.setCell ⟨T2, 0, none⟩ (.int .i64 2)).setCell ⟨T2, 1, none⟩ (.int .i64 1)).setCell ⟨T2, 2, none⟩ (.int .i64 s1)).setCell ⟨T2, 3, none⟩ (.int .i64 s2)).setCell ⟨T2, 4, none⟩ (.int .i64 y1)).setCell ⟨T2, 5, none⟩ (.int .i64 y2)).setCell ⟨T2, 6, none⟩ (.int .i64 1)).setCell ⟨T2, 7, none⟩ (.int .i64 1)).setCell ⟨T2, 8, none⟩ (.int .i64 0)).setCell ⟨T2, 9, none⟩ (.int .i64 ma)).setCell ⟨T2, 10, none⟩ (.int .i64 mb)).setCell ⟨T2, 11, none⟩ (.int .i64 mc)).setCell ⟨T2, 12, none⟩ (.int .i64 md)).setCell ⟨T2, 13, none⟩ (.int .i64 1)).heap[T2]? = some (.cells #[.int .i64 2, .int .i64 1, .int .i64 s1, .int .i64 s2, .int .i64 y1, .int .i64 y2, .int .i64 1, .int .i64 1, .int .i64 0, .int .i64 ma, .int .i64 mb, .int .i64 mc, .int .i64 md, .int .i64 1, .int .i64 0] 42 (0, 0)) := heap_setCell Y_12
    have Y_14 : (((((((((((((((V3.setCell ⟨T2, 0, none⟩ (.int .i64 2)).setCell ⟨T2, 1, none⟩ (.int .i64 1)).setCell ⟨T2, 2, none⟩ (.int .i64 s1)).setCell ⟨T2, 3, none⟩ (.int .i64 s2)).setCell ⟨T2, 4, none⟩ (.int .i64 y1)).setCell ⟨T2, 5, none⟩ (.int .i64 y2)).setCell ⟨T2, 6, none⟩ (.int .i64 1)).setCell ⟨T2, 7, none⟩ (.int .i64 1)).setCell ⟨T2, 8, none⟩ (.int .i64 0)).setCell ⟨T2, 9, none⟩ (.int .i64 ma)).setCell ⟨T2, 10, none⟩ (.int .i64 mb)).setCell ⟨T2, 11, none⟩ (.int .i64 mc)).setCell ⟨T2, 12, none⟩ (.int .i64 md)).setCell ⟨T2, 13, none⟩ (.int .i64 1)).setCell ⟨T2, 14, none⟩ (.int .i64 2)).heap[T2]? = some (.cells #[.int .i64 2, .int .i64 1, .int .i64 s1, .int .i64 s2, .int .i64 y1, .int .i64 y2, .int .i64 1, .int .i64 1, .int .i64 0, .int .i64 ma, .int .i64 mb, .int .i64 mc, .int .i64 md, .int .i64 1, .int .i64 2] 42 (0, 0)) := heap_setCell Y_13
    have Z_T2 : V4.heap[T2]? = some (.cells #[.int .i64 2, .int .i64 1, .int .i64 s1, .int .i64 s2, .int .i64 y1, .int .i64 y2, .int .i64 1, .int .i64 1, .int .i64 0, .int .i64 ma, .int .i64 mb, .int .i64 mc, .int .i64 md, .int .i64 1, .int .i64 2] 42 (0, 0)) := by rw [← V_V4]; exact Y_14
    clear Y_0 Y_1 Y_2 Y_3 Y_4 Y_5 Y_6 Y_7 Y_8 Y_9 Y_10 Y_11 Y_12 Y_13 Y_14
    have Z_b34 : V4.heap[b34]? = some (.cells #[.int .i64 2, .int .i64 1, .int .i64 s1, .int .i64 s2, .int .i64 y1, .int .i64 y2, .int .i64 1, .int .i64 1, .int .i64 0, .int .i64 ma, .int .i64 mb, .int .i64 mc, .int .i64 md, .int .i64 1, .int .i64 2] 42 (0, 0)) := by rw [← V_V4]; exact (heap_setCell_ne N_T2_b34.out).trans ((heap_setCell_ne N_T2_b34.out).trans ((heap_setCell_ne N_T2_b34.out).trans ((heap_setCell_ne N_T2_b34.out).trans ((heap_setCell_ne N_T2_b34.out).trans ((heap_setCell_ne N_T2_b34.out).trans ((heap_setCell_ne N_T2_b34.out).trans ((heap_setCell_ne N_T2_b34.out).trans ((heap_setCell_ne N_T2_b34.out).trans ((heap_setCell_ne N_T2_b34.out).trans ((heap_setCell_ne N_T2_b34.out).trans ((heap_setCell_ne N_T2_b34.out).trans ((heap_setCell_ne N_T2_b34.out).trans ((heap_setCell_ne N_T2_b34.out).trans ((heap_setCell_ne N_T2_b34.out).trans (B_b34.out)))))))))))))))
    have Zk := (((((((((((((((KW.out.setCell ⟨T2, 0, none⟩ (.int .i64 2) (Or.inr G_T2.out)).setCell ⟨T2, 1, none⟩ (.int .i64 1) (Or.inr G_T2.out)).setCell ⟨T2, 2, none⟩ (.int .i64 s1) (Or.inr G_T2.out)).setCell ⟨T2, 3, none⟩ (.int .i64 s2) (Or.inr G_T2.out)).setCell ⟨T2, 4, none⟩ (.int .i64 y1) (Or.inr G_T2.out)).setCell ⟨T2, 5, none⟩ (.int .i64 y2) (Or.inr G_T2.out)).setCell ⟨T2, 6, none⟩ (.int .i64 1) (Or.inr G_T2.out)).setCell ⟨T2, 7, none⟩ (.int .i64 1) (Or.inr G_T2.out)).setCell ⟨T2, 8, none⟩ (.int .i64 0) (Or.inr G_T2.out)).setCell ⟨T2, 9, none⟩ (.int .i64 ma) (Or.inr G_T2.out)).setCell ⟨T2, 10, none⟩ (.int .i64 mb) (Or.inr G_T2.out)).setCell ⟨T2, 11, none⟩ (.int .i64 mc) (Or.inr G_T2.out)).setCell ⟨T2, 12, none⟩ (.int .i64 md) (Or.inr G_T2.out)).setCell ⟨T2, 13, none⟩ (.int .i64 1) (Or.inr G_T2.out)).setCell ⟨T2, 14, none⟩ (.int .i64 2) (Or.inr G_T2.out))
    rw [V_V4] at Zk
    replace B_T2 := Lib.hid Z_T2
    replace B_b34 := Lib.hid Z_b34
    replace KW := Lib.hid Zk
    clear Zk Z_T2 Z_b34
    have c_V4_T2_0 : V4.cell? ⟨T2, 0, none⟩ = some (.int .i64 2) := cell_of B_T2.out 0
    have c_V4_T2_1 : V4.cell? ⟨T2, 1, none⟩ = some (.int .i64 1) := cell_of B_T2.out 1
    have c_V4_T2_2 : V4.cell? ⟨T2, 2, none⟩ = some (.int .i64 s1) := cell_of B_T2.out 2
    have c_V4_T2_3 : V4.cell? ⟨T2, 3, none⟩ = some (.int .i64 s2) := cell_of B_T2.out 3
    have c_V4_T2_4 : V4.cell? ⟨T2, 4, none⟩ = some (.int .i64 y1) := cell_of B_T2.out 4
    have c_V4_T2_5 : V4.cell? ⟨T2, 5, none⟩ = some (.int .i64 y2) := cell_of B_T2.out 5
    have c_V4_T2_6 : V4.cell? ⟨T2, 6, none⟩ = some (.int .i64 1) := cell_of B_T2.out 6
    have c_V4_T2_7 : V4.cell? ⟨T2, 7, none⟩ = some (.int .i64 1) := cell_of B_T2.out 7
    have c_V4_T2_8 : V4.cell? ⟨T2, 8, none⟩ = some (.int .i64 0) := cell_of B_T2.out 8
    have c_V4_T2_9 : V4.cell? ⟨T2, 9, none⟩ = some (.int .i64 ma) := cell_of B_T2.out 9
    have c_V4_T2_10 : V4.cell? ⟨T2, 10, none⟩ = some (.int .i64 mb) := cell_of B_T2.out 10
    have c_V4_T2_11 : V4.cell? ⟨T2, 11, none⟩ = some (.int .i64 mc) := cell_of B_T2.out 11
    have c_V4_T2_12 : V4.cell? ⟨T2, 12, none⟩ = some (.int .i64 md) := cell_of B_T2.out 12
    have c_V4_T2_13 : V4.cell? ⟨T2, 13, none⟩ = some (.int .i64 1) := cell_of B_T2.out 13
    have c_V4_T2_14 : V4.cell? ⟨T2, 14, none⟩ = some (.int .i64 2) := cell_of B_T2.out 14
    have l_V4_T2 := heap_lt B_T2.out
    have c_V4_b34_0 : V4.cell? ⟨b34, 0, none⟩ = some (.int .i64 2) := cell_of B_b34.out 0
    have c_V4_b34_1 : V4.cell? ⟨b34, 1, none⟩ = some (.int .i64 1) := cell_of B_b34.out 1
    have c_V4_b34_2 : V4.cell? ⟨b34, 2, none⟩ = some (.int .i64 s1) := cell_of B_b34.out 2
    have c_V4_b34_3 : V4.cell? ⟨b34, 3, none⟩ = some (.int .i64 s2) := cell_of B_b34.out 3
    have c_V4_b34_4 : V4.cell? ⟨b34, 4, none⟩ = some (.int .i64 y1) := cell_of B_b34.out 4
    have c_V4_b34_5 : V4.cell? ⟨b34, 5, none⟩ = some (.int .i64 y2) := cell_of B_b34.out 5
    have c_V4_b34_6 : V4.cell? ⟨b34, 6, none⟩ = some (.int .i64 1) := cell_of B_b34.out 6
    have c_V4_b34_7 : V4.cell? ⟨b34, 7, none⟩ = some (.int .i64 1) := cell_of B_b34.out 7
    have c_V4_b34_8 : V4.cell? ⟨b34, 8, none⟩ = some (.int .i64 0) := cell_of B_b34.out 8
    have c_V4_b34_9 : V4.cell? ⟨b34, 9, none⟩ = some (.int .i64 ma) := cell_of B_b34.out 9
    have c_V4_b34_10 : V4.cell? ⟨b34, 10, none⟩ = some (.int .i64 mb) := cell_of B_b34.out 10
    have c_V4_b34_11 : V4.cell? ⟨b34, 11, none⟩ = some (.int .i64 mc) := cell_of B_b34.out 11
    have c_V4_b34_12 : V4.cell? ⟨b34, 12, none⟩ = some (.int .i64 md) := cell_of B_b34.out 12
    have c_V4_b34_13 : V4.cell? ⟨b34, 13, none⟩ = some (.int .i64 1) := cell_of B_b34.out 13
    have c_V4_b34_14 : V4.cell? ⟨b34, 14, none⟩ = some (.int .i64 2) := cell_of B_b34.out 14
    have l_V4_b34 := heap_lt B_b34.out
    go_wp2_with fail
    refine bodyPost_ret (by simp [results, Tryz.results13, go_sem, *]; try rfl) rfl ?_
    exact ⟨⟨y1, y2, ma, mb, mc, md, 2, rfl⟩, KW.out⟩
end
end Go.Proofs.YtgfbfklnhmndfaaGreat
