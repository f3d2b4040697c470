/- The parts of the top that the law of early release walks through: part 15 of 52. -/
import Derived.Test.YtgfbfklnhmndfaaGreatA1
import Derived.Test.YtgfbfklnhmndfaaGreatA3
import Derived.Test.YtgfbfklnhmndfaaGreatA9
import Derived.Test.YtgfbfklnhmndfaaGreatA10
import Derived.Test.YtgfbfklnhmndfaaGreatA12
import Derived.Test.YtgfbfklnhmndfaaGreatA14
namespace Go.Proofs.YtgfbfklnhmndfaaGreat
open Go.RowKit
set_option linter.unusedSimpArgs false
set_option linter.unusedVariables false
section
attribute [local go_sem ↓] setCell_drewN alloc_drewN grow_cell grow_frozen setCell_grow grow_size cell_alloc_grow frozen_alloc_grow setCell_alloc_grow cell_grow_alloc_grow frozen_grow_alloc_grow setCell_grow_alloc_grow grow_grow
attribute [local go_sem] lt_len
theorem info_of {p : Program} {t : TypeId} {z : Value} {s : Nat} (h : (p.info? t).map (fun i => (i.zero, i.size, decide (i.bytes ≤ 10000))) = some (some z, s, true)) : ∃ i, p.info? t = some i ∧ i.zero = some z ∧ i.size = s ∧ i.bytes ≤ 10000 := by
  cases hi : p.info? t with
  | none => rw [hi] at h; cases h
  | some i =>
    rw [hi] at h
    simp only [Option.map_some, Option.some.injEq, Prod.mk.injEq, decide_eq_true_eq] at h
    exact ⟨i, rfl, h.1, h.2.1, h.2.2⟩
theorem cell_new' {w : World} {cs : Array Value} {t : TypeId} {n j : Nat} (h : w.heap.size = n) : (w.alloc (.cells cs t)).cell? ⟨n, j, none⟩ = cs[j]? := by
  subst h
  exact cell_of heap_alloc_new j
/-- A number's worth. -/
def iv : Value → Int
  | .int _ a => a
  | _ => 0
theorem infoTask : (Tryz.prog.info? 143).map (fun i => (i.zero, i.size, decide (i.bytes ≤ 10000))) = some (some (.agg #[.int .i64 0, .int .i64 0, .int .i64 0, .bool false, .bool false, .bool false, .bool false, .int .i64 0, .int .i64 0, .bool false, .int .i64 0]), 11, true) := by kernel_rfl
/-- A task's cells. -/
abbrev taskL (id e p : Int) (act : Bool) (rel got cnt : Int) (rest : List Value) : List Value :=
  .int .i64 id :: .int .i64 e :: .int .i64 p :: .bool false :: .bool false :: .bool false :: .bool act :: .int .i64 rel :: .int .i64 got :: .bool false :: .int .i64 cnt :: rest
/-- A task. -/
abbrev taskV (id e p : Int) (act : Bool) (rel got cnt : Int) : Value := .agg #[.int .i64 id, .int .i64 e, .int .i64 p, .bool false, .bool false, .bool false, .bool act, .int .i64 rel, .int .i64 got, .bool false, .int .i64 cnt]
/-- Jobs of which one is there. -/
structure JobsAt (w : World) (j s M L n : Nat) (id e p : Int) (act : Bool) (rel got cnt : Int) (rest : List Value) : Prop where
  hj : w.heap[j]? = some (.cells #[.pointer (some ⟨s, 0, none⟩), .slice (some ⟨L, 0, none⟩) n n] 97 (0, 0))
  hs : ∃ a b d, w.heap[s]? = some (.cells #[a, b, .map (some M), d] 133 (0, 0))
  hM : w.heap[M]? = some (.map #[{ key := .int .i64 id, val := .int .i64 0, born := 0 }] 1)
  hL : w.heap[L]? = some (.cells (taskL id e p act rel got cnt rest).toArray 143 (0, 0))
  hn : 0 < n
  hid : (Lit.int .i64 id).wf = true
theorem JobsAt.kept {S : List Nat} {w w' : World} {j s M L n : Nat} {id e p : Int} {act : Bool} {rel got cnt : Int} {rest : List Value} (h : JobsAt w j s M L n id e p act rel got cnt rest) (hk : Kept S w w') (h1 : j ∉ S) (h2 : s ∉ S) (h3 : M ∉ S) (h4 : L ∉ S) : JobsAt w' j s M L n id e p act rel got cnt rest := by
  obtain ⟨a, b, d, hs⟩ := h.hs
  exact ⟨hk.at h.hj h1, ⟨a, b, d, hk.at hs h2⟩, hk.at h.hM h3, hk.at h.hL h4, h.hn, h.hid⟩
theorem JobsAt.kept0 {w w' : World} {j s M L n : Nat} {id e p : Int} {act : Bool} {rel got cnt : Int} {rest : List Value} (h : JobsAt w j s M L n id e p act rel got cnt rest) (hk : Kept [] w w') : JobsAt w' j s M L n id e p act rel got cnt rest :=
  h.kept hk (by simp) (by simp) (by simp) (by simp)
theorem get51 {w : World} {j s M L n : Nat} {id e p : Int} {act : Bool} {rel got cnt : Int} {rest : List Value} (h : JobsAt w j s M L n id e p act rel got cnt rest) :
    Calls Tryz.prog 51 #[.pointer (some ⟨j, 0, none⟩), .int .i64 id] w fun e' w' => e' = .returned (.pointer (some ⟨L, 0, none⟩)) ∧ w = w' := by
  obtain ⟨a, b, d, hs⟩ := h.hs
  have G := Get79_one s M 1 0 a b d id 0 w hs h.hM
  have c0 : w.cell? ⟨j, 0, none⟩ = some (.pointer (some ⟨s, 0, none⟩)) := cell_of h.hj 0
  have c1 : w.cell? ⟨j, 1, none⟩ = some (.slice (some ⟨L, 0, none⟩) n n) := cell_of h.hj 1
  have hl := heap_lt h.hj
  have hd : decide ((0 : Int) ≥ n) = false := by have := h.hn; simp; omega
  have hn := h.hn
  clear h hs
  go_enter Tryz.func51, Tryz.ntmps51
  go_wp2_with fail
  refine G.mono ?_
  rintro e w1 ⟨rfl, rfl⟩
  go_wp2_with fail
  go_returns
  exact ⟨rfl, rfl⟩
theorem IDs26 {w : World} {j s M L n : Nat} {id e p : Int} {act : Bool} {rel got cnt : Int} {rest : List Value} (h : JobsAt w j s M L n id e p act rel got cnt rest) :
    Calls Tryz.prog 26 #[.pointer (some ⟨j, 0, none⟩)] w fun e w' => ∃ g cap, e = .returned (.slice (some ⟨g, 0, none⟩) 1 cap) ∧ w.heap.size ≤ g ∧ w'.heap.size > g ∧ w'.cell? ⟨g, 0, none⟩ = some (.int .i64 id) ∧ Kept [] w w' := by
  obtain ⟨a, b, d, hs⟩ := h.hs
  have G := IDs42 s M 1 0 a b d _ id h.hid (by omega) w hs h.hM
  have c0 : w.cell? ⟨j, 0, none⟩ = some (.pointer (some ⟨s, 0, none⟩)) := cell_of h.hj 0
  have hl := heap_lt h.hj
  clear h hs
  go_enter Tryz.func26, Tryz.ntmps26
  go_wp2_with fail
  refine G.mono ?_
  rintro e w1 ⟨g, cap, rfl, h1, h2, h3, h4⟩
  have hS := Lib.hid (And.intro h1 (And.intro h2 (And.intro h3 h4)))
  clear h1 h2 h3 h4 G
  go_wp2_with fail
  go_returns
  obtain ⟨h1, h2, h3, h4⟩ := hS.out
  exact ⟨g, cap, rfl, h1, h2, h3, h4⟩
theorem Task50 {w : World} {j s M L n : Nat} {id e p : Int} {act : Bool} {rel got cnt : Int} {rest : List Value} (h : JobsAt w j s M L n id e p act rel got cnt rest) :
    Calls Tryz.prog 50 #[.pointer (some ⟨j, 0, none⟩), .int .i64 id] w fun e' w' => e' = .returned (.tuple #[taskV id e p act rel got cnt, .bool true]) ∧ Kept [] w w' := by
  have hL := h.hL
  have hl := heap_lt hL
  have G := fun w2 (hk : Kept [] w w2) => get51 (h.kept0 hk)
  have K1 : Kept [] w (w.alloc (.cells #[.int .i64 0, .int .i64 0, .int .i64 0, .bool false, .bool false, .bool false, .bool false, .int .i64 0, .int .i64 0, .bool false, .int .i64 0] 143)) := (Kept.refl _ _).alloc _
  replace G := G _ K1
  have c0 : w.cell? ⟨L, 0, none⟩ = some (.int .i64 id) := cell_of hL 0
  have c1 : w.cell? ⟨L, 1, none⟩ = some (.int .i64 e) := cell_of hL 1
  have c2 : w.cell? ⟨L, 2, none⟩ = some (.int .i64 p) := cell_of hL 2
  have c3 : w.cell? ⟨L, 3, none⟩ = some (.bool false) := cell_of hL 3
  have c4 : w.cell? ⟨L, 4, none⟩ = some (.bool false) := cell_of hL 4
  have c5 : w.cell? ⟨L, 5, none⟩ = some (.bool false) := cell_of hL 5
  have c6 : w.cell? ⟨L, 6, none⟩ = some (.bool act) := cell_of hL 6
  have c7 : w.cell? ⟨L, 7, none⟩ = some (.int .i64 rel) := cell_of hL 7
  have c8 : w.cell? ⟨L, 8, none⟩ = some (.int .i64 got) := cell_of hL 8
  have c9 : w.cell? ⟨L, 9, none⟩ = some (.bool false) := cell_of hL 9
  have c10 : w.cell? ⟨L, 10, none⟩ = some (.int .i64 cnt) := cell_of hL 10
  clear hL h K1
  go_enter Tryz.func50, Tryz.ntmps50
  go_wp2_with fail
  refine G.mono ?_
  rintro e' w1 ⟨rfl, rfl⟩
  go_wp2_with fail
  go_returns
  exact ⟨rfl, (Kept.refl _ _).alloc _⟩
theorem All85 {w : World} {j s M L n : Nat} {id e p : Int} {act : Bool} {rel got cnt : Int} {rest : List Value} (h : JobsAt w j s M L n id e p act rel got cnt rest) : Calls Tryz.prog 85 #[.pointer (some ⟨j, 0, none⟩)] w fun e' w' => ∃ g cap cur, e' = .returned (.slice (some ⟨g, 0, none⟩) 1 cap) ∧ w.heap.size ≤ g ∧ w'.heap[g]? = some (.cells (taskL id e p act rel got cnt cur).toArray 143 (0, 0)) ∧ 1 ≤ cap ∧ Kept [] w w' := by
  have I := IDs26 h
  obtain ⟨i0, hi, hz0, hz1, hby⟩ := info_of infoTask
  go_enter Tryz.func85, Tryz.ntmps85
  go_wp2_with fail
  refine I.mono ?_
  rintro e' w1 ⟨g, cap, rfl, hg, hg1, hc, hk⟩
  have h1 := h.kept0 hk
  have hS := Lib.hid (And.intro hg hk)
  clear I hg hk h
  go_wp2_with fail
  go_loopw [3, 5, 9] (fun out x i wr => (out = .slice none 0 0 ∧ i = .int .i64 0 ∧ wr = w1) ∨ (∃ v, out = v ∧ i = .int .i64 1 ∧ wr.ownsRow 0 143 11 v 1 (taskL id e p act rel got cnt []) ∧ (∃ G, v.ownBlock = some G ∧ w1.heap.size ≤ G) ∧ Kept [] w1 wr)) (fun _ _ i _ => 1 - (iv i).toNat)
  case atStart => exact Or.inl ⟨rfl, rfl, rfl⟩
  case round =>
    rcases hrel with ⟨rfl, rfl, rfl⟩ | ⟨v, rfl, rfl, hrow, hG, hk1⟩
    · have G := get51 h1
      have hL := h1.hL
      have hl := heap_lt hL
      have c0 : wr.cell? ⟨L, 0, none⟩ = some (.int .i64 id) := cell_of hL 0
      have c1 : wr.cell? ⟨L, 1, none⟩ = some (.int .i64 e) := cell_of hL 1
      have c2 : wr.cell? ⟨L, 2, none⟩ = some (.int .i64 p) := cell_of hL 2
      have c3 : wr.cell? ⟨L, 3, none⟩ = some (.bool false) := cell_of hL 3
      have c4 : wr.cell? ⟨L, 4, none⟩ = some (.bool false) := cell_of hL 4
      have c5 : wr.cell? ⟨L, 5, none⟩ = some (.bool false) := cell_of hL 5
      have c6 : wr.cell? ⟨L, 6, none⟩ = some (.bool act) := cell_of hL 6
      have c7 : wr.cell? ⟨L, 7, none⟩ = some (.int .i64 rel) := cell_of hL 7
      have c8 : wr.cell? ⟨L, 8, none⟩ = some (.int .i64 got) := cell_of hL 8
      have c9 : wr.cell? ⟨L, 9, none⟩ = some (.bool false) := cell_of hL 9
      have c10 : wr.cell? ⟨L, 10, none⟩ = some (.int .i64 cnt) := cell_of hL 10
      replace hL := Lib.hid hL
      replace h1 := Lib.hid h1
      go_wp2_with fail
      refine G.mono ?_
      rintro e' w2 ⟨rfl, rfl⟩
      go_wp2_with (at_builtin; refine wpList_app rfl _ _ rfl Tryz.underlying95 hi hz0 hz1 rfl rfl (by decide) _ _ _ rfl (Or.inl ⟨none, rfl, rfl, rfl⟩) wr.heap.size 1 1 (taskL id e p act rel got cnt []) rfl rfl ?c1 ?c2 (by decide) (by decide) hby ?_)
      case c1 => intro j u hj; rw [cell_of heap_alloc_new j, ← hj]; simp
      case c2 => intro u hu; simp only [List.mem_cons, List.not_mem_nil, or_false] at hu; rcases hu with h | h | h | h | h | h | h | h | h | h | h <;> (subst h; rfl)
      intro v' w3 hown hk1 hat
      have hk2 : Kept [] wr w3 := Kept.trans ((Kept.refl [] wr).alloc _) hk1 (by simp) (by simp [own])
      obtain ⟨G', cap', rfl, hcap⟩ := row_elem hown (by omega)
      have hS2 := Lib.hid (And.intro hown (And.intro hat hk2))
      clear hown hk1 hat hk2 hcap
      go_wp2_with fail
      go_roundw
      case rel =>
        obtain ⟨a1, a2, a3⟩ := hS2.out
        refine Or.inr ⟨_, rfl, rfl, a1, ?_, a3⟩
        rcases a2 with ⟨a2, _⟩ | ⟨G, a2, a4⟩
        · cases a2
        · refine ⟨G, a2, ?_⟩
          first | omega | (simp at a4; omega)
      case measure => simp [iv]
    · obtain ⟨G', cap', rfl, hcap⟩ := row_elem hrow (by omega)
      have hS2 := Lib.hid (And.intro hrow (And.intro hG hk1))
      clear hrow hG hk1 hcap
      go_wp2_with fail
      go_returns
      obtain ⟨hrow, ⟨G, hG, hG2⟩, hk1⟩ := hS2.out
      obtain ⟨hg, hk⟩ := hS.out
      cases hG
      obtain ⟨r1, r2⟩ := hrow
      rcases r2 with ⟨_, r2⟩ | ⟨g', cap2, cur, r3, _, r4, r5, r6, r7, r8⟩
      · cases r2
      · cases r3
        have : cur = (taskL id e p act rel got cnt (cur.toList.drop 11)).toArray := by
          have h1 := List.take_append_drop 11 cur.toList
          have r8' : cur.toList.take 11 = taskL id e p act rel got cnt [] := r8
          rw [r8'] at h1
          apply Array.ext'
          rw [← h1]
          simp
        refine ⟨_, _, cur.toList.drop 11, rfl, (by have := hk.1; have h2 : w1.heap.size ≤ G' := hG2; omega), by rw [← this]; exact r4, r5, Kept.trans hk hk1 (by simp) (by simp)⟩
theorem Give88 {w : World} {j s M L n : Nat} {id e p : Int}  {rel got cnt : Int} {rest : List Value} (h : JobsAt w j s M L n id e p true rel got cnt rest) (hge : got ≠ e) (hg0 : 0 ≤ got) (hg1 : got < 2147483648) :
    Calls Tryz.prog 88 #[.pointer (some ⟨j, 0, none⟩), .int .i64 id] w fun e' w' => e' = .returned (.bool true) ∧ Kept [L] w w' ∧ w'.heap[L]? = some (.cells (taskL id e p true rel (got + 1) cnt rest).toArray 143 (0, 0)) := by
  have hL := h.hL
  have hl := heap_lt hL
  have G := get51 h
  have hw : IntKind.i64.wrap (got + 1) = got + 1 := IntWalk.i64_in _ (by omega)
  have hb : (got == e) = false := by simpa using hge
  have c1 : w.cell? ⟨L, 1, none⟩ = some (.int .i64 e) := cell_of hL 1
  have c6 : w.cell? ⟨L, 6, none⟩ = some (.bool true) := cell_of hL 6
  have c8 : w.cell? ⟨L, 8, none⟩ = some (.int .i64 got) := cell_of hL 8
  have f8 : w.frozen? ⟨L, 8, none⟩ = false := frozen_of hL 8
  replace hL := Lib.hid hL
  replace hge := Lib.hid hge
  clear h hg0 hg1
  go_enter Tryz.func88, Tryz.ntmps88
  go_wp2_with fail
  refine G.mono ?_
  rintro e' w2 ⟨rfl, rfl⟩
  go_wp2_with fail
  go_quiet (fail)
  go_wp2_with fail
  go_returns
  refine ⟨rfl, ((Kept.refl [L] w).setCell _ _ (Or.inl (by simp))).drewN _, ?_⟩
  show (w.setCell ⟨L, 8, none⟩ (.int .i64 (got + 1))).heap[L]? = _
  rw [heap_setCell hL.out]
  simp
theorem Release82_no {w : World} {j s M L n : Nat} {id e p : Int}  {rel got cnt : Int} {rest : List Value} (h : JobsAt w j s M L n id e p true rel got cnt rest) (clock : Int) :
    Calls Tryz.prog 82 #[.pointer (some ⟨j, 0, none⟩), .int .i64 clock] w fun e' w' => e' = .returned (.slice none 0 0) ∧ Kept [] w w' := by
  have I := IDs26 h
  go_enter Tryz.func82, Tryz.ntmps82
  go_wp2_with fail
  refine I.mono ?_
  rintro e' w1 ⟨g, cap, rfl, hg, hg1, hc, hk⟩
  have h1 := h.kept0 hk
  have hS := Lib.hid (And.intro hg hk)
  clear I hg hk h
  go_wp2_with fail
  go_loopw [5, 7, 8, 12] (fun out x y i wr => (out = .slice none 0 0 ∧ i = .int .i64 0 ∧ wr = w1) ∨ (out = .slice none 0 0 ∧ i = .int .i64 1 ∧ Kept [] w1 wr)) (fun _ _ _ i _ => 1 - (iv i).toNat)
  case atStart => exact Or.inl ⟨rfl, rfl, rfl⟩
  case round =>
    rcases hrel with ⟨rfl, rfl, rfl⟩ | ⟨rfl, rfl, hk1⟩
    · have G := get51 h1
      have hL := h1.hL
      have hl := heap_lt hL
      have c3 : wr.cell? ⟨L, 3, none⟩ = some (.bool false) := cell_of hL 3
      have c5 : wr.cell? ⟨L, 5, none⟩ = some (.bool false) := cell_of hL 5
      have c6 : wr.cell? ⟨L, 6, none⟩ = some (.bool true) := cell_of hL 6
      replace hL := Lib.hid hL
      replace h1 := Lib.hid h1
      go_wp2_with fail
      refine G.mono ?_
      rintro e' w2 ⟨rfl, rfl⟩
      go_wp2_with fail
      all_goals try go_quiet (fail)
      all_goals go_wp2_with fail
      go_roundw
      case rel => exact Or.inr ⟨rfl, rfl, Kept.refl _ _⟩
      case measure => simp [iv]
    · replace hk1 := Lib.hid hk1
      go_wp2_with fail
      go_returns
      exact ⟨rfl, Kept.trans hS.out.2 hk1.out (by simp) (by simp)⟩
set_option maxHeartbeats 1000000 in
theorem Release82_yes {w : World} {j s M L n : Nat} {id e p : Int}  {rel got cnt : Int} {rest : List Value} (h : JobsAt w j s M L n id e p false rel got cnt rest) (clock : Int) (hc0 : 0 ≤ cnt) (hc1 : cnt < 2147483648) :
    Calls Tryz.prog 82 #[.pointer (some ⟨j, 0, none⟩), .int .i64 clock] w fun e' w' => ∃ g cap, e' = .returned (.slice (some ⟨g, 0, none⟩) 1 cap) ∧ w'.cell? ⟨g, 0, none⟩ = some (.int .i64 id) ∧ w.heap.size ≤ g ∧ g < w'.heap.size ∧ Kept [L] w w' ∧
      w'.heap[L]? = some (.cells (taskL id e p true clock 0 (cnt + 1) rest).toArray 143 (0, 0)) := by
  have I := IDs26 h
  obtain ⟨i0, hi, hz0, hz1, hz2⟩ := info_parts infoInt
  go_enter Tryz.func82, Tryz.ntmps82
  go_wp2_with fail
  refine I.mono ?_
  rintro e' w1 ⟨g, cap, rfl, hg, hg1, hc, hk⟩
  have h1 := h.kept0 hk
  have hS := Lib.hid (And.intro hg hk)
  clear I hg hk h
  go_wp2_with fail
  go_loopw [5, 7, 8, 12] (fun out x y i wr => (out = .slice none 0 0 ∧ i = .int .i64 0 ∧ wr = w1) ∨ (∃ v, out = v ∧ i = .int .i64 1 ∧ wr.ownsRow 0 3 1 v 1 [.int .i64 id] ∧ (∃ G, v.ownBlock = some G ∧ w1.heap.size ≤ G) ∧ Kept [L] w1 wr ∧ wr.heap[L]? = some (.cells (taskL id e p true clock 0 (cnt + 1) rest).toArray 143 (0, 0)))) (fun _ _ _ i _ => 1 - (iv i).toNat)
  case atStart => exact Or.inl ⟨rfl, rfl, rfl⟩
  case round =>
    rcases hrel with ⟨rfl, rfl, rfl⟩ | ⟨v, rfl, rfl, hrow, hG, hk1, hL1⟩
    · have G := get51 h1
      have hL := h1.hL
      have hl := heap_lt hL
      have hw : IntKind.i64.wrap (cnt + 1) = cnt + 1 := IntWalk.i64_in _ (by omega)
      have c0 : wr.cell? ⟨L, 0, none⟩ = some (.int .i64 id) := cell_of hL 0
      have c1 : wr.cell? ⟨L, 1, none⟩ = some (.int .i64 e) := cell_of hL 1
      have c2 : wr.cell? ⟨L, 2, none⟩ = some (.int .i64 p) := cell_of hL 2
      have c3 : wr.cell? ⟨L, 3, none⟩ = some (.bool false) := cell_of hL 3
      have c4 : wr.cell? ⟨L, 4, none⟩ = some (.bool false) := cell_of hL 4
      have c5 : wr.cell? ⟨L, 5, none⟩ = some (.bool false) := cell_of hL 5
      have c6 : wr.cell? ⟨L, 6, none⟩ = some (.bool false) := cell_of hL 6
      have c7 : wr.cell? ⟨L, 7, none⟩ = some (.int .i64 rel) := cell_of hL 7
      have c8 : wr.cell? ⟨L, 8, none⟩ = some (.int .i64 got) := cell_of hL 8
      have c9 : wr.cell? ⟨L, 9, none⟩ = some (.bool false) := cell_of hL 9
      have c10 : wr.cell? ⟨L, 10, none⟩ = some (.int .i64 cnt) := cell_of hL 10
      have f5 : wr.frozen? ⟨L, 5, none⟩ = false := frozen_of hL 5
      have f6 : wr.frozen? ⟨L, 6, none⟩ = false := frozen_of hL 6
      have f7 : wr.frozen? ⟨L, 7, none⟩ = false := frozen_of hL 7
      have f8 : wr.frozen? ⟨L, 8, none⟩ = false := frozen_of hL 8
      have f9 : wr.frozen? ⟨L, 9, none⟩ = false := frozen_of hL 9
      have f10 : wr.frozen? ⟨L, 10, none⟩ = false := frozen_of hL 10
      replace hL := Lib.hid hL
      replace h1 := Lib.hid h1
      go_wp2_with fail
      refine G.mono ?_
      rintro e' w2 ⟨rfl, rfl⟩
      go_wp2_with (at_builtin; refine wpList_app rfl _ _ rfl Tryz.underlying83 hi hz0 hz1 hz2 rfl (by decide) _ _ _ rfl (Or.inl ⟨none, rfl, rfl, rfl⟩) wr.heap.size 1 1 [.int .i64 id] rfl rfl ?c1 ?c2 (by decide) (by decide) (by decide) ?_)
      case c1 => intro j u hj; rw [cell_new' (by simp [size_setCell]), ← hj]; simp
      case c2 => intro u hu; simp at hu; subst hu; rfl
      intro v' w3 hown hk1 hat
      obtain ⟨G', cap', rfl, hcap⟩ := row_elem hown (by omega)
      have hS2 := Lib.hid (And.intro hown (And.intro hat hk1))
      clear hown hk1 hat hcap
      go_wp2_with fail
      go_roundw
      case rel =>
        obtain ⟨a1, a2, a3⟩ := hS2.out
        have e1 := heap_setCell (i := 5) (v := .bool false) hL.out
        have e2 := heap_setCell (i := 6) (v := .bool true) e1
        have e3 := heap_setCell (i := 7) (v := .int .i64 clock) e2
        have e4 := heap_setCell (i := 8) (v := .int .i64 0) e3
        have e5 := heap_setCell (i := 9) (v := .bool false) e4
        have e6 := heap_setCell (i := 10) (v := .int .i64 (cnt + 1)) e5
        have k6 := (((((((Kept.refl [L] wr).setCell ⟨L, 5, none⟩ (.bool false) (Or.inl (by simp))).setCell ⟨L, 6, none⟩ (.bool true) (Or.inl (by simp))).setCell ⟨L, 7, none⟩ (.int .i64 clock) (Or.inl (by simp))).setCell ⟨L, 8, none⟩ (.int .i64 0) (Or.inl (by simp))).setCell ⟨L, 9, none⟩ (.bool false) (Or.inl (by simp))).setCell ⟨L, 10, none⟩ (.int .i64 (cnt + 1)) (Or.inl (by simp))).alloc (.cells #[.int .i64 id] 3)
        refine Or.inr ⟨_, rfl, rfl, a1, ?_, Kept.trans k6 a3 (by simp) (by simp [own]), ?_⟩
        · rcases a2 with ⟨a2, _⟩ | ⟨G, a2, a4⟩
          · cases a2
          · refine ⟨G, a2, ?_⟩
            first | omega | (simp [size_setCell] at a4; omega)
        · refine a3.at (b := w3) ?_ (by simp [own])
          rw [heap_alloc (by simp [size_setCell]; first | done | exact hl), e6]
          simp
      case measure => simp [iv]
    · obtain ⟨G', cap', rfl, hcap, _, hcell, _, hlt⟩ := row_elem hrow (by omega)
      have hS2 := Lib.hid (And.intro (hcell 0 (by omega)) (And.intro hlt (And.intro hG (And.intro hk1 hL1))))
      clear hrow hG hk1 hcap hcell hlt hL1
      go_wp2_with fail
      go_returns
      obtain ⟨b1, b2, ⟨G, b3, b4⟩, b5, b6⟩ := hS2.out
      cases b3
      have b4' : w1.heap.size ≤ G' := b4
      have := hS.out.2.1
      exact ⟨_, _, rfl, b1, by omega, b2, Kept.trans hS.out.2 b5 (by simp) (fun x hx => Or.inl hx), b6⟩
end
section
attribute [local go_sem ↓] setCell_drewN alloc_drewN grow_cell grow_frozen setCell_grow grow_size cell_alloc_grow frozen_alloc_grow setCell_alloc_grow cell_grow_alloc_grow frozen_grow_alloc_grow setCell_grow_alloc_grow grow_grow
attribute [local go_sem] lt_len
/-- At the deadline, or ahead of it. -/
theorem Settle106_no {w : World} {j s M L n : Nat} {id e p : Int}  {rel got cnt : Int} {rest : List Value} (h : JobsAt w j s M L n id e p true rel got cnt rest) (clock : Int) (hr : 0 ≤ rel) (hr1 : rel < 4294967296) (hp : 0 ≤ p) (hp1 : p < 4294967296) (hc : rel + p > clock) :
    Calls Tryz.prog 106 #[.pointer (some ⟨j, 0, none⟩), .int .i64 clock] w fun e' w' => e' = .returned (.tuple #[.slice none 0 0, .int .i64 0]) ∧ Kept [] w w' := by
  have I := IDs26 h
  have hw : IntKind.i64.wrap (rel + p) = rel + p := IntWalk.i64_in _ (by omega)
  have hd : decide (rel + p > clock) = true := by simpa using hc
  clear hr hr1 hp hp1 hc
  go_enter Tryz.func106, Tryz.ntmps106
  go_wp2_with fail
  refine I.mono ?_
  rintro e' w1 ⟨g, cap, rfl, hg, hg1, hc, hk⟩
  have h1 := h.kept0 hk
  have hS := Lib.hid (And.intro hg hk)
  clear I hg hk h
  go_wp2_with fail
  go_loopw [6, 7, 9, 10, 14] (fun out ms x y i wr => (out = .slice none 0 0 ∧ ms = .int .i64 0 ∧ i = .int .i64 0 ∧ wr = w1) ∨ (out = .slice none 0 0 ∧ ms = .int .i64 0 ∧ i = .int .i64 1 ∧ Kept [] w1 wr)) (fun _ _ _ _ i _ => 1 - (iv i).toNat)
  case atStart => exact Or.inl ⟨rfl, rfl, rfl, rfl⟩
  case round =>
    rcases hrel with ⟨rfl, rfl, rfl, rfl⟩ | ⟨rfl, rfl, rfl, hk1⟩
    · have G := get51 h1
      have hL := h1.hL
      have hl := heap_lt hL
      have c2 : wr.cell? ⟨L, 2, none⟩ = some (.int .i64 p) := cell_of hL 2
      have c6 : wr.cell? ⟨L, 6, none⟩ = some (.bool true) := cell_of hL 6
      have c7 : wr.cell? ⟨L, 7, none⟩ = some (.int .i64 rel) := cell_of hL 7
      replace hL := Lib.hid hL
      replace h1 := Lib.hid h1
      go_wp2_with fail
      refine G.mono ?_
      rintro e' w2 ⟨rfl, rfl⟩
      go_wp2_with fail
      go_quiet (fail)
      go_wp2_with fail
      go_roundw
      case rel => exact Or.inr ⟨rfl, rfl, rfl, (Kept.refl _ _).drewN _⟩
      case measure => simp [iv]
    · replace hk1 := Lib.hid hk1
      go_wp2_with fail
      go_returns
      exact ⟨rfl, Kept.trans hS.out.2 hk1.out (by simp) (by simp)⟩
set_option maxHeartbeats 1000000 in
theorem Settle106_yes {w : World} {j s M L n : Nat} {id e p : Int}  {rel got cnt : Int} {rest : List Value} (h : JobsAt w j s M L n id e p true rel got cnt rest) (clock : Int) (hr : 0 ≤ rel) (hr1 : rel < 4294967296) (hp : 0 ≤ p) (hp1 : p < 4294967296) (hc : ¬ rel + p > clock) (ms : Int) (hms : ms = if got = e then 0 else 1) :
    Calls Tryz.prog 106 #[.pointer (some ⟨j, 0, none⟩), .int .i64 clock] w fun e' w' => e' = .returned (.tuple #[.slice none 0 0, .int .i64 ms]) ∧ Kept [L] w w' ∧
      w'.heap[L]? = some (.cells (taskL id e p false 0 0 cnt rest).toArray 143 (0, 0)) := by
  have I := IDs26 h
  replace hms := Lib.hid hms
  have hw : IntKind.i64.wrap (rel + p) = rel + p := IntWalk.i64_in _ (by omega)
  have hd : decide (rel + p > clock) = false := by simpa using hc
  clear hr hr1 hp hp1 hc
  go_enter Tryz.func106, Tryz.ntmps106
  go_wp2_with fail
  refine I.mono ?_
  rintro e' w1 ⟨g, cap, rfl, hg, hg1, hc, hk⟩
  have h1 := h.kept0 hk
  have hS := Lib.hid (And.intro hg hk)
  clear I hg hk h
  go_wp2_with fail
  go_loopw [6, 7, 9, 10, 14] (fun out mv x y i wr => (out = .slice none 0 0 ∧ mv = .int .i64 0 ∧ i = .int .i64 0 ∧ wr = w1) ∨ (out = .slice none 0 0 ∧ mv = .int .i64 ms ∧ i = .int .i64 1 ∧ Kept [L] w1 wr ∧ wr.heap[L]? = some (.cells (taskL id e p false 0 0 cnt rest).toArray 143 (0, 0)))) (fun _ _ _ _ i _ => 1 - (iv i).toNat)
  case atStart => exact Or.inl ⟨rfl, rfl, rfl, rfl⟩
  case round =>
    rcases hrel with ⟨rfl, rfl, rfl, rfl⟩ | ⟨rfl, rfl, rfl, hk1, hL1⟩
    · have G := get51 h1
      have hL := h1.hL
      have hl := heap_lt hL
      have c0 : wr.cell? ⟨L, 0, none⟩ = some (.int .i64 id) := cell_of hL 0
      have c1 : wr.cell? ⟨L, 1, none⟩ = some (.int .i64 e) := cell_of hL 1
      have c2 : wr.cell? ⟨L, 2, none⟩ = some (.int .i64 p) := cell_of hL 2
      have c3 : wr.cell? ⟨L, 3, none⟩ = some (.bool false) := cell_of hL 3
      have c4 : wr.cell? ⟨L, 4, none⟩ = some (.bool false) := cell_of hL 4
      have c5 : wr.cell? ⟨L, 5, none⟩ = some (.bool false) := cell_of hL 5
      have c6 : wr.cell? ⟨L, 6, none⟩ = some (.bool true) := cell_of hL 6
      have c7 : wr.cell? ⟨L, 7, none⟩ = some (.int .i64 rel) := cell_of hL 7
      have c8 : wr.cell? ⟨L, 8, none⟩ = some (.int .i64 got) := cell_of hL 8
      have c9 : wr.cell? ⟨L, 9, none⟩ = some (.bool false) := cell_of hL 9
      have c10 : wr.cell? ⟨L, 10, none⟩ = some (.int .i64 cnt) := cell_of hL 10
      have f6 : wr.frozen? ⟨L, 6, none⟩ = false := frozen_of hL 6
      have f7 : wr.frozen? ⟨L, 7, none⟩ = false := frozen_of hL 7
      have f8 : wr.frozen? ⟨L, 8, none⟩ = false := frozen_of hL 8
      have f9 : wr.frozen? ⟨L, 9, none⟩ = false := frozen_of hL 9
      have last : ∀ q, Kept [L] wr (((((wr.setCell ⟨L, 6, none⟩ (.bool false)).setCell ⟨L, 7, none⟩ (.int .i64 0)).setCell ⟨L, 8, none⟩ (.int .i64 0)).setCell ⟨L, 9, none⟩ (.bool false)).drewN q) ∧ (((((wr.setCell ⟨L, 6, none⟩ (.bool false)).setCell ⟨L, 7, none⟩ (.int .i64 0)).setCell ⟨L, 8, none⟩ (.int .i64 0)).setCell ⟨L, 9, none⟩ (.bool false)).drewN q).heap[L]? = some (.cells (taskL id e p false 0 0 cnt rest).toArray 143 (0, 0)) := fun q => by
        refine ⟨(((((Kept.refl [L] wr).setCell ⟨L, 6, none⟩ (.bool false) (Or.inl (by simp))).setCell ⟨L, 7, none⟩ (.int .i64 0) (Or.inl (by simp))).setCell ⟨L, 8, none⟩ (.int .i64 0) (Or.inl (by simp))).setCell ⟨L, 9, none⟩ (.bool false) (Or.inl (by simp))).drewN q, ?_⟩
        rw [heap_drewN, heap_setCell (heap_setCell (heap_setCell (heap_setCell hL)))]
        simp
      replace last := Lib.hid last
      replace hL := Lib.hid hL
      replace h1 := Lib.hid h1
      go_wp2_with fail
      refine G.mono ?_
      rintro e' w2 ⟨rfl, rfl⟩
      by_cases hge : got = e
      · have hb : (got != e) = false := by simpa using hge
        have hb2 : (e != e) = false := by simp
        subst hge
        go_wp2_with fail
        all_goals try go_quiet (fail)
        all_goals go_wp2_with fail
        all_goals try go_quiet (fail)
        all_goals go_wp2_with fail
        all_goals go_roundw
        case rel => exact Or.inr ⟨rfl, by rw [hms.out]; simp, rfl, last.out _⟩
        case measure => simp [iv]
      · have hb : (got != e) = true := by simpa using hge
        go_wp2_with fail
        all_goals try go_quiet (fail)
        all_goals go_wp2_with fail
        all_goals try go_quiet (fail)
        all_goals go_wp2_with fail
        all_goals go_roundw
        case rel => exact Or.inr ⟨rfl, by rw [hms.out]; simp [hge], rfl, last.out _⟩
        case measure => simp [iv]
    · replace hk1 := Lib.hid (And.intro hk1 hL1)
      clear hL1
      go_wp2_with fail
      go_returns
      exact ⟨rfl, Kept.trans hS.out.2 hk1.out.1 (by simp) (fun x hx => Or.inl hx), hk1.out.2⟩
end
end Go.Proofs.YtgfbfklnhmndfaaGreat
