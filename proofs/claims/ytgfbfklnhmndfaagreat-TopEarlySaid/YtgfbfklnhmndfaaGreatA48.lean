/- The parts of the top that the law of early release walks through: part 48 of 52. -/
import Derived.Test.YtgfbfklnhmndfaaGreatA1
import Derived.Test.YtgfbfklnhmndfaaGreatA3
import Derived.Test.YtgfbfklnhmndfaaGreatA4
import Derived.Test.YtgfbfklnhmndfaaGreatA9
import Derived.Test.YtgfbfklnhmndfaaGreatA10
import Derived.Test.YtgfbfklnhmndfaaGreatA12
import Derived.Test.YtgfbfklnhmndfaaGreatA13
import Derived.Test.YtgfbfklnhmndfaaGreatA15
import Derived.Test.YtgfbfklnhmndfaaGreatA16
import Derived.Test.YtgfbfklnhmndfaaGreatA20
import Derived.Test.YtgfbfklnhmndfaaGreatA21
import Derived.Test.YtgfbfklnhmndfaaGreatA23
import Derived.Test.YtgfbfklnhmndfaaGreatA24
import Derived.Test.YtgfbfklnhmndfaaGreatA27
import Derived.Test.YtgfbfklnhmndfaaGreatA29
import Derived.Test.YtgfbfklnhmndfaaGreatA30
import Derived.Test.YtgfbfklnhmndfaaGreatA32
import Derived.Test.YtgfbfklnhmndfaaGreatA33
import Derived.Test.YtgfbfklnhmndfaaGreatA35
import Derived.Test.YtgfbfklnhmndfaaGreatA36
import Derived.Test.YtgfbfklnhmndfaaGreatA37
import Derived.Test.YtgfbfklnhmndfaaGreatA41
import Derived.Test.YtgfbfklnhmndfaaGreatA42
import Derived.Test.YtgfbfklnhmndfaaGreatA46
namespace Go.Proofs.YtgfbfklnhmndfaaGreat
open Go.RowKit
set_option linter.unusedSimpArgs false
set_option linter.unusedVariables false
section
attribute [local go_sem ↓] setCell_drewN alloc_drewN grow_cell grow_frozen setCell_grow grow_size cell_alloc_grow frozen_alloc_grow setCell_alloc_grow cell_grow_alloc_grow frozen_grow_alloc_grow setCell_grow_alloc_grow grow_grow
attribute [local go_sem] lt_len size_setCell
def endY (c : Pm) (d : Dy) (i : Nat) (v : Value) (lo hi : Nat) (w : World) : Prop := match i with
  | 0 => v = .pointer (some ⟨c.z.x, 0, none⟩)
  | 1 => v = .pointer (some ⟨c.z.x, 0, none⟩)
  | 2 => v = .pointer (some ⟨c.z.x, 9, none⟩)
  | 3 => v = .pointer (some ⟨c.z.s, 0, none⟩)
  | 4 => v = .pointer (some ⟨c.z.x, 0, none⟩)
  | 5 => v = .pointer (some ⟨c.z.x, 0, none⟩)
  | 6 => v = .pointer (some ⟨c.z.x, 7, none⟩)
  | 7 => v = .pointer (some ⟨c.z.j, 0, none⟩)
  | 8 => ∃ b, lo ≤ b ∧ b < hi ∧ ∃ cap cur, v = .slice (some ⟨b, 0, none⟩) 1 cap ∧ w.heap[b]? = some (.cells (taskL c.id c.e c.p true d.clock 0 (d.cnt + 1) cur).toArray 143 (0, 0))
  | 9 => v = .pointer (some ⟨c.z.x, 0, none⟩)
  | 10 => v = .pointer (some ⟨c.z.x, 0, none⟩)
  | 11 => v = .pointer (some ⟨c.z.x, 5, none⟩)
  | 12 => v = .int .i64 0
  | _ => True
theorem EX.feet_tgn {w : World} {c : Pm} {d : Dy} (h : EX w c d) {b k : Nat} (hb : b ∈ feet c d) (hk : k ∈ [104, 93, 54]) : tgW w b ≠ k := by
  simp only [List.mem_cons, List.not_mem_nil, or_false] at hk
  rcases List.mem_append.1 hb with hb | hb
  · simp only [blocks, List.mem_cons, List.not_mem_nil, or_false] at hb
    rcases hb with rfl | rfl | rfl | rfl | rfl | rfl | rfl | rfl | rfl | rfl | rfl | rfl | rfl | rfl | rfl | rfl
    · rw [h.tgx]; omega
    · rw [h.tgj]; omega
    · rw [h.tgs]; omega
    · rw [h.tgL]; omega
    · rw [h.tgq]; omega
    · rw [h.tgsp]; omega
    · rw [h.tgla]; omega
    · rw [h.tgbk]; omega
    · rw [h.tgrg]; omega
    · rw [h.tgrb]; omega
    · rw [h.tgm]; omega
    · rw [h.tgM]; omega
    · rw [h.tgT]; omega
    · rw [h.tgN]; omega
    · rw [h.tgwr]; omega
    · rw [h.tgls]; omega
  · have hb : d.all.ownBlock = some b := by simpa using hb
    rw [row_tg h.ha hb]
    omega
set_option maxHeartbeats 8000000 in
theorem release54_twin {w : World} {c : Pm} {d : Dy} (h : EX w c d) (hact : d.act = false) (hm : ModeIs c.mode true) (hc0 : 0 ≤ d.cnt) (hc1 : d.cnt < 2147483648) (hj0 : 0 ≤ d.jobs) (hj1 : d.jobs < 536870912) (hk1 : d.k < 1000000)
    (hid : c.id = 3) (he1 : c.e = 1) (hp1 : c.p = 2) (hclk : d.clock = 0) (hcnt : d.cnt = 0) (hse : w.heap[c.z.s]? = some (.cells #[.int .i64 1, .bool false, .int .i64 0, .slice none 0 0] 103 (0, 0))) :
    Calls Tryz.prog 54 #[pt c.z.x] w fun e' W => e' = .returned (.tuple #[]) ∧ ∃ all, EX W c { d with act := true, rel := d.clock, got := 0, cnt := d.cnt + 1, jobs := d.jobs + 1, all := all, k := d.k + 1, xs := d.xs ++ [.int .i64 c.id, .int .i64 d.clock, .int .i64 c.e, .int .i64 c.p] } ∧ Kept (c.z.s :: ([c.z.x, c.L, c.z.m, c.z.wr, c.z.ls] ++ own d.all)) w W ∧ (∀ g, all.ownBlock = some g → d.all.ownBlock = some g ∨ w.heap.size ≤ g) ∧ WrapAt W c.z.wr c.id 0 ∧
      ∃ Lp C cur', w.heap.size ≤ Lp ∧ W.heap[Lp]? = some (.cells (pieceL 3 0 3 0 1 1 1 false cur').toArray 53 (0, 0)) ∧ W.heap[c.z.s]? = some (.cells #[.int .i64 1, .bool true, .int .i64 2, .slice (some ⟨Lp, 0, none⟩) 1 C] 103 (0, 0)) := by
  have nse : c.z.s ∉ [c.z.x, c.L, c.z.m, c.z.wr, c.z.ls] ++ own d.all := by
    intro hin
    have hf : c.z.s ∈ feet c d := by
      rcases List.mem_append.1 hin with h1 | h1
      · simp only [List.mem_cons, List.not_mem_nil, or_false] at h1
        rcases h1 with h1 | h1 | h1 | h1 | h1 <;> (rw [h1]; simp [feet, blocks])
      · exact List.mem_append_right _ (by simp [own_sub_block h1])
    exact h.feet_tgn hf (k := 104) (by simp) (tg_cells hse)
  have OP : ∀ X, (∃ os q, Go.Proofs.YtgfbfklnhmndfaaGreat.grow w os q = X) → Calls Tryz.prog 81 #[pt c.z.s, .int .i64 0] X fun e' X' => e' = .returned (.bool true) ∧ ∃ os q, Go.Proofs.YtgfbfklnhmndfaaGreat.grow w os q = X' := by
    rintro X ⟨os, q, hX⟩
    refine (Open81_new c.z.s 0 _ 0 X ((kept_grow hX).at hse (by simp))).mono ?_
    rintro e' X' ⟨rfl, rfl⟩
    exact ⟨rfl, os, q, hX⟩
  have hclk' := Lib.hid hclk
  have hse' := Lib.hid (And.intro hse nse)
  have eqs := Lib.hid (And.intro hid (And.intro he1 (And.intro hp1 (And.intro hclk hcnt))))
  clear hid he1 hp1 hcnt hse nse
  have S30 := slices30S (V := w) h.hx hm
  have R := fun (X : World) (hk : Kept [] w X) => Release82_yes (by have := (h.kept0 hk).hJ; rw [hact] at this; exact this) d.clock hc0 hc1
  have hx := h.hx
  unfold XAt at hx
  have x9 : w.cell? ⟨c.z.x, 9, none⟩ = some (.pointer (some ⟨c.z.s, 0, none⟩)) := cell_of hx 9
  have x5 : w.cell? ⟨c.z.x, 5, none⟩ = some (.int .i64 0) := by
    rw [← hclk]
    exact cell_of hx 5
  clear hclk
  replace h := Lib.hid h
  have lx := heap_lt hx
  have hx' := Lib.hid hx
  clear hx
  replace hc0 := Lib.hid hc0
  replace hc1 := Lib.hid hc1
  replace hj0 := Lib.hid hj0
  replace hj1 := Lib.hid hj1
  replace hk1 := Lib.hid hk1
  go_enter Tryz.func54, Tryz.ntmps54
  go_wp2_with fail
  refine sBegin (fun X => ∃ os q, Go.Proofs.YtgfbfklnhmndfaaGreat.grow w os q = X) 14 (by kernel_rfl) (gr_drew (gr_refl _)) ?_
  refine sTake (i := 0) (v := ?_) rfl (by kernel_rfl) (fun _ _ _ h => h) (gLoad (by rfl) ?_) ?_
  rotate_left 1
  · intro W hW; (try dsimp only at hW); obtain ⟨os', q', hW'⟩ := hW; subst hW'; go_simp; all_goals with_reducible rfl
  try simp only [Act.put, zA, zB, zC]
  refine sTake (i := 1) rfl (by kernel_rfl) (fun _ _ _ h => h) (gCall (by rfl) ?_ (fun W hW => S30 W hW)) ?_
  · intro W hW; go_simp; all_goals with_reducible rfl
  try simp only [Act.put, zA, zB, zC]
  refine sTake (i := 2) (v := ?_) rfl (by kernel_rfl) (fun _ _ _ h => h) (gLoad (by rfl) ?_) ?_
  rotate_left 1
  · intro W hW; (try dsimp only at hW); obtain ⟨os', q', hW'⟩ := hW; subst hW'; go_simp; all_goals with_reducible rfl
  try simp only [Act.put, zA, zB, zC]
  refine sTake (i := 3) (v := ?_) rfl (by kernel_rfl) (fun _ _ _ h => h) (gLoad (by rfl) ?_) ?_
  rotate_left 1
  · intro W hW; (try dsimp only at hW); obtain ⟨os', q', hW'⟩ := hW; subst hW'; go_simp; all_goals with_reducible rfl
  try simp only [Act.put, zA, zB, zC]
  refine sTake (i := 4) (v := ?_) rfl (by kernel_rfl) (fun _ _ _ h => h) (gLoad (by rfl) ?_) ?_
  rotate_left 1
  · intro W hW; (try dsimp only at hW); obtain ⟨os', q', hW'⟩ := hW; subst hW'; go_simp; all_goals with_reducible rfl
  try simp only [Act.put, zA, zB, zC]
  refine sTake (i := 5) (v := ?_) rfl (by kernel_rfl) (fun _ _ _ h => h) (gLoad (by rfl) ?_) ?_
  rotate_left 1
  · intro W hW; (try dsimp only at hW); obtain ⟨os', q', hW'⟩ := hW; subst hW'; go_simp; all_goals with_reducible rfl
  try simp only [Act.put, zA, zB, zC]
  refine sTake (i := 6) (v := ?_) rfl (by kernel_rfl) (fun _ _ _ h => h) (gLoad (by rfl) ?_) ?_
  rotate_left 1
  · intro W hW; (try dsimp only at hW); obtain ⟨os', q', hW'⟩ := hW; subst hW'; go_simp; all_goals with_reducible rfl
  try simp only [Act.put, zA, zB, zC]
  refine sTake (i := 7) (v := ?_) rfl (by kernel_rfl) (fun _ _ _ h => h) (gLoad (by rfl) ?_) ?_
  rotate_left 1
  · intro W hW; (try dsimp only at hW); obtain ⟨os', q', hW'⟩ := hW; subst hW'; go_simp; all_goals with_reducible rfl
  try simp only [Act.put, zA, zB, zC]
  refine sTake (i := 8) (v := ?_) rfl (by kernel_rfl) (fun _ _ _ h => h) (gLoad (by rfl) ?_) ?_
  rotate_left 1
  · intro W hW; (try dsimp only at hW); obtain ⟨os', q', hW'⟩ := hW; subst hW'; go_simp; all_goals with_reducible rfl
  try simp only [Act.put, zA, zB, zC]
  refine sTake (i := 9) (v := ?_) rfl (by kernel_rfl) (fun _ _ _ h => h) (gLoad (by rfl) ?_) ?_
  rotate_left 1
  · intro W hW; (try dsimp only at hW); obtain ⟨os', q', hW'⟩ := hW; subst hW'; go_simp; all_goals with_reducible rfl
  try simp only [Act.put, zA, zB, zC]
  refine sTake (i := 10) (v := ?_) rfl (by kernel_rfl) (fun _ _ _ h => h) (gLoad (by rfl) ?_) ?_
  rotate_left 1
  · intro W hW; (try dsimp only at hW); obtain ⟨os', q', hW'⟩ := hW; subst hW'; go_simp; all_goals with_reducible rfl
  try simp only [Act.put, zA, zB, zC]
  refine sTake (i := 11) rfl (by kernel_rfl) (fun _ _ _ h => h) (gCall (by rfl) ?_ (fun W hW => OP W hW)) ?_
  · intro W hW; go_simp; all_goals with_reducible rfl
  try simp only [Act.put, zA, zB, zC]
  refine sTake (i := 12) (v := ?_) rfl (by kernel_rfl) (fun _ _ _ h => h) (gLoad (by rfl) ?_) ?_
  rotate_left 1
  · intro W hW; (try dsimp only at hW); obtain ⟨os', q', hW'⟩ := hW; subst hW'; go_simp; all_goals with_reducible rfl
  try simp only [Act.put, zA, zB, zC]
  refine sTake (i := 13) (v := ?_) rfl (by kernel_rfl) (fun _ _ _ h => h) (gLoad (by rfl) ?_) ?_
  rotate_left 1
  · intro W hW; (try dsimp only at hW); obtain ⟨os', q', hW'⟩ := hW; subst hW'; go_simp; all_goals with_reducible rfl
  try simp only [Act.put, zA, zB, zC]
  refine sDone (by kernel_rfl) ?_
  intro V hV
  obtain ⟨os1, q1, hV⟩ := hV
  have kV := kept_grow hV
  have hx := kV.at hx'.out (by simp)
  have c7 : V.cell? ⟨c.z.x, 7, none⟩ = some (.pointer (some ⟨c.z.j, 0, none⟩)) := cell_of hx 7
  have c5 : V.cell? ⟨c.z.x, 5, none⟩ = some (.int .i64 d.clock) := cell_of hx 5
  have lx := heap_lt hx
  have R1 := R V.drew (kV.drew)
  replace kV := Lib.hid kV
  clear hV hx R S30 hx' OP x9 x5
  go_wp2_with fail
  refine wp_region_any (by kernel_rfl) ?_
  rw [List.size_toArray]
  refine yTake (i := 10) rfl (by kernel_rfl) (fun _ _ _ h => h) (by rfl) (fun _ => by go_simp; first | done | rfl) ?_
  try simp only [Act.put, zA, zB, zC]
  refine wpAnyS_any (S := fun X => X = V.drew) (k := 8) _ _ _ ?_ _ rfl
  refine sTake (i := 0) rfl (by kernel_rfl) (fun _ _ _ h => h) (gLoad (by rfl) (fun W hW => by (try dsimp only at hW); subst hW; go_simp; first | done | rfl)) ?_
  try simp only [Act.put, zA, zB, zC]
  refine sTake (i := 1) rfl (by kernel_rfl) (fun _ _ _ h => h) (gLoad (by rfl) (fun W hW => by (try dsimp only at hW); subst hW; go_simp; first | done | rfl)) ?_
  try simp only [Act.put, zA, zB, zC]
  refine sTake (i := 2) rfl (by kernel_rfl) (fun _ _ _ h => h) (gLoad (by rfl) (fun W hW => by (try dsimp only at hW); subst hW; go_simp; first | done | rfl)) ?_
  try simp only [Act.put, zA, zB, zC]
  refine sTake (i := 3) rfl (by kernel_rfl) (fun _ _ _ h => h) (gLoad (by rfl) (fun W hW => by (try dsimp only at hW); subst hW; go_simp; first | done | rfl)) ?_
  try simp only [Act.put, zA, zB, zC]
  refine sTake (i := 4) rfl (by kernel_rfl) (fun _ _ _ h => h) (gLoad (by rfl) (fun W hW => by (try dsimp only at hW); subst hW; go_simp; first | done | rfl)) ?_
  try simp only [Act.put, zA, zB, zC]
  refine sTake (i := 5) rfl (by kernel_rfl) (fun _ _ _ h => h) (gLoad (by rfl) (fun W hW => by (try dsimp only at hW); subst hW; go_simp; first | done | rfl)) ?_
  try simp only [Act.put, zA, zB, zC]
  refine sTake (i := 6) rfl (by kernel_rfl) (fun _ _ _ h => h) (gLoad (by rfl) (fun W hW => by (try dsimp only at hW); subst hW; go_simp; first | done | rfl)) ?_
  try simp only [Act.put, zA, zB, zC]
  refine sTake (i := 7) rfl (by kernel_rfl) (fun _ _ _ h => h) (gLoad (by rfl) (fun W hW => by (try dsimp only at hW); subst hW; go_simp; first | done | rfl)) ?_
  try simp only [Act.put, zA, zB, zC]
  refine sRest (by kernel_rfl) ?_
  rintro X rfl
  refine aCall (i := 8) rfl (by kernel_rfl) (by rfl) (by go_simp; first | done | rfl | exact ⟨rfl, rfl⟩) (R1.mono ?_)
  rintro e' w3 ⟨g, cap, rfl, cg, hg1, hg2, k3, hL3⟩
  refine ⟨_, rfl, ?_⟩
  try simp only [Act.put, zA, zB, zC]
  refine aVal (i := 9) (v := ?_) rfl (by kernel_rfl) (by rfl) ?_ ?_
  rotate_left 1
  · go_simp; all_goals with_reducible rfl
  try simp only [Act.put, zA, zB, zC]
  refine wpAny_done (by kernel_rfl) ?_ _
  have kA : Kept [c.L] w w3 := Kept.tr0 (kV.out.drew) k3
  have h3 : EX w3 c { d with act := true, rel := d.clock, got := 0, cnt := d.cnt + 1 } := h.out.jobs kA hL3
  have hx3 := h3.hx
  unfold XAt at hx3
  have c13 : w3.cell? ⟨c.z.x, 13, none⟩ = some (.pointer (some ⟨c.z.m, 0, none⟩)) := cell_of hx3 13
  have lx3 := heap_lt hx3
  have M := meter_job h3.hm hj0.out hj1.out
  have st := Lib.hid (And.intro h3 kA)
  clear k3 hL3 R1 c7 c5 lx kV h3 kA hx3 hg1
  go_wp2_with fail
  refine wp_loop_rounds 2 ?_
  rw [rounds_succ]
  go_wp2_with fail
  refine M.mono ?_
  rintro e' w4 ⟨⟨y, rfl⟩, k4, hm4⟩
  have h4 := st.out.1.meter k4 hm4
  have kB : Kept [c.L, c.z.m] w w4 := Kept.trans st.out.2 k4 (by simp) (fun x hx => Or.inl (by simp at hx; simp [hx]))
  have hx4 := h4.hx
  unfold XAt at hx4
  have c7 : w4.cell? ⟨c.z.x, 7, none⟩ = some (.pointer (some ⟨c.z.j, 0, none⟩)) := cell_of hx4 7
  have lx4 := heap_lt hx4
  have T := Task50 h4.hJ
  replace st := Lib.hid (And.intro h4 kB)
  clear h4 kB hx4 k4 hm4 M c13 cg lx3 hg2
  go_wp2_with fail
  refine T.mono ?_
  rintro e' w5 ⟨rfl, k5⟩
  have h5 := st.out.1.kept0 k5
  have kB := Kept.tr st.out.2 k5
  clear c7 lx4 T k5
  go_wp2_with fail
  have hT6 : (w5.alloc (.cells #[.int .i64 c.id, .int .i64 c.e, .int .i64 c.p, .bool false, .bool false, .bool false, .bool true, .int .i64 d.clock, .int .i64 0, .bool false, .int .i64 (d.cnt + 1)] 143)).heap[w5.heap.size]? = some (.cells #[.int .i64 c.id, .int .i64 c.e, .int .i64 c.p, .bool false, .bool false, .bool false, .bool true, .int .i64 d.clock, .int .i64 0, .bool false, .int .i64 (d.cnt + 1)] 143) := heap_alloc_new
  have kC : Kept [] w5 (w5.alloc (.cells #[.int .i64 c.id, .int .i64 c.e, .int .i64 c.p, .bool false, .bool false, .bool false, .bool true, .int .i64 d.clock, .int .i64 0, .bool false, .int .i64 (d.cnt + 1)] 143)) := (Kept.refl _ _).alloc _
  have h6 := h5.kept0 kC
  have kB6 := Kept.tr kB kC
  obtain ⟨B4, hB4⟩ : ∃ B, w5.heap.size = B := ⟨_, rfl⟩
  obtain ⟨V6, hV6⟩ : ∃ V, w5.alloc (.cells #[.int .i64 c.id, .int .i64 c.e, .int .i64 c.p, .bool false, .bool false, .bool false, .bool true, .int .i64 d.clock, .int .i64 0, .bool false, .int .i64 (d.cnt + 1)] 143) = V := ⟨_, rfl⟩
  rw [hV6, hB4] at hT6
  rw [hV6] at kC h6 kB6
  try rw [hV6]
  try rw [hB4]
  have hB4n : w.heap.size ≤ B4 := by have := kB.1; omega
  have hx6 := h6.hx
  unfold XAt at hx6
  clear kC hV6 hB4 kB h5
  refine bornQ 16 [0] [64, 63, 62, 61, 60, 59, 58, 57, 56, 55, 54, 53, 52, 51, 50, 49] (relY c d B4) (by kernel_rfl) (by kernel_rfl) (by kernel_rfl) (fun _ _ d _ _ h => by cases d <;> exact h) ?_ ?_ ?_
  · intro i v lo hi w w' hY hw
    unfold relY at *
    split at hY <;> first
      | exact hY
      | (obtain ⟨b, h1, h2, h3, h4⟩ := hY; exact ⟨b, h1, h2, h3, by rw [hw b h1 h2]; exact h4⟩)
      | trivial
  · intro i hi o ho a W hr hd hk
    rcases i with _ | _ | _ | _ | _ | _ | _ | _ | _ | _ | _ | _ | _ | _ | _ | _ | i
    · cases ho
      have h0 : a.tmps.getD 0 undef = .pointer (some ⟨c.z.x, 0, none⟩) := (hr 0 (by kernel_rfl)).trans (by kernel_rfl)
      clear hr hd hk
      exact ⟨fun _ => ⟨_, fun W => by go_simp; try rfl, rfl⟩, fun h => absurd h (by decide)⟩
    · cases ho
      have h0 : a.tmps.getD 0 undef = .pointer (some ⟨c.z.x, 0, none⟩) := (hr 0 (by kernel_rfl)).trans (by kernel_rfl)
      refine ⟨fun h => absurd h (by decide), fun _ => ?_⟩
      clear hr hd hk
      exact born_value _ (by go_simp; try rfl) rfl
    · cases ho
      obtain ⟨_, _, h50⟩ := hd 1 50 (by kernel_rfl) (by kernel_rfl)
      have h50 : a.tmps.getD 50 undef = .pointer (some ⟨c.z.x, 0, none⟩) := h50
      refine ⟨fun h => absurd h (by decide), fun _ => ?_⟩
      clear hr hd hk
      exact born_value _ (by go_simp; try rfl) rfl
    · cases ho
      obtain ⟨_, _, h51⟩ := hd 2 51 (by kernel_rfl) (by kernel_rfl)
      have h51 : a.tmps.getD 51 undef = .pointer (some ⟨c.z.x, 0, none⟩) := h51
      refine ⟨fun h => absurd h (by decide), fun _ => ?_⟩
      clear hr hd hk
      exact born_value _ (by go_simp; try rfl) rfl
    · cases ho
      obtain ⟨_, _, h52⟩ := hd 3 52 (by kernel_rfl) (by kernel_rfl)
      have h52 : a.tmps.getD 52 undef = .pointer (some ⟨c.z.x, 19, none⟩) := h52
      refine ⟨fun h => absurd h (by decide), fun _ => ?_⟩
      have c19 : W.cell? ⟨c.z.x, 19, none⟩ = some (d.all) := cell_of (hk.at hx6 (by simp)) 19
      have ll := hk.lt (heap_lt hx6)
      clear hr hd hk
      exact born_value _ (by go_simp; try rfl) rfl
    · cases ho
      have h3 : a.tmps.getD 3 undef = .int .i64 c.id := (hr 3 (by kernel_rfl)).trans (by kernel_rfl)
      refine ⟨fun h => absurd h (by decide), fun _ => ?_⟩
      clear hr hd hk
      exact born_value _ (by go_simp; try rfl) rfl
    · cases ho
      have h0 : a.tmps.getD 0 undef = .pointer (some ⟨c.z.x, 0, none⟩) := (hr 0 (by kernel_rfl)).trans (by kernel_rfl)
      refine ⟨fun h => absurd h (by decide), fun _ => ?_⟩
      clear hr hd hk
      exact born_value _ (by go_simp; try rfl) rfl
    · cases ho
      obtain ⟨_, _, h55⟩ := hd 6 55 (by kernel_rfl) (by kernel_rfl)
      have h55 : a.tmps.getD 55 undef = .pointer (some ⟨c.z.x, 0, none⟩) := h55
      refine ⟨fun h => absurd h (by decide), fun _ => ?_⟩
      clear hr hd hk
      exact born_value _ (by go_simp; try rfl) rfl
    · cases ho
      obtain ⟨_, _, h56⟩ := hd 7 56 (by kernel_rfl) (by kernel_rfl)
      have h56 : a.tmps.getD 56 undef = .pointer (some ⟨c.z.x, 0, none⟩) := h56
      refine ⟨fun h => absurd h (by decide), fun _ => ?_⟩
      clear hr hd hk
      exact born_value _ (by go_simp; try rfl) rfl
    · cases ho
      obtain ⟨_, _, h57⟩ := hd 8 57 (by kernel_rfl) (by kernel_rfl)
      have h57 : a.tmps.getD 57 undef = .pointer (some ⟨c.z.x, 5, none⟩) := h57
      refine ⟨fun h => absurd h (by decide), fun _ => ?_⟩
      have c5 : W.cell? ⟨c.z.x, 5, none⟩ = some (.int .i64 d.clock) := cell_of (hk.at hx6 (by simp)) 5
      have ll := hk.lt (heap_lt hx6)
      clear hr hd hk
      exact born_value _ (by go_simp; try rfl) rfl
    · cases ho
      have h4 : a.tmps.getD 4 undef = .pointer (some ⟨B4, 0, none⟩) := (hr 4 (by kernel_rfl)).trans (by kernel_rfl)
      refine ⟨fun h => absurd h (by decide), fun _ => ?_⟩
      clear hr hd hk
      exact born_value _ (by go_simp; try rfl) rfl
    · cases ho
      obtain ⟨_, _, h59⟩ := hd 10 59 (by kernel_rfl) (by kernel_rfl)
      have h59 : a.tmps.getD 59 undef = .pointer (some ⟨B4, 1, none⟩) := h59
      refine ⟨fun h => absurd h (by decide), fun _ => ?_⟩
      have c1 : W.cell? ⟨B4, 1, none⟩ = some (.int .i64 c.e) := cell_of (hk.at hT6 (by simp)) 1
      have ll := hk.lt (heap_lt hT6)
      clear hr hd hk
      exact born_value _ (by go_simp; try rfl) rfl
    · cases ho
      have h4 : a.tmps.getD 4 undef = .pointer (some ⟨B4, 0, none⟩) := (hr 4 (by kernel_rfl)).trans (by kernel_rfl)
      refine ⟨fun h => absurd h (by decide), fun _ => ?_⟩
      clear hr hd hk
      exact born_value _ (by go_simp; try rfl) rfl
    · cases ho
      obtain ⟨_, _, h61⟩ := hd 12 61 (by kernel_rfl) (by kernel_rfl)
      have h61 : a.tmps.getD 61 undef = .pointer (some ⟨B4, 2, none⟩) := h61
      refine ⟨fun h => absurd h (by decide), fun _ => ?_⟩
      have c2 : W.cell? ⟨B4, 2, none⟩ = some (.int .i64 c.p) := cell_of (hk.at hT6 (by simp)) 2
      have ll := hk.lt (heap_lt hT6)
      clear hr hd hk
      exact born_value _ (by go_simp; try rfl) rfl
    · cases ho
      obtain ⟨_, _, h54⟩ := hd 5 54 (by kernel_rfl) (by kernel_rfl)
      have h54 : a.tmps.getD 54 undef = .int .i64 c.id := h54
      obtain ⟨_, _, h58⟩ := hd 9 58 (by kernel_rfl) (by kernel_rfl)
      have h58 : a.tmps.getD 58 undef = .int .i64 d.clock := h58
      obtain ⟨_, _, h60⟩ := hd 11 60 (by kernel_rfl) (by kernel_rfl)
      have h60 : a.tmps.getD 60 undef = .int .i64 c.e := h60
      obtain ⟨_, _, h62⟩ := hd 13 62 (by kernel_rfl) (by kernel_rfl)
      have h62 : a.tmps.getD 62 undef = .int .i64 c.p := h62
      refine ⟨fun h => absurd h (by decide), fun _ => ?_⟩
      have k54 : (a.tmps[54]?).getD undef = .int .i64 c.id := by rw [← Array.getD_eq_getD_getElem?]; exact h54
      have k58 : (a.tmps[58]?).getD undef = .int .i64 d.clock := by rw [← Array.getD_eq_getD_getElem?]; exact h58
      have k60 : (a.tmps[60]?).getD undef = .int .i64 c.e := by rw [← Array.getD_eq_getD_getElem?]; exact h60
      have k62 : (a.tmps[62]?).getD undef = .int .i64 c.p := by rw [← Array.getD_eq_getD_getElem?]; exact h62
      clear hr hd hk
      exact born_value _ (by go_simp; try rfl) rfl
    · cases ho
      obtain ⟨_, _, h63⟩ := hd 14 63 (by kernel_rfl) (by kernel_rfl)
      have h63 : a.tmps.getD 63 undef = .agg #[.int .i64 c.id, .int .i64 d.clock, .int .i64 c.e, .int .i64 c.p] := h63
      refine ⟨fun h => absurd h (by decide), fun _ => ?_⟩
      exact born_alloc (.slice (some ⟨W.heap.size, 0, none⟩) 1 1) (.cells #[.int .i64 c.id, .int .i64 d.clock, .int .i64 c.e, .int .i64 c.p] 184) (bs_run rfl h63 (mkRel _ _ _ _ W)) ⟨W.heap.size, by omega, by omega, rfl, heap_alloc_new⟩
    · omega
  · intro vs lo hi W hK h1 h2
    have yy0 : vs 0 = .pointer (some ⟨c.z.x, 0, none⟩) := (h1 0 (by omega)).2.2.2
    have yy1 : vs 1 = .pointer (some ⟨c.z.x, 0, none⟩) := (h1 1 (by omega)).2.2.2
    have yy2 : vs 2 = .pointer (some ⟨c.z.x, 0, none⟩) := (h1 2 (by omega)).2.2.2
    have yy3 : vs 3 = .pointer (some ⟨c.z.x, 19, none⟩) := (h1 3 (by omega)).2.2.2
    have yy4 : vs 4 = d.all := (h1 4 (by omega)).2.2.2
    have yy5 : vs 5 = .int .i64 c.id := (h1 5 (by omega)).2.2.2
    have yy6 : vs 6 = .pointer (some ⟨c.z.x, 0, none⟩) := (h1 6 (by omega)).2.2.2
    have yy7 : vs 7 = .pointer (some ⟨c.z.x, 0, none⟩) := (h1 7 (by omega)).2.2.2
    have yy8 : vs 8 = .pointer (some ⟨c.z.x, 5, none⟩) := (h1 8 (by omega)).2.2.2
    have yy9 : vs 9 = .int .i64 d.clock := (h1 9 (by omega)).2.2.2
    have yy10 : vs 10 = .pointer (some ⟨B4, 1, none⟩) := (h1 10 (by omega)).2.2.2
    have yy11 : vs 11 = .int .i64 c.e := (h1 11 (by omega)).2.2.2
    have yy12 : vs 12 = .pointer (some ⟨B4, 2, none⟩) := (h1 12 (by omega)).2.2.2
    have yy13 : vs 13 = .int .i64 c.p := (h1 13 (by omega)).2.2.2
    have yy14 : vs 14 = .agg #[.int .i64 c.id, .int .i64 d.clock, .int .i64 c.e, .int .i64 c.p] := (h1 14 (by omega)).2.2.2
    obtain ⟨p15, q15, r15, b15, t15, u15, yy15, z15⟩ := h1 15 (by omega)
    simp only [fillR, List.length_cons, List.length_nil, Nat.reduceAdd, List.setIfInBounds_toArray, List.set_cons_succ, List.set_cons_zero]
    rw [yy0, yy1, yy2, yy3, yy4, yy5, yy6, yy7, yy8, yy9, yy10, yy11, yy12, yy13, yy14, yy15]
    show wpAny _ _ _ _ 4 _ _ _
    clear h1 h2 p15 q15 r15 u15
    have hown0 : ∀ b n, tgW V6 b = n → n ≠ 185 → b ∉ own d.all := fun b n hb hn => own_not h6.ha hb hn
    have hrow : W.ownsRow 0 184 4 d.all d.k d.xs := row_kept hK h6.ha (fun g hg => by simp)
    obtain ⟨i0, hii, hz0, hz1, hby⟩ := info_of infoRel
    obtain ⟨v', W2, hr, hown, hk5, hat⟩ := app_run Tryz.underlying78 hii hz0 hz1 rfl rfl (by decide) W d.all d.k d.xs (Or.inr hrow) b15 1 1 [.int .i64 c.id, .int .i64 d.clock, .int .i64 c.e, .int .i64 c.p] rfl (fun j u hj => by rw [cell_of z15 j, ← hj]; simp) (fun u hu => by simp only [List.mem_cons, List.not_mem_nil, or_false] at hu; rcases hu with h | h | h | h <;> (subst h; rfl)) (by decide) (by have := hk1.out; omega) hby 78
    obtain ⟨ag, acap, rfl, _⟩ := row_elem hown (by omega)
    have hx7 := hk5.at (hK.at hx6 (by simp)) (hown0 _ _ h6.tgx (by decide))
    have hxn : c.z.x ≠ ag := by
      rintro rfl
      rcases hat with ⟨h1, h2⟩ | ⟨g', h1, h2⟩
      · have := row_tg h6.ha (h1.symm.trans rfl)
        rw [h6.tgx] at this
        cases this
      · have h1 : some c.z.x = some g' := h1
        cases h1
        have := heap_lt hx6
        have := hK.1
        omega
    have hag : d.all.ownBlock = some ag ∨ w.heap.size ≤ ag := by
      rcases hat with ⟨h1, h2⟩ | ⟨g', h1, h2⟩
      · exact Or.inl (h1.symm.trans rfl)
      · have h1 : some ag = some g' := h1
        cases h1
        have := hK.1
        have := kB6.1
        exact Or.inr (by omega)
    have h7 : EX (W2.setCell ⟨c.z.x, 19, none⟩ (.slice (some ⟨ag, 0, none⟩) (d.k + 1) acap)) c { d with act := true, rel := d.clock, got := 0, cnt := d.cnt + 1, jobs := d.jobs + 1, all := .slice (some ⟨ag, 0, none⟩) (d.k + 1) acap, k := d.k + 1, xs := d.xs ++ [.int .i64 c.id, .int .i64 d.clock, .int .i64 c.e, .int .i64 c.p] } := by
      refine (h6.kept0 hK).alled ((hk5.mono (fun x hx => Or.inl (List.mem_cons_of_mem _ hx))).setCell _ _ (Or.inl List.mem_cons_self)) (heap_setCell hx7) (row_kept ((Kept.refl [c.z.x] W2).setCell _ _ (Or.inl (by simp))) hown (fun g hg => ?_))
      cases hg
      simpa using Ne.symm hxn
    have kB7 : Kept ([c.z.x, c.L, c.z.m, c.z.wr, c.z.ls] ++ own d.all) w (W2.setCell ⟨c.z.x, 19, none⟩ (.slice (some ⟨ag, 0, none⟩) (d.k + 1) acap)) := by
      refine (Kept.trans (Kept.tr kB6 hK) hk5 (fun x hx => ?_) (fun x hx => Or.inl (List.mem_append_right _ hx))).setCell _ _ (Or.inl (by simp))
      simp only [List.mem_cons, List.not_mem_nil, or_false] at hx
      rcases hx with rfl | rfl <;> simp
    have c19 : W2.cell? ⟨c.z.x, 19, none⟩ = some d.all := cell_of hx7 19
    have f19 : W2.frozen? ⟨c.z.x, 19, none⟩ = false := frozen_of hx7 19
    have lx7 := heap_lt hx7
    refine aValW (i := 16) (v := .slice (some ⟨ag, 0, none⟩) (d.k + 1) acap) (w' := W2) rfl (by kernel_rfl) (by rfl) (run_app_op (T := 78) _ _ rfl _ _ rfl rfl hr) ?_
    try simp only [Act.put, zA, zB, zC]
    obtain ⟨W3, hW3⟩ : ∃ W3, W2.setCell ⟨c.z.x, 19, none⟩ (.slice (some ⟨ag, 0, none⟩) (d.k + 1) acap) = W3 := ⟨_, rfl⟩
    rw [hW3] at h7 kB7
    replace st := Lib.hid (And.intro h7 (And.intro kB7 hag))
    have hP := h7.hw.put (wi 0)
    have hx8 := h7.hx
    unfold XAt at hx8
    have c17 : W3.cell? ⟨c.z.x, 17, none⟩ = some (.map (some c.z.wr)) := cell_of hx8 17
    have lx8 := heap_lt hx8
    clear hii hz0 hz1 hby yy0 yy1 yy2 yy3 yy4 yy5 yy6 yy7 yy8 yy9 yy10 yy11 yy12 yy13 yy14 yy15 z15 t15 hown0 hrow hr hown hk5 hat hx7 hxn hag h7 kB7 hK hx6 h6 kB6 hT6 hB4n hx8
    refine aVal (i := 17) (v := ?_) rfl (by kernel_rfl) (by rfl) ?_ ?_
    rotate_left 1
    · go_simp; all_goals with_reducible rfl
    try simp only [Act.put, zA, zB, zC]
    refine aVal (i := 18) (v := ?_) rfl (by kernel_rfl) (by rfl) ?_ ?_
    rotate_left 1
    · go_simp; all_goals with_reducible rfl
    try simp only [Act.put, zA, zB, zC]
    refine aSkip (i := 19) (w' := ?_) rfl (by kernel_rfl) (by rfl) ?_ ?_
    rotate_left 1
    · go_simp; all_goals with_reducible rfl
    try simp only [Act.put, zA, zB, zC]
    refine wpAny_done (by kernel_rfl) ?_ _
    try rw [hW3]
    clear hW3 c19 f19 lx7
    go_wp2_with fail
    refine wp_region_any (by kernel_rfl) ?_
    rw [List.size_toArray]
    refine wpAnyS_any (S := fun X => ∃ os q, Go.Proofs.YtgfbfklnhmndfaaGreat.grow W3 os q = X) (k := 6) _ _ _ ?_ _ (gr_drew (gr_refl _))
    refine sTake (i := 0) (v := ?_) rfl (by kernel_rfl) (fun _ _ _ h => h) (gLoad (by rfl) ?_) ?_
    rotate_left 1
    · intro W hW; (try dsimp only at hW); obtain ⟨os', q', hW'⟩ := hW; subst hW'; go_simp; all_goals with_reducible rfl
    try simp only [Act.put, zA, zB, zC]
    refine sTake (i := 1) (v := ?_) rfl (by kernel_rfl) (fun _ _ _ h => h) (gLoad (by rfl) ?_) ?_
    rotate_left 1
    · intro W hW; (try dsimp only at hW); obtain ⟨os', q', hW'⟩ := hW; subst hW'; go_simp; all_goals with_reducible rfl
    try simp only [Act.put, zA, zB, zC]
    refine sTake (i := 2) (v := ?_) rfl (by kernel_rfl) (fun _ _ _ h => h) (gLoad (by rfl) ?_) ?_
    rotate_left 1
    · intro W hW; (try dsimp only at hW); obtain ⟨os', q', hW'⟩ := hW; subst hW'; go_simp; all_goals with_reducible rfl
    try simp only [Act.put, zA, zB, zC]
    refine sTake (i := 3) (v := ?_) rfl (by kernel_rfl) (fun _ _ _ h => h) (gLoad (by rfl) ?_) ?_
    rotate_left 1
    · intro W hW; (try dsimp only at hW); obtain ⟨os', q', hW'⟩ := hW; subst hW'; go_simp; all_goals with_reducible rfl
    try simp only [Act.put, zA, zB, zC]
    refine sTake (i := 4) (v := ?_) rfl (by kernel_rfl) (fun _ _ _ h => h) (gLoad (by rfl) ?_) ?_
    rotate_left 1
    · intro W hW; (try dsimp only at hW); obtain ⟨os', q', hW'⟩ := hW; subst hW'; go_simp; all_goals with_reducible rfl
    try simp only [Act.put, zA, zB, zC]
    refine sTake (i := 5) rfl (by kernel_rfl) (fun _ _ _ h => h) (gCall (by rfl) ?_ (fun W hW => (wholeS 0) W hW)) ?_
    · intro W hW; go_simp; all_goals with_reducible rfl
    try simp only [Act.put, zA, zB, zC]
    refine sRest (by kernel_rfl) ?_
    intro X hX
    obtain ⟨os3, q3, hX⟩ := hX
    have kX := kept_grow hX
    obtain ⟨pb, pc, hP⟩ := hP
    have hPX := hP X (kX.2 _ st.out.1.hw.lt (by simp))
    have h8 := st.out.1.kept0 kX
    have kZ : Kept [c.z.wr] X (Go.ChangeMaps.setBlock X c.z.wr (.map #[{ key := .int .i64 c.id, val := wi 0, born := pb }] pc)) := (Kept.refl _ _).setBlock _ _ (Or.inl (by simp))
    have hZ1 : WrapAt (Go.ChangeMaps.setBlock X c.z.wr (.map #[{ key := .int .i64 c.id, val := wi 0, born := pb }] pc)) c.z.wr c.id 0 := ⟨_, _, heap_setBlock h8.hw.lt⟩
    have h9 := h8.wrap kZ ⟨_, _, heap_setBlock h8.hw.lt, Or.inr ⟨_, _, rfl⟩⟩
    have kB9 : Kept ([c.z.x, c.L, c.z.m, c.z.wr, c.z.ls] ++ own d.all) w (Go.ChangeMaps.setBlock X c.z.wr (.map #[{ key := .int .i64 c.id, val := wi 0, born := pb }] pc)) := Kept.trans (Kept.tr st.out.2.1 kX) kZ (fun x hx => hx) (fun x hx => Or.inl (by simp only [List.mem_cons, List.not_mem_nil, or_false] at hx; subst hx; simp))
    obtain ⟨Z, hZ⟩ : ∃ Z, Go.ChangeMaps.setBlock X c.z.wr (.map #[{ key := .int .i64 c.id, val := wi 0, born := pb }] pc) = Z := ⟨_, rfl⟩
    rw [hZ] at hPX h9 kB9 hZ1
    replace st := Lib.hid (And.intro h9 (And.intro kB9 (And.intro st.out.2.2 hZ1)))
    obtain ⟨lv, ⟨tn, td, job, there, rfl, hjob⟩, hLK⟩ := look_last h9.hl
    have hx9 := h9.hx
    unfold XAt at hx9
    have c18 : Z.cell? ⟨c.z.x, 18, none⟩ = some (.map (some c.z.ls)) := cell_of hx9 18
    have lx9 := heap_lt hx9
    clear hX kX h8 kZ h9 kB9 hZ1 hx9 hP c17 lx8
    refine aSkip (i := 6) (w' := ?_) rfl (by kernel_rfl) (by rfl) ?_ ?_
    rotate_left 1
    · go_simp; all_goals with_reducible rfl
    try simp only [Act.put, zA, zB, zC]
    refine wpAny_done (by kernel_rfl) ?_ _
    try rw [hZ]
    clear hPX hZ
    have hLZ := hLK Z rfl
    go_wp2_with fail
    have kA : Kept [] Z (Z.alloc (.cells #[.int .i64 0, .int .i64 tn, .int .i64 td, .bool false, .bool there] 187)) := (Kept.refl _ _).alloc _
    have hB : (Z.alloc (.cells #[.int .i64 0, .int .i64 tn, .int .i64 td, .bool false, .bool there] 187)).heap[Z.heap.size]? = some (.cells #[.int .i64 0, .int .i64 tn, .int .i64 td, .bool false, .bool there] 187) := heap_alloc_new
    have hA := st.out.1.kept0 kA
    have hWA := st.out.2.2.2.kept kA (by simp)
    have kBA := Kept.tr st.out.2.1 kA
    have hag := st.out.2.2.1
    obtain ⟨B6, hB6⟩ : ∃ B, Z.heap.size = B := ⟨_, rfl⟩
    obtain ⟨Y, hY⟩ : ∃ Y, Z.alloc (.cells #[.int .i64 0, .int .i64 tn, .int .i64 td, .bool false, .bool there] 187) = Y := ⟨_, rfl⟩
    rw [hY] at hA hWA kBA
    rw [hY, hB6] at hB
    try rw [hY]
    try rw [hB6]
    obtain ⟨pb2, pc2, hP2⟩ := put_last hA.hl (.agg #[.int .i64 0, .int .i64 tn, .int .i64 td, .bool false, .bool there])
    have hxA := hA.hx
    unfold XAt at hxA
    have c18Y : Y.cell? ⟨c.z.x, 18, none⟩ = some (.map (some c.z.ls)) := cell_of hxA 18
    have lxA := heap_lt hxA
    have q0 : Y.cell? ⟨B6, 0, none⟩ = some (.int .i64 0) := cell_of hB 0
    have q1 : Y.cell? ⟨B6, 1, none⟩ = some (.int .i64 tn) := cell_of hB 1
    have q2 : Y.cell? ⟨B6, 2, none⟩ = some (.int .i64 td) := cell_of hB 2
    have q3 : Y.cell? ⟨B6, 3, none⟩ = some (.bool false) := cell_of hB 3
    have q4 : Y.cell? ⟨B6, 4, none⟩ = some (.bool there) := cell_of hB 4
    have lB := heap_lt hB
    have nls : c.z.wr ∉ [c.z.ls] := by simp [(ndn hA.nodup (i := 14) (j := 15) rfl rfl (by decide))]
    have kZ2 : Kept [c.z.ls] Y (Go.ChangeMaps.setBlock Y.drew c.z.ls (.map #[{ key := .int .i64 c.id, val := .agg #[.int .i64 0, .int .i64 tn, .int .i64 td, .bool false, .bool there], born := pb2 }] pc2)) := ((Kept.refl _ _).drew).setBlock _ _ (Or.inl (by simp))
    have h10 := hA.last kZ2 ⟨_, _, heap_setBlock hA.hl.lt, Or.inr ⟨_, _, rfl, tn, td, false, there, rfl, by simp⟩⟩
    have hW10 := hWA.kept kZ2 nls
    have k10 := Kept.trans kBA kZ2 (fun x hx => hx) (fun x hx => Or.inl (by simp only [List.mem_cons, List.not_mem_nil, or_false] at hx; subst hx; simp))
    have hPX := hP2 Y.drew rfl
    obtain ⟨Z2, hZ2⟩ : ∃ Z2, Go.ChangeMaps.setBlock Y.drew c.z.ls (.map #[{ key := .int .i64 c.id, val := .agg #[.int .i64 0, .int .i64 tn, .int .i64 td, .bool false, .bool there], born := pb2 }] pc2) = Z2 := ⟨_, rfl⟩
    rw [hZ2] at h10 hW10 k10 hPX
    have O := slices30 (w := Z2) (z := c.z) h10.hx hm
    replace st := Lib.hid (And.intro h10 (And.intro k10 (And.intro hag hW10)))
    clear kA hB hA hWA kBA hag hY hB6 hP2 hxA nls kZ2 h10 hW10 k10 c18 lx9 hLZ hLK
    refine wp_region_any (by kernel_rfl) ?_
    rw [List.size_toArray]
    refine wpAnyS_any (S := fun X => X = Y.drew) (k := 6) _ _ _ ?_ _ rfl
    refine sTake (i := 0) rfl (by kernel_rfl) (fun _ _ _ h => h) (gLoad (by rfl) (fun W hW => by (try dsimp only at hW); subst hW; go_simp; first | done | rfl)) ?_
    try simp only [Act.put, zA, zB, zC]
    refine sTake (i := 1) rfl (by kernel_rfl) (fun _ _ _ h => h) (gLoad (by rfl) (fun W hW => by (try dsimp only at hW); subst hW; go_simp; first | done | rfl)) ?_
    try simp only [Act.put, zA, zB, zC]
    refine sTake (i := 2) rfl (by kernel_rfl) (fun _ _ _ h => h) (gLoad (by rfl) (fun W hW => by (try dsimp only at hW); subst hW; go_simp; first | done | rfl)) ?_
    try simp only [Act.put, zA, zB, zC]
    refine sTake (i := 3) rfl (by kernel_rfl) (fun _ _ _ h => h) (gLoad (by rfl) (fun W hW => by (try dsimp only at hW); subst hW; go_simp; first | done | rfl)) ?_
    try simp only [Act.put, zA, zB, zC]
    refine sTake (i := 4) rfl (by kernel_rfl) (fun _ _ _ h => h) (gLoad (by rfl) (fun W hW => by (try dsimp only at hW); subst hW; go_simp; first | done | rfl)) ?_
    try simp only [Act.put, zA, zB, zC]
    refine sTake (i := 5) rfl (by kernel_rfl) (fun _ _ _ h => h) (gLoad (by rfl) (fun W hW => by (try dsimp only at hW); subst hW; go_simp; first | done | rfl)) ?_
    try simp only [Act.put, zA, zB, zC]
    refine sRest (by kernel_rfl) ?_
    rintro X rfl
    refine aSkip (i := 6) (w' := ?_) rfl (by kernel_rfl) (by rfl) ?_ ?_
    rotate_left 1
    · go_simp; all_goals with_reducible rfl
    try simp only [Act.put, zA, zB, zC]
    refine wpAny_done (by kernel_rfl) ?_ _
    try rw [hZ2]
    clear hPX hZ2 c18Y lxA q0 q1 q2 q3 q4 lB
    go_wp2_with fail
    rw [rounds_succ]
    go_wp2_with fail
    refine O.mono ?_
    rintro e' w9 ⟨rfl, rfl⟩
    obtain ⟨h10, k10, hag, hW10⟩ := st.out
    obtain ⟨hse, nse⟩ := hse'.out
    have hsZ := k10.at hse nse
    have BX := h10.hx
    unfold XAt at BX
    have BJ := h10.hJ
    have AL := fun W (hk : Kept [] Z2 W) => All85 (BJ.kept0 hk)
    have hclk := hclk'.out
    replace hm := Lib.hid hm
    clear O
    go_wp2_with fail
    refine bornQ 13 [] [102, 101, 100, 99, 98, 97, 96, 95, 94, 93, 92, 91, 90] (endY c d) (by kernel_rfl) (by kernel_rfl) (by kernel_rfl) (fun _ _ d _ _ h => by cases d <;> exact h) ?_ ?_ ?_
    · intro i v lo hi w w' hY hw
      unfold endY at *
      split at hY <;> first
        | exact hY
        | (obtain ⟨b, h1, h2, cap, cur, h3, h4⟩ := hY; exact ⟨b, h1, h2, cap, cur, h3, by rw [hw b h1 h2]; exact h4⟩)
        | trivial
    · intro i hi o ho a W hr hd hk
      rcases i with _ | _ | _ | _ | _ | _ | _ | _ | _ | _ | _ | _ | _ | i
      · cases ho
        have h0 : a.tmps.getD 0 undef = .pointer (some ⟨c.z.x, 0, none⟩) := (hr 0 (by kernel_rfl)).trans (by kernel_rfl)
        refine ⟨fun h => absurd h (by decide), fun _ => ?_⟩
        clear hr hd hk AL
        exact born_value _ (by go_simp; try rfl) rfl
      · cases ho
        obtain ⟨_, _, h90⟩ := hd 0 90 (by kernel_rfl) (by kernel_rfl)
        have h90 : a.tmps.getD 90 undef = .pointer (some ⟨c.z.x, 0, none⟩) := h90
        refine ⟨fun h => absurd h (by decide), fun _ => ?_⟩
        clear hr hd hk AL
        exact born_value _ (by go_simp; try rfl) rfl
      · cases ho
        obtain ⟨_, _, h91⟩ := hd 1 91 (by kernel_rfl) (by kernel_rfl)
        have h91 : a.tmps.getD 91 undef = .pointer (some ⟨c.z.x, 0, none⟩) := h91
        refine ⟨fun h => absurd h (by decide), fun _ => ?_⟩
        clear hr hd hk AL
        exact born_value _ (by go_simp; try rfl) rfl
      · cases ho
        obtain ⟨_, _, h92⟩ := hd 2 92 (by kernel_rfl) (by kernel_rfl)
        have h92 : a.tmps.getD 92 undef = .pointer (some ⟨c.z.x, 9, none⟩) := h92
        refine ⟨fun h => absurd h (by decide), fun _ => ?_⟩
        have c9 : W.cell? ⟨c.z.x, 9, none⟩ = some (.pointer (some ⟨c.z.s, 0, none⟩)) := cell_of (hk.at BX (by simp)) 9
        have ll := hk.lt (heap_lt BX)
        clear hr hd hk AL
        exact born_value _ (by go_simp; try rfl) rfl
      · cases ho
        have h0 : a.tmps.getD 0 undef = .pointer (some ⟨c.z.x, 0, none⟩) := (hr 0 (by kernel_rfl)).trans (by kernel_rfl)
        refine ⟨fun h => absurd h (by decide), fun _ => ?_⟩
        clear hr hd hk AL
        exact born_value _ (by go_simp; try rfl) rfl
      · cases ho
        obtain ⟨_, _, h94⟩ := hd 4 94 (by kernel_rfl) (by kernel_rfl)
        have h94 : a.tmps.getD 94 undef = .pointer (some ⟨c.z.x, 0, none⟩) := h94
        refine ⟨fun h => absurd h (by decide), fun _ => ?_⟩
        clear hr hd hk AL
        exact born_value _ (by go_simp; try rfl) rfl
      · cases ho
        obtain ⟨_, _, h95⟩ := hd 5 95 (by kernel_rfl) (by kernel_rfl)
        have h95 : a.tmps.getD 95 undef = .pointer (some ⟨c.z.x, 0, none⟩) := h95
        refine ⟨fun h => absurd h (by decide), fun _ => ?_⟩
        clear hr hd hk AL
        exact born_value _ (by go_simp; try rfl) rfl
      · cases ho
        obtain ⟨_, _, h96⟩ := hd 6 96 (by kernel_rfl) (by kernel_rfl)
        have h96 : a.tmps.getD 96 undef = .pointer (some ⟨c.z.x, 7, none⟩) := h96
        refine ⟨fun h => absurd h (by decide), fun _ => ?_⟩
        have c7 : W.cell? ⟨c.z.x, 7, none⟩ = some (.pointer (some ⟨c.z.j, 0, none⟩)) := cell_of (hk.at BX (by simp)) 7
        have ll := hk.lt (heap_lt BX)
        clear hr hd hk AL
        exact born_value _ (by go_simp; try rfl) rfl
      · cases ho
        obtain ⟨_, _, h97⟩ := hd 7 97 (by kernel_rfl) (by kernel_rfl)
        have h97 : a.tmps.getD 97 undef = .pointer (some ⟨c.z.j, 0, none⟩) := h97
        refine ⟨fun h => absurd h (by decide), fun _ => ?_⟩
        have AA := AL W hk
        clear hr hd hk
        refine Or.inr ⟨_, _, W, by go_simp; first | done | rfl | exact ⟨rfl, rfl⟩, AA.mono ?_⟩
        rintro e' w' ⟨g1, cap1, cur1, rfl, hg1, hw1, hc1, hk1⟩
        exact ⟨_, rfl, hk1, g1, hg1, heap_lt hw1, cap1, cur1, rfl, hw1⟩
      · cases ho
        have h0 : a.tmps.getD 0 undef = .pointer (some ⟨c.z.x, 0, none⟩) := (hr 0 (by kernel_rfl)).trans (by kernel_rfl)
        refine ⟨fun h => absurd h (by decide), fun _ => ?_⟩
        clear hr hd hk AL
        exact born_value _ (by go_simp; try rfl) rfl
      · cases ho
        obtain ⟨_, _, h99⟩ := hd 9 99 (by kernel_rfl) (by kernel_rfl)
        have h99 : a.tmps.getD 99 undef = .pointer (some ⟨c.z.x, 0, none⟩) := h99
        refine ⟨fun h => absurd h (by decide), fun _ => ?_⟩
        clear hr hd hk AL
        exact born_value _ (by go_simp; try rfl) rfl
      · cases ho
        obtain ⟨_, _, h100⟩ := hd 10 100 (by kernel_rfl) (by kernel_rfl)
        have h100 : a.tmps.getD 100 undef = .pointer (some ⟨c.z.x, 0, none⟩) := h100
        refine ⟨fun h => absurd h (by decide), fun _ => ?_⟩
        clear hr hd hk AL
        exact born_value _ (by go_simp; try rfl) rfl
      · cases ho
        obtain ⟨_, _, h101⟩ := hd 11 101 (by kernel_rfl) (by kernel_rfl)
        have h101 : a.tmps.getD 101 undef = .pointer (some ⟨c.z.x, 5, none⟩) := h101
        refine ⟨fun h => absurd h (by decide), fun _ => ?_⟩
        have c5 : W.cell? ⟨c.z.x, 5, none⟩ = some (.int .i64 0) := by
          rw [← hclk]
          exact cell_of (hk.at BX (by simp)) 5
        have ll := hk.lt (heap_lt BX)
        clear hr hd hk AL
        exact born_value _ (by go_simp; try rfl) rfl
      · omega
    · intro vs lo hi W hK h1 h2
      have yy0 : vs 0 = .pointer (some ⟨c.z.x, 0, none⟩) := (h1 0 (by omega)).2.2.2
      have yy1 : vs 1 = .pointer (some ⟨c.z.x, 0, none⟩) := (h1 1 (by omega)).2.2.2
      have yy2 : vs 2 = .pointer (some ⟨c.z.x, 9, none⟩) := (h1 2 (by omega)).2.2.2
      have yy3 : vs 3 = .pointer (some ⟨c.z.s, 0, none⟩) := (h1 3 (by omega)).2.2.2
      have yy4 : vs 4 = .pointer (some ⟨c.z.x, 0, none⟩) := (h1 4 (by omega)).2.2.2
      have yy5 : vs 5 = .pointer (some ⟨c.z.x, 0, none⟩) := (h1 5 (by omega)).2.2.2
      have yy6 : vs 6 = .pointer (some ⟨c.z.x, 7, none⟩) := (h1 6 (by omega)).2.2.2
      have yy7 : vs 7 = .pointer (some ⟨c.z.j, 0, none⟩) := (h1 7 (by omega)).2.2.2
      obtain ⟨p8, q8, r8, b8, t8, u8, cap8, cur8, yy8, z8⟩ := h1 8 (by omega)
      have yy9 : vs 9 = .pointer (some ⟨c.z.x, 0, none⟩) := (h1 9 (by omega)).2.2.2
      have yy10 : vs 10 = .pointer (some ⟨c.z.x, 0, none⟩) := (h1 10 (by omega)).2.2.2
      have yy11 : vs 11 = .pointer (some ⟨c.z.x, 5, none⟩) := (h1 11 (by omega)).2.2.2
      have yy12 : vs 12 = .int .i64 0 := (h1 12 (by omega)).2.2.2
      simp only [fillR, List.length_cons, List.length_nil, Nat.reduceAdd, List.setIfInBounds_toArray, List.set_cons_succ, List.set_cons_zero]
      rw [yy0, yy1, yy2, yy3, yy4, yy5, yy6, yy7, yy8, yy9, yy10, yy11, yy12]
      show wpAny _ _ _ _ 1 _ _ _
      obtain ⟨e3, e4, e5, e6, e7⟩ := eqs.out
      have zz := z8
      rw [e3, e4, e5, e6, e7] at zz
      have BG := Begin84 c.z.s b8 cap8 cur8 W (hK.at hsZ (by simp)) zz
      have h11 := h10.kept0 hK
      have hW11 := hW10.kept hK (by simp)
      have k11 := Kept.tr k10 hK
      have fin := Lib.hid (And.intro h11 (And.intro hW11 (And.intro k11 (And.intro hag (hK.at hsZ (by simp))))))
      clear h1 h2 yy0 yy1 yy2 yy3 yy4 yy5 yy6 yy7 yy8 yy9 yy10 yy11 yy12 p8 q8 r8 t8 u8 z8 zz h10 hW10 k10 hag hsZ BX BJ AL hclk h11 hW11 k11 hK st e3 e4 e5 e6 e7 hse nse
      refine aCall (i := 13) rfl (by kernel_rfl) (by rfl) (by go_simp; first | done | rfl | exact ⟨rfl, rfl⟩) (BG.mono ?_)
      rintro e' w12 ⟨rfl, k12, Lp, C, cl, hLp, hl, hs⟩
      refine ⟨_, rfl, ?_⟩
      try simp only [Act.put, zA, zB, zC]
      refine wpAny_done (by kernel_rfl) ?_ _
      obtain ⟨h11, hW11, k11, hag, hsW⟩ := fin.out
      have h12 := h11.frame k12 (fun b hb hin => by
        simp only [List.mem_cons, List.not_mem_nil, or_false] at hin
        subst hin
        exact h11.feet_tgn hb (k := 104) (by simp) (tg_cells hsW))
      have nwr : c.z.wr ∉ [c.z.s] := by
        simp only [List.mem_cons, List.not_mem_nil, or_false]
        intro hin
        have := h11.tgwr
        rw [hin, tg_cells hsW] at this
        cases this
      have k13 : Kept (c.z.s :: ([c.z.x, c.L, c.z.m, c.z.wr, c.z.ls] ++ own d.all)) w w12 := Kept.trans k11 k12 (fun x hx => List.mem_cons_of_mem _ hx) (fun x hx => Or.inl (by simp only [List.mem_cons, List.not_mem_nil, or_false] at hx; subst hx; exact List.mem_cons_self))
      have fin2 := Lib.hid (And.intro h12 (And.intro k13 (And.intro hag (And.intro (hW11.kept k12 nwr) (And.intro (Nat.le_trans k11.1 hLp) (And.intro hl hs))))))
      clear h11 hW11 k11 hag hsW h12 nwr k13 fin k12 hLp hl hs BG
      go_wp2_with fail
      go_returns
      obtain ⟨h12, k13, hag, hW, hL, hl, hs⟩ := fin2.out
      refine ⟨rfl, _, h12, k13, fun g hg => ?_, hW, Lp, C, cl, hL, hl, hs⟩
      have hg : some ag = some g := hg
      cases hg
      exact hag
end
end Go.Proofs.YtgfbfklnhmndfaaGreat
