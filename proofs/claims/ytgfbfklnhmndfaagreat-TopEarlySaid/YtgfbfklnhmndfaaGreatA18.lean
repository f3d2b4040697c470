/- The parts of the top that the law of early release walks through: part 18 of 52. -/
import Derived.Test.YtgfbfklnhmndfaaGreatA1
import Derived.Test.YtgfbfklnhmndfaaGreatA3
import Derived.Test.YtgfbfklnhmndfaaGreatA4
import Derived.Test.YtgfbfklnhmndfaaGreatA9
import Derived.Test.YtgfbfklnhmndfaaGreatA12
import Derived.Test.YtgfbfklnhmndfaaGreatA16
import Derived.Test.YtgfbfklnhmndfaaGreatA17
namespace Go.Proofs.YtgfbfklnhmndfaaGreat
open Go.RowKit
set_option linter.unusedSimpArgs false
set_option linter.unusedVariables false
section
attribute [local go_sem ↓] setCell_drewN alloc_drewN grow_cell grow_frozen setCell_grow grow_size cell_alloc_grow frozen_alloc_grow setCell_alloc_grow cell_grow_alloc_grow frozen_grow_alloc_grow setCell_grow_alloc_grow grow_grow
attribute [local go_sem] lt_len size_setCell
theorem settle169 (h n cap : Nat) (G : Option Addr) (x z : Value) (hn : n < 2) (w : World) (hh : w.heap[h]? = some (.cells #[x, .slice G n cap, z] 274 (0, 0))) :
    Calls Tryz.prog 169 #[.pointer (some ⟨h, 0, none⟩), .int .i64 0] w (RetG (.tuple #[]) w) := by
  have c0 : w.cell? ⟨h, 1, none⟩ = some (.slice G n cap) := cell_of hh 1
  have hl := heap_lt hh
  have hd1 : decide (2 < (n : Int)) = false := by simp; omega
  have hd2 : decide (1 ≥ (n : Int)) = true := by simp; omega
  clear hh hn
  unfold RetG
  go_enter Tryz.func169, Tryz.ntmps169
  go_wp2_with fail
  go_loopw [1] (fun i wr => i = .int .i64 0 ∧ ∃ os q, grow w os q = wr) (fun _ _ => 0)
  case atStart => exact ⟨rfl, gr_refl _⟩
  case round =>
    obtain ⟨rfl, os, q, rfl⟩ := hrel
    go_wp2_with fail
    go_quiet (fail)
    go_wp2_with fail
    go_loopw [1, 4] (fun i k wr => i = .int .i64 0 ∧ ∃ os q, grow w os q = wr) (fun _ _ _ => 0)
    case atStart => exact ⟨rfl, by repeat (first | exact gr_refl _ | apply gr_alloc | apply gr_grow | apply gr_drewN | apply gr_drew)⟩
    case round =>
      obtain ⟨rfl, os, q, rfl⟩ := hrel
      go_wp2_with fail
      go_quiet (fail)
      go_wp2_with fail
      go_quiet (fail)
      go_wp2_with fail
      go_returns
      exact ⟨rfl, by repeat (first | exact gr_refl _ | apply gr_alloc | apply gr_grow | apply gr_drewN | apply gr_drew)⟩
theorem heap_alloc_two (w : World) (o1 o2 : Obj) : ((w.alloc o1).alloc o2).heap[w.heap.size + 1]? = some o2 := by
  have := heap_alloc_new (w := w.alloc o1) (o := o2)
  rw [World.size_alloc] at this
  exact this
set_option maxHeartbeats 2000000 in
theorem swap212 (h g A cap b0 c0 : Nat) (a b c d : Int) (rest : List Value) (w : World) (hnc : 1 ≤ cap)
    (hh : w.heap[h]? = some (.cells #[.int .i64 1, .slice (some ⟨g, 0, none⟩) 1 cap, .map (some A)] 274 (0, 0))) (hg : w.heap[g]? = some (.cells (.int .i64 0 :: .int .i64 a :: .int .i64 b :: .int .i64 c :: .int .i64 d :: rest).toArray 277 (0, 0))) (hA : w.heap[A]? = some (.map #[{ key := .int .i64 0, val := .int .i64 0, born := b0 }] c0))
    (h1 : h ≠ g) (h2 : h ≠ A) (h3 : g ≠ A) :
    Calls Tryz.prog 212 #[.pointer (some ⟨h, 0, none⟩), .int .i64 0, .int .i64 0] w fun e w' => e = .returned (.tuple #[]) ∧ Kept [g, A] w w' ∧
      w'.heap[g]? = some (.cells (.int .i64 0 :: .int .i64 a :: .int .i64 b :: .int .i64 c :: .int .i64 d :: rest).toArray 277 (0, 0)) ∧ w'.heap[A]? = some (.map #[{ key := .int .i64 0, val := .int .i64 0, born := b0 }] c0) := by
  have S := fun (W : World) (q1 : W.heap[h]? = some (.cells #[.int .i64 1, .slice (some ⟨g, 0, none⟩) 1 cap, .map (some A)] 274 (0, 0))) (q2 : W.heap[g]? = some (.cells (.int .i64 0 :: .int .i64 a :: .int .i64 b :: .int .i64 c :: .int .i64 d :: rest).toArray 277 (0, 0))) (q3 : W.heap[A]? = some (.map #[{ key := .int .i64 0, val := .int .i64 0, born := b0 }] c0)) =>
    set168 h g A cap a b c d _ _ _ _ _ rest _ _ W hnc q1 q2 q3 (fun X hX => put_one Tryz.underlying90 Tryz.underlying3 hX (.int .i64 0)) h1 h2 h3
  have x0 : w.cell? ⟨h, 1, none⟩ = some (.slice (some ⟨g, 0, none⟩) 1 cap) := cell_of hh 1
  have y0 : w.cell? ⟨g, 0, none⟩ = some (.int .i64 0) := cell_of hg 0
  have y1 : w.cell? ⟨g, 1, none⟩ = some (.int .i64 a) := cell_of hg 1
  have y2 : w.cell? ⟨g, 2, none⟩ = some (.int .i64 b) := cell_of hg 2
  have y3 : w.cell? ⟨g, 3, none⟩ = some (.int .i64 c) := cell_of hg 3
  have y4 : w.cell? ⟨g, 4, none⟩ = some (.int .i64 d) := cell_of hg 4
  have lh := heap_lt hh
  have lg := heap_lt hg
  have eg : w.heap.size ≠ g := by omega
  have eh : w.heap.size ≠ h := by omega
  have eg1 : w.heap.size + 1 ≠ g := by omega
  have eh1 : w.heap.size + 1 ≠ h := by omega
  replace hh := Lib.hid (And.intro hh (And.intro hg hA))
  clear hg hA
  go_enter Tryz.func212, Tryz.ntmps212
  go_wp2_with fail
  go_region_held3 (fun w' => w'.cell? ⟨h, 1, none⟩ = some (.slice (some ⟨g, 0, none⟩) 1 cap) ∧ w'.cell? ⟨g, 0, none⟩ = some (.int .i64 0) ∧ w'.cell? ⟨g, 1, none⟩ = some (.int .i64 a) ∧ w'.cell? ⟨g, 2, none⟩ = some (.int .i64 b) ∧ w'.cell? ⟨g, 3, none⟩ = some (.int .i64 c) ∧ w'.cell? ⟨g, 4, none⟩ = some (.int .i64 d)) (go_keep) (fail)
  all_goals have kV : Kept [] w ((w.alloc (.cells #[.int .i64 0, .int .i64 a, .int .i64 b, .int .i64 c, .int .i64 d] 277)).alloc (.cells #[.int .i64 0, .int .i64 a, .int .i64 b, .int .i64 c, .int .i64 d] 277)).drew := (((Kept.refl [] w).alloc _).alloc _).drew
  all_goals have v0 : ((w.alloc (.cells #[.int .i64 0, .int .i64 a, .int .i64 b, .int .i64 c, .int .i64 d] 277)).alloc (.cells #[.int .i64 0, .int .i64 a, .int .i64 b, .int .i64 c, .int .i64 d] 277)).drew.heap[w.heap.size]? = some (.cells #[.int .i64 0, .int .i64 a, .int .i64 b, .int .i64 c, .int .i64 d] 277 (0, 0)) := (heap_alloc (by simp)).trans heap_alloc_new
  all_goals have v1 : ((w.alloc (.cells #[.int .i64 0, .int .i64 a, .int .i64 b, .int .i64 c, .int .i64 d] 277)).alloc (.cells #[.int .i64 0, .int .i64 a, .int .i64 b, .int .i64 c, .int .i64 d] 277)).drew.heap[w.heap.size + 1]? = some (.cells #[.int .i64 0, .int .i64 a, .int .i64 b, .int .i64 c, .int .i64 d] 277 (0, 0)) := heap_alloc_two _ _ _
  all_goals generalize ((w.alloc (.cells #[.int .i64 0, .int .i64 a, .int .i64 b, .int .i64 c, .int .i64 d] 277)).alloc (.cells #[.int .i64 0, .int .i64 a, .int .i64 b, .int .i64 c, .int .i64 d] 277)).drew = V at *
  all_goals have eA : w.heap.size ≠ A ∧ w.heap.size + 1 ≠ A := by have := heap_lt hh.out.2.2; omega
  all_goals generalize w.heap.size = B at *
  all_goals generalize B + 1 = B1 at *
  all_goals have V0 := kV.at hh.out.1 (by simp)
  all_goals have V1 := kV.at hh.out.2.1 (by simp)
  all_goals have V2 := kV.at hh.out.2.2 (by simp)
  all_goals have p0 : V.cell? ⟨B, 0, none⟩ = some (.int .i64 0) := cell_of v0 0
  all_goals have r0 : V.cell? ⟨B1, 0, none⟩ = some (.int .i64 0) := cell_of v1 0
  all_goals have p1 : V.cell? ⟨B, 1, none⟩ = some (.int .i64 a) := cell_of v0 1
  all_goals have r1 : V.cell? ⟨B1, 1, none⟩ = some (.int .i64 a) := cell_of v1 1
  all_goals have p2 : V.cell? ⟨B, 2, none⟩ = some (.int .i64 b) := cell_of v0 2
  all_goals have r2 : V.cell? ⟨B1, 2, none⟩ = some (.int .i64 b) := cell_of v1 2
  all_goals have p3 : V.cell? ⟨B, 3, none⟩ = some (.int .i64 c) := cell_of v0 3
  all_goals have r3 : V.cell? ⟨B1, 3, none⟩ = some (.int .i64 c) := cell_of v1 3
  all_goals have p4 : V.cell? ⟨B, 4, none⟩ = some (.int .i64 d) := cell_of v0 4
  all_goals have r4 : V.cell? ⟨B1, 4, none⟩ = some (.int .i64 d) := cell_of v1 4
  all_goals have lb := heap_lt v0
  all_goals have lb1 := heap_lt v1
  all_goals have S1 := S V V0 V1 V2
  all_goals replace v0 := Lib.hid (And.intro v0 (And.intro v1 (And.intro V0 (And.intro kV eA))))
  all_goals replace S := Lib.hid S
  all_goals clear v1 V0 V1 V2 kV x0 y0 y1 y2 y3 y4 lh lg
  all_goals go_wp2_with fail
  all_goals refine S1.mono ?_
  all_goals rintro e w1 ⟨rfl, hk1, hg1, hA1⟩
  all_goals obtain ⟨q0, q1, q2, q3, q4⟩ := v0.out
  all_goals have z0 := hk1.at q0 (by simp [eg, q4])
  all_goals have z1 := hk1.at q1 (by simp [eg1, q4])
  all_goals have z2 := hk1.at q2 (by simp [h1, h2])
  all_goals have S2 := S.out w1 z2 hg1 hA1
  all_goals have s0 : w1.cell? ⟨B, 0, none⟩ = some (.int .i64 0) := cell_of z0 0
  all_goals have t0 : w1.cell? ⟨B1, 0, none⟩ = some (.int .i64 0) := cell_of z1 0
  all_goals have s1 : w1.cell? ⟨B, 1, none⟩ = some (.int .i64 a) := cell_of z0 1
  all_goals have t1 : w1.cell? ⟨B1, 1, none⟩ = some (.int .i64 a) := cell_of z1 1
  all_goals have s2 : w1.cell? ⟨B, 2, none⟩ = some (.int .i64 b) := cell_of z0 2
  all_goals have t2 : w1.cell? ⟨B1, 2, none⟩ = some (.int .i64 b) := cell_of z1 2
  all_goals have s3 : w1.cell? ⟨B, 3, none⟩ = some (.int .i64 c) := cell_of z0 3
  all_goals have t3 : w1.cell? ⟨B1, 3, none⟩ = some (.int .i64 c) := cell_of z1 3
  all_goals have s4 : w1.cell? ⟨B, 4, none⟩ = some (.int .i64 d) := cell_of z0 4
  all_goals have t4 : w1.cell? ⟨B1, 4, none⟩ = some (.int .i64 d) := cell_of z1 4
  all_goals have lc := heap_lt z0
  all_goals have lc1 := heap_lt z1
  all_goals replace hk1 := Lib.hid hk1
  all_goals clear S1 z0 z1 z2 hg1 hA1 q0 q1 q2 q3 q4
  all_goals go_wp2_with fail
  all_goals refine S2.mono ?_
  all_goals rintro e w2 ⟨rfl, hk2, hg2, hA2⟩
  all_goals replace hk2 := Lib.hid (And.intro hk2 (And.intro hg2 hA2))
  all_goals clear S2 hg2 hA2
  all_goals go_wp2_with fail
  all_goals go_returns
  all_goals obtain ⟨q0, q1, q2, q3, q4⟩ := v0.out
  all_goals exact ⟨rfl, Kept.trans (Kept.trans q3 hk1.out (by simp) (fun x hx => Or.inl hx)) hk2.out.1 (fun x hx => hx) (fun x hx => Or.inl hx), hk2.out.2.1, hk2.out.2.2⟩
end
end Go.Proofs.YtgfbfklnhmndfaaGreat
