/- The parts of the top that the law of early release walks through: part 34 of 52. -/
import Derived.Test.YtgfbfklnhmndfaaGreatA1
import Derived.Test.YtgfbfklnhmndfaaGreatA3
import Derived.Test.YtgfbfklnhmndfaaGreatA4
import Derived.Test.YtgfbfklnhmndfaaGreatA13
import Derived.Test.YtgfbfklnhmndfaaGreatA15
import Derived.Test.YtgfbfklnhmndfaaGreatA24
import Derived.Test.YtgfbfklnhmndfaaGreatA29
import Derived.Test.YtgfbfklnhmndfaaGreatA30
import Derived.Test.YtgfbfklnhmndfaaGreatA32
import Derived.Test.YtgfbfklnhmndfaaGreatA33
namespace Go.Proofs.YtgfbfklnhmndfaaGreat
open Go.RowKit
set_option linter.unusedSimpArgs false
set_option linter.unusedVariables false
section
attribute [local go_sem ↓] setCell_drewN alloc_drewN grow_cell grow_frozen setCell_grow grow_size cell_alloc_grow frozen_alloc_grow setCell_alloc_grow cell_grow_alloc_grow frozen_grow_alloc_grow setCell_grow_alloc_grow grow_grow
attribute [local go_sem] lt_len size_setCell
set_option maxHeartbeats 1000000 in
theorem settle63_due {w : World} {c : Pm} {d : Dy} (h : EX w c d) (hact : d.act = true) (hm : ModeIs c.mode false) (he : 1 ≤ c.e) (hep : c.e ≤ c.p) (hp : c.p ≤ 1024) (hr0 : 0 ≤ d.rel) (hrc : d.rel ≤ d.clock) (hc : d.clock ≤ 65536) (hg0 : 0 ≤ d.got) (hg : d.got ≤ 1024) (hdue : d.rel + c.p ≤ d.clock) :
    Calls Tryz.prog 63 #[pt c.z.x] w fun e' W => e' = .returned (.tuple #[]) ∧ EX W c { d with act := false, rel := 0, got := 0 } ∧ Kept [c.z.la, c.L, c.z.m] w W := by
  have hJ0 := h.hJ
  rw [hact] at hJ0
  have A := see105_slots (z := c.z) hJ0 h.hx h.hla he hep hp hr0 hrc hc hg0 hg hm
  obtain ⟨ms, hms⟩ : ∃ ms : Int, ms = if d.got = c.e then 0 else 1 := ⟨_, rfl⟩
  have T := fun (w : World) hJ => Settle106_yes (w := w) (j := c.z.j) (s := c.s) (M := c.M) (L := c.L) (n := c.n) (id := c.id) (e := c.e) (p := c.p) (rel := d.rel) (got := d.got) (cnt := d.cnt) (rest := d.rest) hJ d.clock (by omega) (by omega) (by omega) (by omega) (by omega) ms hms
  have hx0 := h.hx
  unfold XAt at hx0
  have lx := heap_lt hx0
  replace h := Lib.hid h
  clear he hep hp hr0 hrc hc hg0 hg hdue hJ0 hx0 lx hms
  go_enter Tryz.func63, Tryz.ntmps63
  go_wp2_with fail
  refine A.mono ?_
  rintro e' w1 ⟨rfl, k1, hl1⟩
  have h1 := h.out.lag k1 hl1
  have hx1 := h1.hx
  unfold XAt at hx1
  have c7 : w1.cell? ⟨c.z.x, 7, none⟩ = some (.pointer (some ⟨c.z.j, 0, none⟩)) := cell_of hx1 7
  have c5 : w1.cell? ⟨c.z.x, 5, none⟩ = some (.int .i64 d.clock) := cell_of hx1 5
  have lx := heap_lt hx1
  replace h1 := Lib.hid (And.intro h1 k1)
  clear k1 hl1 hx1 A
  go_wp2_with fail
  refine wp_region_any (by kernel_rfl) ?_
  rw [List.size_toArray]
  refine wpAnyS_any (S := fun X => X = w1.drew) (k := 8) _ _ _ ?_ _ rfl
  refine sTake (i := 0) rfl (by kernel_rfl) (fun _ _ _ h => h) (gLoad (by rfl) (fun W hW => by (try dsimp only at hW); subst hW; go_simp; first | done | rfl)) ?_
  try simp only [Act.put, zA, zB, zC]
  refine sTake (i := 1) rfl (by kernel_rfl) (fun _ _ _ h => h) (gLoad (by rfl) (fun W hW => by (try dsimp only at hW); subst hW; go_simp; first | done | rfl)) ?_
  try simp only [Act.put, zA, zB, zC]
  refine sTake (i := 2) rfl (by kernel_rfl) (fun _ _ _ h => h) (gLoad (by rfl) (fun W hW => by (try dsimp only at hW); subst hW; go_simp; first | done | rfl)) ?_
  try simp only [Act.put, zA, zB, zC]
  refine sTake (i := 3) rfl (by kernel_rfl) (fun _ _ _ h => h) (gLoad (by rfl) (fun W hW => by (try dsimp only at hW); subst hW; go_simp; first | done | rfl)) ?_
  try simp only [Act.put, zA, zB, zC]
  refine sTake (i := 4) rfl (by kernel_rfl) (fun _ _ _ h => h) (gLoad (by rfl) (fun W hW => by (try dsimp only at hW); subst hW; go_simp; first | done | rfl)) ?_
  try simp only [Act.put, zA, zB, zC]
  refine sTake (i := 5) rfl (by kernel_rfl) (fun _ _ _ h => h) (gLoad (by rfl) (fun W hW => by (try dsimp only at hW); subst hW; go_simp; first | done | rfl)) ?_
  try simp only [Act.put, zA, zB, zC]
  refine sTake (i := 6) rfl (by kernel_rfl) (fun _ _ _ h => h) (gLoad (by rfl) (fun W hW => by (try dsimp only at hW); subst hW; go_simp; first | done | rfl)) ?_
  try simp only [Act.put, zA, zB, zC]
  refine sTake (i := 7) rfl (by kernel_rfl) (fun _ _ _ h => h) (gLoad (by rfl) (fun W hW => by (try dsimp only at hW); subst hW; go_simp; first | done | rfl)) ?_
  try simp only [Act.put, zA, zB, zC]
  refine sRest (by kernel_rfl) ?_
  rintro X rfl
  have h2 : EX w1.drew c d := h1.out.1.kept0 ((Kept.refl [] w1).drew)
  have hJ2 := h2.hJ
  rw [hact] at hJ2
  have T2 := T w1.drew hJ2
  replace h2 := Lib.hid h2
  clear hJ2 T c7 c5 lx
  refine aCall (i := 8) rfl (by kernel_rfl) (by rfl) (by go_simp; first | done | rfl | exact ⟨rfl, rfl⟩) (T2.mono ?_)
  rintro e' w3 ⟨rfl, k3, hL3⟩
  have h3 : EX w3 c { d with act := false, rel := 0, got := 0 } := by
    have := h2.out.jobs k3 (act := false) (rel := 0) (got := 0) (cnt := d.cnt) hL3
    exact this
  have kk : Kept [c.z.la, c.L, c.z.m] w w3 := Kept.trans h1.out.2 (Kept.tr0 ((Kept.refl [] w1).drew) k3) (by simp) (fun x hx => Or.inl (by simp at hx; simp [hx]))
  refine ⟨_, rfl, ?_⟩
  try simp only [Act.put, zA, zB, zC]
  refine aVal (i := 9) (v := ?_) rfl (by kernel_rfl) (by rfl) ?_ ?_
  rotate_left 1
  · go_simp; all_goals with_reducible rfl
  try simp only [Act.put, zA, zB, zC]
  refine yTake (i := 10) rfl (by kernel_rfl) (fun _ _ _ h => h) (by rfl) (fun _ => by go_simp; first | done | rfl) ?_
  try simp only [Act.put, zA, zB, zC]
  refine yTake (i := 11) rfl (by kernel_rfl) (fun _ _ _ h => h) (by rfl) (fun _ => by go_simp; first | done | rfl) ?_
  try simp only [Act.put, zA, zB, zC]
  refine aVal (i := 12) (v := ?_) rfl (by kernel_rfl) (by rfl) ?_ ?_
  rotate_left 1
  · go_simp; all_goals with_reducible rfl
  try simp only [Act.put, zA, zB, zC]
  refine aVal (i := 13) (v := ?_) rfl (by kernel_rfl) (by rfl) ?_ ?_
  rotate_left 1
  · go_simp; all_goals with_reducible rfl
  try simp only [Act.put, zA, zB, zC]
  refine wpAny_done (by kernel_rfl) ?_ _
  have O := slots55 (w := w3) (z := c.z) h3.hx hm
  replace h3 := Lib.hid (And.intro h3 kk)
  clear k3 kk h1 h2 T2 hL3
  go_wp2_with fail
  refine O.mono ?_
  rintro e' w4 ⟨rfl, rfl⟩
  go_wp2_with fail
  refine wp_loop_rounds 1 ?_
  rw [rounds_succ]
  have hx4 := h3.out.1.hx
  unfold XAt at hx4
  have c13 : w3.cell? ⟨c.z.x, 13, none⟩ = some (.pointer (some ⟨c.z.m, 0, none⟩)) := cell_of hx4 13
  have lx := heap_lt hx4
  clear hx4 O
  go_wp2_with fail
  refine (meter_add (k := 3) h3.out.1.hm (by omega)).mono ?_
  rintro e' w5 ⟨⟨y, rfl⟩, k5, hm5⟩
  go_wp2_with fail
  go_returns
  exact ⟨rfl, h3.out.1.meter k5 hm5, Kept.trans h3.out.2 k5 (fun x h => h) (fun x hx => Or.inl (by simp at hx; simp [hx]))⟩
set_option maxHeartbeats 1000000 in
theorem settle63_not {w : World} {c : Pm} {d : Dy} (h : EX w c d) (hact : d.act = true) (hm : ModeIs c.mode false) (he : 1 ≤ c.e) (hep : c.e ≤ c.p) (hp : c.p ≤ 1024) (hr0 : 0 ≤ d.rel) (hrc : d.rel ≤ d.clock) (hc : d.clock ≤ 65536) (hg0 : 0 ≤ d.got) (hg : d.got ≤ 1024) (hdue : ¬ d.rel + c.p ≤ d.clock) :
    Calls Tryz.prog 63 #[pt c.z.x] w fun e' W => e' = .returned (.tuple #[]) ∧ EX W c d ∧ Kept [c.z.la, c.L, c.z.m] w W := by
  have hJ0 := h.hJ
  rw [hact] at hJ0
  have A := see105_slots (z := c.z) hJ0 h.hx h.hla he hep hp hr0 hrc hc hg0 hg hm
  obtain ⟨ms, hms⟩ : ∃ ms : Int, ms = if d.got = c.e then 0 else 1 := ⟨_, rfl⟩
  have T := fun (w : World) hJ => Settle106_no (w := w) (j := c.z.j) (s := c.s) (M := c.M) (L := c.L) (n := c.n) (id := c.id) (e := c.e) (p := c.p) (rel := d.rel) (got := d.got) (cnt := d.cnt) (rest := d.rest) hJ d.clock (by omega) (by omega) (by omega) (by omega) (by omega)
  have hx0 := h.hx
  unfold XAt at hx0
  have lx := heap_lt hx0
  replace h := Lib.hid h
  clear he hep hp hr0 hrc hc hg0 hg hdue hJ0 hx0 lx hms
  go_enter Tryz.func63, Tryz.ntmps63
  go_wp2_with fail
  refine A.mono ?_
  rintro e' w1 ⟨rfl, k1, hl1⟩
  have h1 := h.out.lag k1 hl1
  have hx1 := h1.hx
  unfold XAt at hx1
  have c7 : w1.cell? ⟨c.z.x, 7, none⟩ = some (.pointer (some ⟨c.z.j, 0, none⟩)) := cell_of hx1 7
  have c5 : w1.cell? ⟨c.z.x, 5, none⟩ = some (.int .i64 d.clock) := cell_of hx1 5
  have lx := heap_lt hx1
  replace h1 := Lib.hid (And.intro h1 k1)
  clear k1 hl1 hx1 A
  go_wp2_with fail
  refine wp_region_any (by kernel_rfl) ?_
  rw [List.size_toArray]
  refine wpAnyS_any (S := fun X => X = w1.drew) (k := 8) _ _ _ ?_ _ rfl
  refine sTake (i := 0) rfl (by kernel_rfl) (fun _ _ _ h => h) (gLoad (by rfl) (fun W hW => by (try dsimp only at hW); subst hW; go_simp; first | done | rfl)) ?_
  try simp only [Act.put, zA, zB, zC]
  refine sTake (i := 1) rfl (by kernel_rfl) (fun _ _ _ h => h) (gLoad (by rfl) (fun W hW => by (try dsimp only at hW); subst hW; go_simp; first | done | rfl)) ?_
  try simp only [Act.put, zA, zB, zC]
  refine sTake (i := 2) rfl (by kernel_rfl) (fun _ _ _ h => h) (gLoad (by rfl) (fun W hW => by (try dsimp only at hW); subst hW; go_simp; first | done | rfl)) ?_
  try simp only [Act.put, zA, zB, zC]
  refine sTake (i := 3) rfl (by kernel_rfl) (fun _ _ _ h => h) (gLoad (by rfl) (fun W hW => by (try dsimp only at hW); subst hW; go_simp; first | done | rfl)) ?_
  try simp only [Act.put, zA, zB, zC]
  refine sTake (i := 4) rfl (by kernel_rfl) (fun _ _ _ h => h) (gLoad (by rfl) (fun W hW => by (try dsimp only at hW); subst hW; go_simp; first | done | rfl)) ?_
  try simp only [Act.put, zA, zB, zC]
  refine sTake (i := 5) rfl (by kernel_rfl) (fun _ _ _ h => h) (gLoad (by rfl) (fun W hW => by (try dsimp only at hW); subst hW; go_simp; first | done | rfl)) ?_
  try simp only [Act.put, zA, zB, zC]
  refine sTake (i := 6) rfl (by kernel_rfl) (fun _ _ _ h => h) (gLoad (by rfl) (fun W hW => by (try dsimp only at hW); subst hW; go_simp; first | done | rfl)) ?_
  try simp only [Act.put, zA, zB, zC]
  refine sTake (i := 7) rfl (by kernel_rfl) (fun _ _ _ h => h) (gLoad (by rfl) (fun W hW => by (try dsimp only at hW); subst hW; go_simp; first | done | rfl)) ?_
  try simp only [Act.put, zA, zB, zC]
  refine sRest (by kernel_rfl) ?_
  rintro X rfl
  have h2 : EX w1.drew c d := h1.out.1.kept0 ((Kept.refl [] w1).drew)
  have hJ2 := h2.hJ
  rw [hact] at hJ2
  have T2 := T w1.drew hJ2
  replace h2 := Lib.hid h2
  clear hJ2 T c7 c5 lx
  refine aCall (i := 8) rfl (by kernel_rfl) (by rfl) (by go_simp; first | done | rfl | exact ⟨rfl, rfl⟩) (T2.mono ?_)
  rintro e' w3 ⟨rfl, k3⟩
  have h3 := h2.out.kept0 k3
  have kk : Kept [c.z.la, c.L, c.z.m] w w3 := Kept.trans h1.out.2 (Kept.tr0 ((Kept.refl [] w1).drew) k3) (by simp) (by simp)
  refine ⟨_, rfl, ?_⟩
  try simp only [Act.put, zA, zB, zC]
  refine aVal (i := 9) (v := ?_) rfl (by kernel_rfl) (by rfl) ?_ ?_
  rotate_left 1
  · go_simp; all_goals with_reducible rfl
  try simp only [Act.put, zA, zB, zC]
  refine yTake (i := 10) rfl (by kernel_rfl) (fun _ _ _ h => h) (by rfl) (fun _ => by go_simp; first | done | rfl) ?_
  try simp only [Act.put, zA, zB, zC]
  refine yTake (i := 11) rfl (by kernel_rfl) (fun _ _ _ h => h) (by rfl) (fun _ => by go_simp; first | done | rfl) ?_
  try simp only [Act.put, zA, zB, zC]
  refine aVal (i := 12) (v := ?_) rfl (by kernel_rfl) (by rfl) ?_ ?_
  rotate_left 1
  · go_simp; all_goals with_reducible rfl
  try simp only [Act.put, zA, zB, zC]
  refine aVal (i := 13) (v := ?_) rfl (by kernel_rfl) (by rfl) ?_ ?_
  rotate_left 1
  · go_simp; all_goals with_reducible rfl
  try simp only [Act.put, zA, zB, zC]
  refine wpAny_done (by kernel_rfl) ?_ _
  have O := slots55 (w := w3) (z := c.z) h3.hx hm
  replace h3 := Lib.hid (And.intro h3 kk)
  clear k3 kk h1 h2 T2
  go_wp2_with fail
  refine O.mono ?_
  rintro e' w4 ⟨rfl, rfl⟩
  go_wp2_with fail
  refine wp_loop_rounds 1 ?_
  rw [rounds_succ]
  have hx4 := h3.out.1.hx
  unfold XAt at hx4
  have c13 : w3.cell? ⟨c.z.x, 13, none⟩ = some (.pointer (some ⟨c.z.m, 0, none⟩)) := cell_of hx4 13
  have lx := heap_lt hx4
  clear hx4 O
  go_wp2_with fail
  refine (meter_add (k := 3) h3.out.1.hm (by omega)).mono ?_
  rintro e' w5 ⟨⟨y, rfl⟩, k5, hm5⟩
  go_wp2_with fail
  go_returns
  exact ⟨rfl, h3.out.1.meter k5 hm5, Kept.trans h3.out.2 k5 (fun x h => h) (fun x hx => Or.inl (by simp at hx; simp [hx]))⟩
set_option maxHeartbeats 1000000 in
theorem settle63_twin_due {w : World} {c : Pm} {d : Dy} (h : EX w c d) (hact : d.act = true) (hm : ModeIs c.mode true) (he : 1 ≤ c.e) (hep : c.e ≤ c.p) (hp : c.p ≤ 1024) (hr0 : 0 ≤ d.rel) (hrc : d.rel ≤ d.clock) (hc : d.clock ≤ 65536) (hg0 : 0 ≤ d.got) (hg : d.got ≤ 1024) (hdue : d.rel + c.p ≤ d.clock) (hW : WrapAt w c.z.wr c.id c.e) :
    Calls Tryz.prog 63 #[pt c.z.x] w fun e' W => e' = .returned (.tuple #[]) ∧ EX W c { d with act := false, rel := 0, got := 0 } ∧ Kept [c.z.la, c.L, c.z.m] w W := by
  have hJ0 := h.hJ
  rw [hact] at hJ0
  have A := see105_due (z := c.z) hJ0 h.hx h.hla he hep hp hr0 hrc hc hg0 hg hm hdue hW
  obtain ⟨ms, hms⟩ : ∃ ms : Int, ms = if d.got = c.e then 0 else 1 := ⟨_, rfl⟩
  have T := fun (w : World) hJ => Settle106_yes (w := w) (j := c.z.j) (s := c.s) (M := c.M) (L := c.L) (n := c.n) (id := c.id) (e := c.e) (p := c.p) (rel := d.rel) (got := d.got) (cnt := d.cnt) (rest := d.rest) hJ d.clock (by omega) (by omega) (by omega) (by omega) (by omega) ms hms
  have hx0 := h.hx
  unfold XAt at hx0
  have lx := heap_lt hx0
  replace h := Lib.hid h
  clear he hep hp hr0 hrc hc hg0 hg hdue hJ0 hx0 lx hms hW
  go_enter Tryz.func63, Tryz.ntmps63
  go_wp2_with fail
  refine A.mono ?_
  rintro e' w1 ⟨rfl, k1, hl1⟩
  have h1 := h.out.lag k1 hl1
  have hx1 := h1.hx
  unfold XAt at hx1
  have c7 : w1.cell? ⟨c.z.x, 7, none⟩ = some (.pointer (some ⟨c.z.j, 0, none⟩)) := cell_of hx1 7
  have c5 : w1.cell? ⟨c.z.x, 5, none⟩ = some (.int .i64 d.clock) := cell_of hx1 5
  have lx := heap_lt hx1
  replace h1 := Lib.hid (And.intro h1 k1)
  clear k1 hl1 hx1 A
  go_wp2_with fail
  refine wp_region_any (by kernel_rfl) ?_
  rw [List.size_toArray]
  refine wpAnyS_any (S := fun X => X = w1.drew) (k := 8) _ _ _ ?_ _ rfl
  refine sTake (i := 0) rfl (by kernel_rfl) (fun _ _ _ h => h) (gLoad (by rfl) (fun W hW => by (try dsimp only at hW); subst hW; go_simp; first | done | rfl)) ?_
  try simp only [Act.put, zA, zB, zC]
  refine sTake (i := 1) rfl (by kernel_rfl) (fun _ _ _ h => h) (gLoad (by rfl) (fun W hW => by (try dsimp only at hW); subst hW; go_simp; first | done | rfl)) ?_
  try simp only [Act.put, zA, zB, zC]
  refine sTake (i := 2) rfl (by kernel_rfl) (fun _ _ _ h => h) (gLoad (by rfl) (fun W hW => by (try dsimp only at hW); subst hW; go_simp; first | done | rfl)) ?_
  try simp only [Act.put, zA, zB, zC]
  refine sTake (i := 3) rfl (by kernel_rfl) (fun _ _ _ h => h) (gLoad (by rfl) (fun W hW => by (try dsimp only at hW); subst hW; go_simp; first | done | rfl)) ?_
  try simp only [Act.put, zA, zB, zC]
  refine sTake (i := 4) rfl (by kernel_rfl) (fun _ _ _ h => h) (gLoad (by rfl) (fun W hW => by (try dsimp only at hW); subst hW; go_simp; first | done | rfl)) ?_
  try simp only [Act.put, zA, zB, zC]
  refine sTake (i := 5) rfl (by kernel_rfl) (fun _ _ _ h => h) (gLoad (by rfl) (fun W hW => by (try dsimp only at hW); subst hW; go_simp; first | done | rfl)) ?_
  try simp only [Act.put, zA, zB, zC]
  refine sTake (i := 6) rfl (by kernel_rfl) (fun _ _ _ h => h) (gLoad (by rfl) (fun W hW => by (try dsimp only at hW); subst hW; go_simp; first | done | rfl)) ?_
  try simp only [Act.put, zA, zB, zC]
  refine sTake (i := 7) rfl (by kernel_rfl) (fun _ _ _ h => h) (gLoad (by rfl) (fun W hW => by (try dsimp only at hW); subst hW; go_simp; first | done | rfl)) ?_
  try simp only [Act.put, zA, zB, zC]
  refine sRest (by kernel_rfl) ?_
  rintro X rfl
  have h2 : EX w1.drew c d := h1.out.1.kept0 ((Kept.refl [] w1).drew)
  have hJ2 := h2.hJ
  rw [hact] at hJ2
  have T2 := T w1.drew hJ2
  replace h2 := Lib.hid h2
  clear hJ2 T c7 c5 lx
  refine aCall (i := 8) rfl (by kernel_rfl) (by rfl) (by go_simp; first | done | rfl | exact ⟨rfl, rfl⟩) (T2.mono ?_)
  rintro e' w3 ⟨rfl, k3, hL3⟩
  have h3 : EX w3 c { d with act := false, rel := 0, got := 0 } := by
    have := h2.out.jobs k3 (act := false) (rel := 0) (got := 0) (cnt := d.cnt) hL3
    exact this
  have kk : Kept [c.z.la, c.L, c.z.m] w w3 := Kept.trans h1.out.2 (Kept.tr0 ((Kept.refl [] w1).drew) k3) (by simp) (fun x hx => Or.inl (by simp at hx; simp [hx]))
  refine ⟨_, rfl, ?_⟩
  try simp only [Act.put, zA, zB, zC]
  refine aVal (i := 9) (v := ?_) rfl (by kernel_rfl) (by rfl) ?_ ?_
  rotate_left 1
  · go_simp; all_goals with_reducible rfl
  try simp only [Act.put, zA, zB, zC]
  refine yTake (i := 10) rfl (by kernel_rfl) (fun _ _ _ h => h) (by rfl) (fun _ => by go_simp; first | done | rfl) ?_
  try simp only [Act.put, zA, zB, zC]
  refine yTake (i := 11) rfl (by kernel_rfl) (fun _ _ _ h => h) (by rfl) (fun _ => by go_simp; first | done | rfl) ?_
  try simp only [Act.put, zA, zB, zC]
  refine aVal (i := 12) (v := ?_) rfl (by kernel_rfl) (by rfl) ?_ ?_
  rotate_left 1
  · go_simp; all_goals with_reducible rfl
  try simp only [Act.put, zA, zB, zC]
  refine aVal (i := 13) (v := ?_) rfl (by kernel_rfl) (by rfl) ?_ ?_
  rotate_left 1
  · go_simp; all_goals with_reducible rfl
  try simp only [Act.put, zA, zB, zC]
  refine wpAny_done (by kernel_rfl) ?_ _
  have O := slots55 (w := w3) (z := c.z) h3.hx hm
  replace h3 := Lib.hid (And.intro h3 kk)
  clear k3 kk h1 h2 T2 hL3
  go_wp2_with fail
  refine O.mono ?_
  rintro e' w4 ⟨rfl, rfl⟩
  go_wp2_with fail
  refine wp_loop_rounds 1 ?_
  rw [rounds_succ]
  have hx4 := h3.out.1.hx
  unfold XAt at hx4
  have c13 : w3.cell? ⟨c.z.x, 13, none⟩ = some (.pointer (some ⟨c.z.m, 0, none⟩)) := cell_of hx4 13
  have lx := heap_lt hx4
  clear hx4 O
  go_wp2_with fail
  refine (meter_add (k := 3) h3.out.1.hm (by omega)).mono ?_
  rintro e' w5 ⟨⟨y, rfl⟩, k5, hm5⟩
  go_wp2_with fail
  go_returns
  exact ⟨rfl, h3.out.1.meter k5 hm5, Kept.trans h3.out.2 k5 (fun x h => h) (fun x hx => Or.inl (by simp at hx; simp [hx]))⟩
set_option maxHeartbeats 1000000 in
theorem settle63_twin_not {w : World} {c : Pm} {d : Dy} (h : EX w c d) (hact : d.act = true) (hm : ModeIs c.mode true) (he : 1 ≤ c.e) (hep : c.e ≤ c.p) (hp : c.p ≤ 1024) (hr0 : 0 ≤ d.rel) (hrc : d.rel ≤ d.clock) (hc : d.clock ≤ 65536) (hg0 : 0 ≤ d.got) (hg : d.got ≤ 1024) (hdue : ¬ d.rel + c.p ≤ d.clock) :
    Calls Tryz.prog 63 #[pt c.z.x] w fun e' W => e' = .returned (.tuple #[]) ∧ EX W c d ∧ Kept [c.z.la, c.L, c.z.m] w W := by
  have hJ0 := h.hJ
  rw [hact] at hJ0
  have A := see105_early (z := c.z) hJ0 h.hx h.hla he hep hp hr0 hrc hc hg0 hg hm hdue
  obtain ⟨ms, hms⟩ : ∃ ms : Int, ms = if d.got = c.e then 0 else 1 := ⟨_, rfl⟩
  have T := fun (w : World) hJ => Settle106_no (w := w) (j := c.z.j) (s := c.s) (M := c.M) (L := c.L) (n := c.n) (id := c.id) (e := c.e) (p := c.p) (rel := d.rel) (got := d.got) (cnt := d.cnt) (rest := d.rest) hJ d.clock (by omega) (by omega) (by omega) (by omega) (by omega)
  have hx0 := h.hx
  unfold XAt at hx0
  have lx := heap_lt hx0
  replace h := Lib.hid h
  clear he hep hp hr0 hrc hc hg0 hg hdue hJ0 hx0 lx hms
  go_enter Tryz.func63, Tryz.ntmps63
  go_wp2_with fail
  refine A.mono ?_
  rintro e' w1 ⟨rfl, k1, hl1⟩
  have h1 := h.out.lag k1 hl1
  have hx1 := h1.hx
  unfold XAt at hx1
  have c7 : w1.cell? ⟨c.z.x, 7, none⟩ = some (.pointer (some ⟨c.z.j, 0, none⟩)) := cell_of hx1 7
  have c5 : w1.cell? ⟨c.z.x, 5, none⟩ = some (.int .i64 d.clock) := cell_of hx1 5
  have lx := heap_lt hx1
  replace h1 := Lib.hid (And.intro h1 k1)
  clear k1 hl1 hx1 A
  go_wp2_with fail
  refine wp_region_any (by kernel_rfl) ?_
  rw [List.size_toArray]
  refine wpAnyS_any (S := fun X => X = w1.drew) (k := 8) _ _ _ ?_ _ rfl
  refine sTake (i := 0) rfl (by kernel_rfl) (fun _ _ _ h => h) (gLoad (by rfl) (fun W hW => by (try dsimp only at hW); subst hW; go_simp; first | done | rfl)) ?_
  try simp only [Act.put, zA, zB, zC]
  refine sTake (i := 1) rfl (by kernel_rfl) (fun _ _ _ h => h) (gLoad (by rfl) (fun W hW => by (try dsimp only at hW); subst hW; go_simp; first | done | rfl)) ?_
  try simp only [Act.put, zA, zB, zC]
  refine sTake (i := 2) rfl (by kernel_rfl) (fun _ _ _ h => h) (gLoad (by rfl) (fun W hW => by (try dsimp only at hW); subst hW; go_simp; first | done | rfl)) ?_
  try simp only [Act.put, zA, zB, zC]
  refine sTake (i := 3) rfl (by kernel_rfl) (fun _ _ _ h => h) (gLoad (by rfl) (fun W hW => by (try dsimp only at hW); subst hW; go_simp; first | done | rfl)) ?_
  try simp only [Act.put, zA, zB, zC]
  refine sTake (i := 4) rfl (by kernel_rfl) (fun _ _ _ h => h) (gLoad (by rfl) (fun W hW => by (try dsimp only at hW); subst hW; go_simp; first | done | rfl)) ?_
  try simp only [Act.put, zA, zB, zC]
  refine sTake (i := 5) rfl (by kernel_rfl) (fun _ _ _ h => h) (gLoad (by rfl) (fun W hW => by (try dsimp only at hW); subst hW; go_simp; first | done | rfl)) ?_
  try simp only [Act.put, zA, zB, zC]
  refine sTake (i := 6) rfl (by kernel_rfl) (fun _ _ _ h => h) (gLoad (by rfl) (fun W hW => by (try dsimp only at hW); subst hW; go_simp; first | done | rfl)) ?_
  try simp only [Act.put, zA, zB, zC]
  refine sTake (i := 7) rfl (by kernel_rfl) (fun _ _ _ h => h) (gLoad (by rfl) (fun W hW => by (try dsimp only at hW); subst hW; go_simp; first | done | rfl)) ?_
  try simp only [Act.put, zA, zB, zC]
  refine sRest (by kernel_rfl) ?_
  rintro X rfl
  have h2 : EX w1.drew c d := h1.out.1.kept0 ((Kept.refl [] w1).drew)
  have hJ2 := h2.hJ
  rw [hact] at hJ2
  have T2 := T w1.drew hJ2
  replace h2 := Lib.hid h2
  clear hJ2 T c7 c5 lx
  refine aCall (i := 8) rfl (by kernel_rfl) (by rfl) (by go_simp; first | done | rfl | exact ⟨rfl, rfl⟩) (T2.mono ?_)
  rintro e' w3 ⟨rfl, k3⟩
  have h3 := h2.out.kept0 k3
  have kk : Kept [c.z.la, c.L, c.z.m] w w3 := Kept.trans h1.out.2 (Kept.tr0 ((Kept.refl [] w1).drew) k3) (by simp) (by simp)
  refine ⟨_, rfl, ?_⟩
  try simp only [Act.put, zA, zB, zC]
  refine aVal (i := 9) (v := ?_) rfl (by kernel_rfl) (by rfl) ?_ ?_
  rotate_left 1
  · go_simp; all_goals with_reducible rfl
  try simp only [Act.put, zA, zB, zC]
  refine yTake (i := 10) rfl (by kernel_rfl) (fun _ _ _ h => h) (by rfl) (fun _ => by go_simp; first | done | rfl) ?_
  try simp only [Act.put, zA, zB, zC]
  refine yTake (i := 11) rfl (by kernel_rfl) (fun _ _ _ h => h) (by rfl) (fun _ => by go_simp; first | done | rfl) ?_
  try simp only [Act.put, zA, zB, zC]
  refine aVal (i := 12) (v := ?_) rfl (by kernel_rfl) (by rfl) ?_ ?_
  rotate_left 1
  · go_simp; all_goals with_reducible rfl
  try simp only [Act.put, zA, zB, zC]
  refine aVal (i := 13) (v := ?_) rfl (by kernel_rfl) (by rfl) ?_ ?_
  rotate_left 1
  · go_simp; all_goals with_reducible rfl
  try simp only [Act.put, zA, zB, zC]
  refine wpAny_done (by kernel_rfl) ?_ _
  have O := slots55 (w := w3) (z := c.z) h3.hx hm
  replace h3 := Lib.hid (And.intro h3 kk)
  clear k3 kk h1 h2 T2
  go_wp2_with fail
  refine O.mono ?_
  rintro e' w4 ⟨rfl, rfl⟩
  go_wp2_with fail
  refine wp_loop_rounds 1 ?_
  rw [rounds_succ]
  have hx4 := h3.out.1.hx
  unfold XAt at hx4
  have c13 : w3.cell? ⟨c.z.x, 13, none⟩ = some (.pointer (some ⟨c.z.m, 0, none⟩)) := cell_of hx4 13
  have lx := heap_lt hx4
  clear hx4 O
  go_wp2_with fail
  refine (meter_add (k := 3) h3.out.1.hm (by omega)).mono ?_
  rintro e' w5 ⟨⟨y, rfl⟩, k5, hm5⟩
  go_wp2_with fail
  go_returns
  exact ⟨rfl, h3.out.1.meter k5 hm5, Kept.trans h3.out.2 k5 (fun x h => h) (fun x hx => Or.inl (by simp at hx; simp [hx]))⟩
end
end Go.Proofs.YtgfbfklnhmndfaaGreat
