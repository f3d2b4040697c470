/- The parts of the top that the law of early release walks through: part 13 of 52. -/
import Derived.Test.YtgfbfklnhmndfaaGreatA1
import Derived.Test.YtgfbfklnhmndfaaGreatA3
import Derived.Test.YtgfbfklnhmndfaaGreatA4
import Derived.Test.YtgfbfklnhmndfaaGreatA9
import Derived.Test.YtgfbfklnhmndfaaGreatA10
import Derived.Test.YtgfbfklnhmndfaaGreatA11
import Derived.Test.YtgfbfklnhmndfaaGreatA12
namespace Go.Proofs.YtgfbfklnhmndfaaGreat
open Go.RowKit
set_option linter.unusedSimpArgs false
set_option linter.unusedVariables false
section
attribute [local go_sem ↓] setCell_drewN alloc_drewN grow_cell grow_frozen setCell_grow grow_size cell_alloc_grow frozen_alloc_grow setCell_alloc_grow cell_grow_alloc_grow frozen_grow_alloc_grow setCell_grow_alloc_grow grow_grow
attribute [local go_sem] lt_len
theorem yTake {P : Program} {l : List Oper} {Q : Exit → Act → World → Prop} {md : Region.Mode} {i : Nat} {oi : Oper} {v : Value} {fuel : Nat} {listed : Array Bool} {a : Act} {w : World} (ho : l[i]? = some oi)
    (hs : (Region.noSelect l.toArray && Region.free md l.toArray listed i && (Region.ready md l.toArray listed).contains i) = true)
    (hQ : ∀ c a w, Q (.panic c) (a.put oi.dst v) w → Q (.panic c) a w) (hw : Region.wanted oi (yielded l.toArray a.tmps) = true) (hv : ∀ w, (execOp a.eval oi).run P w = .ok (.value v) w)
    (h : wpAny P md l.toArray Q fuel (listed.setIfInBounds i true) (a.put oi.dst v) w) : wpAny P md l.toArray Q (fuel + 1) listed a w := by
  simp only [Bool.and_eq_true] at hs
  exact wpAny_take (by simpa using ho) hs.1.1 hs.1.2 hs.2 hQ (Or.inl ⟨hw, hv⟩) h
set_option maxHeartbeats 2000000 in
theorem Put71_1 (s I U M F : Nat) (v : Value) (id : Int) (w0 w : World) (h : SlotsW w0 w s I U M F 1 1 v) :
    Calls Tryz.prog 71 #[.pointer (some ⟨s, 0, none⟩), .int .i64 id] w fun e w' => e = .returned (.tuple #[.int .i64 0, .int .i64 0]) ∧ Kept (I :: U :: M :: F :: own v) w w' ∧
      w'.heap[M]? = some (.map #[{ key := .int .i64 id, val := .int .i64 0, born := 0 }] 1) := by
  obtain ⟨⟨a1, a2, a3, a4⟩, ⟨a5, a6, a7⟩, ⟨a8, a9⟩, a10⟩ := h.apart
  obtain ⟨g, cap, rfl, hc1, hc2, hcell, hfr, hlt⟩ := (row_elem (by
    rcases h.row with ⟨c, _, h2, _⟩ | h
    · cases h2
    · exact h) (by omega) : ∃ g cap, v = .slice (some ⟨g, 0, none⟩) 1 cap ∧ _)
  have hg : own (Value.slice (some ⟨g, 0, none⟩) 1 cap) = [g] := by
    cases cap with
    | zero => omega
    | succ c => rfl
  have hoff := h.off g (by rw [hg]; simp)
  obtain ⟨o1, o2, o3, o4, o5, o6⟩ := hoff
  have hrow : w.ownsRow 0 3 1 (Value.slice (some ⟨g, 0, none⟩) 1 cap) 1 (upto 1) := by
    rcases h.row with ⟨c, _, h2, _⟩ | h
    · cases h2
    · exact h
  obtain ⟨r1, r2⟩ := hrow
  rcases r2 with ⟨_, r2⟩ | ⟨g', cap', cur, r3, _, r4, r5, r6, r7, r8⟩
  · cases r2
  cases r3
  have hcur0 : cur[0]? = some (.int .i64 0) := by
    have h1 := congrArg (fun l => l[0]?) r8
    simp only [List.getElem?_take] at h1
    simpa [upto] using h1
  have hcurn : ∃ b : Int, cur[0]? = some (.int .i64 b) := ⟨0, by
    have h1 := congrArg (fun l => l[0]?) r8
    simp only [List.getElem?_take] at h1
    simpa [upto] using h1⟩
  obtain ⟨b, hcurn⟩ := hcurn
  have c0 : w.cell? ⟨s, 0, none⟩ = some (.slice (some ⟨I, 0, none⟩) 1 1) := cell_of h.hs 0
  have c1 : w.cell? ⟨s, 1, none⟩ = some (.slice (some ⟨U, 0, none⟩) 1 1) := cell_of h.hs 1
  have c2 : w.cell? ⟨s, 2, none⟩ = some (.map (some M)) := cell_of h.hs 2
  have c3 : w.cell? ⟨s, 3, none⟩ = some (.pointer (some ⟨F, 0, none⟩)) := cell_of h.hs 3
  have c4 : w.cell? ⟨F, 0, none⟩ = some (.slice (some ⟨g, 0, none⟩) 1 cap) := cell_of h.hF 0
  have l1 := heap_lt h.hs
  have l2 := heap_lt h.hF
  have hL := look_none Tryz.underlying90 Tryz.underlying3 (z := .int .i64 0) (w := w) (by kernel_rfl) h.hM id true
  simp only [if_true] at hL
  have Ln := Len111 1 cap (some ⟨g, 0, none⟩) w
  have Pp := Pop112 F g cap 0 cur _ 0 b 0 w (by omega) (by omega) h.hF r4 o5 hcur0 hcurn rfl
  replace h := Lib.hid h
  clear r1 r4 r5 r6 r7 r8 hcur0 hcurn hcell hfr hlt hc1 hc2
  go_enter Tryz.func71, Tryz.ntmps71
  go_wp2_with fail
  refine Ln.mono ?_
  rintro e w1 ⟨rfl, rfl⟩
  go_wp2_with fail
  refine Pp.mono ?_
  rintro e w1 ⟨rfl, hk, hF1, hg1⟩
  have hT := fun w => assertInt 0 w
  have s1 := hk.at h.out.hs (by simp; omega)
  have I1 := hk.at h.out.hI (by simp; omega)
  have U1 := hk.at h.out.hU (by simp; omega)
  have M1 := hk.at h.out.hM (by simp; omega)
  have d0 : w1.cell? ⟨s, 0, none⟩ = some (.slice (some ⟨I, 0, none⟩) 1 1) := cell_of s1 0
  have d1 : w1.cell? ⟨s, 1, none⟩ = some (.slice (some ⟨U, 0, none⟩) 1 1) := cell_of s1 1
  have d2 : w1.cell? ⟨s, 2, none⟩ = some (.map (some M)) := cell_of s1 2
  have e0 : w1.cell? ⟨I, 0, none⟩ = some (.int .i64 0) := cell_of I1 0
  have e1 : w1.cell? ⟨U, 0, none⟩ = some (.bool false) := cell_of U1 0
  have f0 : w1.frozen? ⟨I, 0, none⟩ = false := frozen_of I1 0
  have f1 : w1.frozen? ⟨U, 0, none⟩ = false := frozen_of U1 0
  have l3 := heap_lt s1
  have l4 := heap_lt I1
  have l5 := heap_lt U1
  have l6 := heap_lt M1
  have hE := entry_none Tryz.underlying90 Tryz.underlying3 (z := .int .i64 0) (w := w1) (by kernel_rfl) M1 id
  go_wp2_with fail
  refine wp_region_any (by kernel_rfl) ?_
  rw [List.size_toArray]
  refine yTake (i := 9) rfl (by kernel_rfl) (fun _ _ _ h => h) (by rfl) (fun _ => by go_simp; first | done | rfl) ?_
  try simp only [Act.put, zA, zB, zC]
  refine yTake (i := 14) rfl (by kernel_rfl) (fun _ _ _ h => h) (by rfl) (fun _ => by go_simp; first | done | rfl) ?_
  try simp only [Act.put, zA, zB, zC]
  refine yTake (i := 16) rfl (by kernel_rfl) (fun _ _ _ h => h) (by rfl) (fun _ => by go_simp; first | done | rfl) ?_
  try simp only [Act.put, zA, zB, zC]
  refine wpAnyS_any (S := fun W => W = w1.drew) (k := 18) _ _ _ ?_ _ rfl
  refine sTake (i := 0) rfl (by kernel_rfl) (fun _ _ _ h => h) (gLoad (by rfl) (fun W hW => by (try dsimp only at hW); subst hW; go_simp; first | done | rfl)) ?_
  try simp only [Act.put, zA, zB, zC]
  refine sTake (i := 1) rfl (by kernel_rfl) (fun _ _ _ h => h) (gLoad (by rfl) (fun W hW => by (try dsimp only at hW); subst hW; go_simp; first | done | rfl)) ?_
  try simp only [Act.put, zA, zB, zC]
  refine sTake (i := 2) rfl (by kernel_rfl) (fun _ _ _ h => h) (gLoad (by rfl) (fun W hW => by (try dsimp only at hW); subst hW; go_simp; first | done | rfl)) ?_
  try simp only [Act.put, zA, zB, zC]
  refine sTake (i := 3) rfl (by kernel_rfl) (fun _ _ _ h => h) (gLoad (by rfl) (fun W hW => by (try dsimp only at hW); subst hW; go_simp; first | done | rfl)) ?_
  try simp only [Act.put, zA, zB, zC]
  refine sTake (i := 4) rfl (by kernel_rfl) (fun _ _ _ h => h) (gLoad (by rfl) (fun W hW => by (try dsimp only at hW); subst hW; go_simp; first | done | rfl)) ?_
  try simp only [Act.put, zA, zB, zC]
  refine sTake (i := 5) rfl (by kernel_rfl) (fun _ _ _ h => h) (gLoad (by rfl) (fun W hW => by (try dsimp only at hW); subst hW; go_simp; first | done | rfl)) ?_
  try simp only [Act.put, zA, zB, zC]
  refine sTake (i := 6) rfl (by kernel_rfl) (fun _ _ _ h => h) (gLoad (by rfl) (fun W hW => by (try dsimp only at hW); subst hW; go_simp; first | done | rfl)) ?_
  try simp only [Act.put, zA, zB, zC]
  refine sTake (i := 7) rfl (by kernel_rfl) (fun _ _ _ h => h) (gLoad (by rfl) (fun W hW => by (try dsimp only at hW); subst hW; go_simp; first | done | rfl)) ?_
  try simp only [Act.put, zA, zB, zC]
  refine sTake (i := 8) rfl (by kernel_rfl) (fun _ _ _ h => h) (gLoad (by rfl) (fun W hW => by (try dsimp only at hW); subst hW; go_simp; first | done | rfl)) ?_
  try simp only [Act.put, zA, zB, zC]
  refine sTake (i := 10) rfl (by kernel_rfl) (fun _ _ _ h => h) (gLoad (by rfl) (fun W hW => by (try dsimp only at hW); subst hW; go_simp; first | done | rfl)) ?_
  try simp only [Act.put, zA, zB, zC]
  refine sTake (i := 11) rfl (by kernel_rfl) (fun _ _ _ h => h) (gLoad (by rfl) (fun W hW => by (try dsimp only at hW); subst hW; go_simp; first | done | rfl)) ?_
  try simp only [Act.put, zA, zB, zC]
  refine sTake (i := 12) rfl (by kernel_rfl) (fun _ _ _ h => h) (gLoad (by rfl) (fun W hW => by (try dsimp only at hW); subst hW; go_simp; first | done | rfl)) ?_
  try simp only [Act.put, zA, zB, zC]
  refine sTake (i := 13) rfl (by kernel_rfl) (fun _ _ _ h => h) (gLoad (by rfl) (fun W hW => by (try dsimp only at hW); subst hW; go_simp; first | done | rfl)) ?_
  try simp only [Act.put, zA, zB, zC]
  refine sTake (i := 15) rfl (by kernel_rfl) (fun _ _ _ h => h) (gLoad (by rfl) (fun W hW => by (try dsimp only at hW); subst hW; go_simp; first | done | rfl)) ?_
  try simp only [Act.put, zA, zB, zC]
  refine sTake (i := 17) rfl (by kernel_rfl) (fun _ _ _ h => h) (gLoad (by rfl) (fun W hW => by (try dsimp only at hW); subst hW; go_simp; first | done | rfl)) ?_
  try simp only [Act.put, zA, zB, zC]
  refine sRest (by kernel_rfl) ?_
  rintro W rfl
  refine aSkip (i := 18) (w' := ?_) rfl (by kernel_rfl) (by rfl) ?_ ?_
  rotate_left 1
  · go_simp; all_goals with_reducible rfl
  try simp only [Act.put, zA, zB, zC]
  refine aVal (i := 19) (v := ?_) rfl (by kernel_rfl) (by rfl) ?_ ?_
  rotate_left 1
  · go_simp; all_goals with_reducible rfl
  try simp only [Act.put, zA, zB, zC]
  refine aSkip (i := 20) (w' := ?_) rfl (by kernel_rfl) (by rfl) ?_ ?_
  rotate_left 1
  · go_simp; all_goals with_reducible rfl
  try simp only [Act.put, zA, zB, zC]
  have M2 : ((w1.setCell ⟨I, 0, none⟩ (.int .i64 id)).setCell ⟨U, 0, none⟩ (.bool true)).drew.heap[M]? = some (.map #[] 0) := by
    show ((w1.setCell ⟨I, 0, none⟩ (.int .i64 id)).setCell ⟨U, 0, none⟩ (.bool true)).heap[M]? = _
    rw [heap_setCell_ne a8, heap_setCell_ne a6, M1]
  have K2 : Kept [I, U, M] w1 ((w1.setCell ⟨I, 0, none⟩ (.int .i64 id)).setCell ⟨U, 0, none⟩ (.bool true)).drew := (((Kept.refl [I, U, M] w1).setCell _ _ (Or.inl (by simp))).setCell _ _ (Or.inl (by simp))).drew
  generalize ((w1.setCell ⟨I, 0, none⟩ (.int .i64 id)).setCell ⟨U, 0, none⟩ (.bool true)).drew = W2 at *
  have hE := entry_none Tryz.underlying90 Tryz.underlying3 (z := .int .i64 0) (w := W2) (by kernel_rfl) M2 id
  have M3 := heap_setBlock (o := .map #[{ key := .int .i64 id, val := .int .i64 0, born := 0 }] (0 + 1)) (heap_lt M2)
  have K3 := K2.setBlock M (.map #[{ key := .int .i64 id, val := .int .i64 0, born := 0 }] (0 + 1)) (Or.inl (by simp))
  generalize Go.ChangeMaps.setBlock W2 M (.map #[{ key := .int .i64 id, val := .int .i64 0, born := 0 }] (0 + 1)) = W3 at *
  have hX : (Instr.entryStore 90 (.map (some M)) (.int .i64 0) (.int .i64 0)).run Tryz.prog W3 = .ok () _ := entry_store (t := 90) M3 (.int .i64 0)
  have M4 := heap_setBlock (o := .map #[{ key := .int .i64 id, val := .int .i64 0, born := 0 }] (0 + 1)) (heap_lt M3)
  have K4 := K3.setBlock M (.map #[{ key := .int .i64 id, val := .int .i64 0, born := 0 }] (0 + 1)) (Or.inl (by simp))
  generalize Go.ChangeMaps.setBlock W3 M (.map #[{ key := .int .i64 id, val := .int .i64 0, born := 0 }] (0 + 1)) = W4 at *
  refine aValW (i := 21) rfl (by kernel_rfl) (by rfl) (by go_simp; first | done | exact ⟨rfl, rfl⟩ | rfl) ?_
  try simp only [Act.put, zA, zB, zC]
  refine aVal (i := 22) (v := ?_) rfl (by kernel_rfl) (by rfl) ?_ ?_
  rotate_left 1
  · go_simp; all_goals with_reducible rfl
  try simp only [Act.put, zA, zB, zC]
  refine aSkip (i := 23) (w' := ?_) rfl (by kernel_rfl) (by rfl) ?_ ?_
  rotate_left 1
  · go_simp; all_goals with_reducible rfl
  try simp only [Act.put, zA, zB, zC]
  refine wpAny_done (by kernel_rfl) ?_ _
  go_wp2_with fail
  go_returns
  refine ⟨rfl, Kept.trans hk K4 (fun x hx => ?_) (fun x hx => Or.inl ?_), M4⟩
  · rw [hg]; simp at hx ⊢; omega
  · simp at hx ⊢; omega
set_option maxHeartbeats 2000000 in
theorem Put71_2 (s I U M F : Nat) (v : Value) (id : Int) (w0 w : World) (h : SlotsW w0 w s I U M F 2 2 v) :
    Calls Tryz.prog 71 #[.pointer (some ⟨s, 0, none⟩), .int .i64 id] w fun e w' => e = .returned (.tuple #[.int .i64 0, .int .i64 0]) ∧ Kept (I :: U :: M :: F :: own v) w w' ∧
      w'.heap[M]? = some (.map #[{ key := .int .i64 id, val := .int .i64 0, born := 0 }] 1) := by
  obtain ⟨⟨a1, a2, a3, a4⟩, ⟨a5, a6, a7⟩, ⟨a8, a9⟩, a10⟩ := h.apart
  obtain ⟨g, cap, rfl, hc1, hc2, hcell, hfr, hlt⟩ := (row_elem (by
    rcases h.row with ⟨c, _, h2, _⟩ | h
    · cases h2
    · exact h) (by omega) : ∃ g cap, v = .slice (some ⟨g, 0, none⟩) 2 cap ∧ _)
  have hg : own (Value.slice (some ⟨g, 0, none⟩) 2 cap) = [g] := by
    cases cap with
    | zero => omega
    | succ c => rfl
  have hoff := h.off g (by rw [hg]; simp)
  obtain ⟨o1, o2, o3, o4, o5, o6⟩ := hoff
  have hrow : w.ownsRow 0 3 1 (Value.slice (some ⟨g, 0, none⟩) 2 cap) 2 (upto 2) := by
    rcases h.row with ⟨c, _, h2, _⟩ | h
    · cases h2
    · exact h
  obtain ⟨r1, r2⟩ := hrow
  rcases r2 with ⟨_, r2⟩ | ⟨g', cap', cur, r3, _, r4, r5, r6, r7, r8⟩
  · cases r2
  cases r3
  have hcur0 : cur[0]? = some (.int .i64 0) := by
    have h1 := congrArg (fun l => l[0]?) r8
    simp only [List.getElem?_take] at h1
    simpa [upto] using h1
  have hcurn : ∃ b : Int, cur[1]? = some (.int .i64 b) := ⟨1, by
    have h1 := congrArg (fun l => l[1]?) r8
    simp only [List.getElem?_take] at h1
    simpa [upto] using h1⟩
  obtain ⟨b, hcurn⟩ := hcurn
  have c0 : w.cell? ⟨s, 0, none⟩ = some (.slice (some ⟨I, 0, none⟩) 2 2) := cell_of h.hs 0
  have c1 : w.cell? ⟨s, 1, none⟩ = some (.slice (some ⟨U, 0, none⟩) 2 2) := cell_of h.hs 1
  have c2 : w.cell? ⟨s, 2, none⟩ = some (.map (some M)) := cell_of h.hs 2
  have c3 : w.cell? ⟨s, 3, none⟩ = some (.pointer (some ⟨F, 0, none⟩)) := cell_of h.hs 3
  have c4 : w.cell? ⟨F, 0, none⟩ = some (.slice (some ⟨g, 0, none⟩) 2 cap) := cell_of h.hF 0
  have l1 := heap_lt h.hs
  have l2 := heap_lt h.hF
  have hL := look_none Tryz.underlying90 Tryz.underlying3 (z := .int .i64 0) (w := w) (by kernel_rfl) h.hM id true
  simp only [if_true] at hL
  have Ln := Len111 2 cap (some ⟨g, 0, none⟩) w
  have Pp := Pop112 F g cap 1 cur _ 0 b 0 w (by omega) (by omega) h.hF r4 o5 hcur0 hcurn rfl
  replace h := Lib.hid h
  clear r1 r4 r5 r6 r7 r8 hcur0 hcurn hcell hfr hlt hc1 hc2
  go_enter Tryz.func71, Tryz.ntmps71
  go_wp2_with fail
  refine Ln.mono ?_
  rintro e w1 ⟨rfl, rfl⟩
  go_wp2_with fail
  refine Pp.mono ?_
  rintro e w1 ⟨rfl, hk, hF1, hg1⟩
  have hT := fun w => assertInt 0 w
  have s1 := hk.at h.out.hs (by simp; omega)
  have I1 := hk.at h.out.hI (by simp; omega)
  have U1 := hk.at h.out.hU (by simp; omega)
  have M1 := hk.at h.out.hM (by simp; omega)
  have d0 : w1.cell? ⟨s, 0, none⟩ = some (.slice (some ⟨I, 0, none⟩) 2 2) := cell_of s1 0
  have d1 : w1.cell? ⟨s, 1, none⟩ = some (.slice (some ⟨U, 0, none⟩) 2 2) := cell_of s1 1
  have d2 : w1.cell? ⟨s, 2, none⟩ = some (.map (some M)) := cell_of s1 2
  have e0 : w1.cell? ⟨I, 0, none⟩ = some (.int .i64 0) := cell_of I1 0
  have e1 : w1.cell? ⟨U, 0, none⟩ = some (.bool false) := cell_of U1 0
  have f0 : w1.frozen? ⟨I, 0, none⟩ = false := frozen_of I1 0
  have f1 : w1.frozen? ⟨U, 0, none⟩ = false := frozen_of U1 0
  have l3 := heap_lt s1
  have l4 := heap_lt I1
  have l5 := heap_lt U1
  have l6 := heap_lt M1
  have hE := entry_none Tryz.underlying90 Tryz.underlying3 (z := .int .i64 0) (w := w1) (by kernel_rfl) M1 id
  go_wp2_with fail
  refine wp_region_any (by kernel_rfl) ?_
  rw [List.size_toArray]
  refine yTake (i := 9) rfl (by kernel_rfl) (fun _ _ _ h => h) (by rfl) (fun _ => by go_simp; first | done | rfl) ?_
  try simp only [Act.put, zA, zB, zC]
  refine yTake (i := 14) rfl (by kernel_rfl) (fun _ _ _ h => h) (by rfl) (fun _ => by go_simp; first | done | rfl) ?_
  try simp only [Act.put, zA, zB, zC]
  refine yTake (i := 16) rfl (by kernel_rfl) (fun _ _ _ h => h) (by rfl) (fun _ => by go_simp; first | done | rfl) ?_
  try simp only [Act.put, zA, zB, zC]
  refine wpAnyS_any (S := fun W => W = w1.drew) (k := 18) _ _ _ ?_ _ rfl
  refine sTake (i := 0) rfl (by kernel_rfl) (fun _ _ _ h => h) (gLoad (by rfl) (fun W hW => by (try dsimp only at hW); subst hW; go_simp; first | done | rfl)) ?_
  try simp only [Act.put, zA, zB, zC]
  refine sTake (i := 1) rfl (by kernel_rfl) (fun _ _ _ h => h) (gLoad (by rfl) (fun W hW => by (try dsimp only at hW); subst hW; go_simp; first | done | rfl)) ?_
  try simp only [Act.put, zA, zB, zC]
  refine sTake (i := 2) rfl (by kernel_rfl) (fun _ _ _ h => h) (gLoad (by rfl) (fun W hW => by (try dsimp only at hW); subst hW; go_simp; first | done | rfl)) ?_
  try simp only [Act.put, zA, zB, zC]
  refine sTake (i := 3) rfl (by kernel_rfl) (fun _ _ _ h => h) (gLoad (by rfl) (fun W hW => by (try dsimp only at hW); subst hW; go_simp; first | done | rfl)) ?_
  try simp only [Act.put, zA, zB, zC]
  refine sTake (i := 4) rfl (by kernel_rfl) (fun _ _ _ h => h) (gLoad (by rfl) (fun W hW => by (try dsimp only at hW); subst hW; go_simp; first | done | rfl)) ?_
  try simp only [Act.put, zA, zB, zC]
  refine sTake (i := 5) rfl (by kernel_rfl) (fun _ _ _ h => h) (gLoad (by rfl) (fun W hW => by (try dsimp only at hW); subst hW; go_simp; first | done | rfl)) ?_
  try simp only [Act.put, zA, zB, zC]
  refine sTake (i := 6) rfl (by kernel_rfl) (fun _ _ _ h => h) (gLoad (by rfl) (fun W hW => by (try dsimp only at hW); subst hW; go_simp; first | done | rfl)) ?_
  try simp only [Act.put, zA, zB, zC]
  refine sTake (i := 7) rfl (by kernel_rfl) (fun _ _ _ h => h) (gLoad (by rfl) (fun W hW => by (try dsimp only at hW); subst hW; go_simp; first | done | rfl)) ?_
  try simp only [Act.put, zA, zB, zC]
  refine sTake (i := 8) rfl (by kernel_rfl) (fun _ _ _ h => h) (gLoad (by rfl) (fun W hW => by (try dsimp only at hW); subst hW; go_simp; first | done | rfl)) ?_
  try simp only [Act.put, zA, zB, zC]
  refine sTake (i := 10) rfl (by kernel_rfl) (fun _ _ _ h => h) (gLoad (by rfl) (fun W hW => by (try dsimp only at hW); subst hW; go_simp; first | done | rfl)) ?_
  try simp only [Act.put, zA, zB, zC]
  refine sTake (i := 11) rfl (by kernel_rfl) (fun _ _ _ h => h) (gLoad (by rfl) (fun W hW => by (try dsimp only at hW); subst hW; go_simp; first | done | rfl)) ?_
  try simp only [Act.put, zA, zB, zC]
  refine sTake (i := 12) rfl (by kernel_rfl) (fun _ _ _ h => h) (gLoad (by rfl) (fun W hW => by (try dsimp only at hW); subst hW; go_simp; first | done | rfl)) ?_
  try simp only [Act.put, zA, zB, zC]
  refine sTake (i := 13) rfl (by kernel_rfl) (fun _ _ _ h => h) (gLoad (by rfl) (fun W hW => by (try dsimp only at hW); subst hW; go_simp; first | done | rfl)) ?_
  try simp only [Act.put, zA, zB, zC]
  refine sTake (i := 15) rfl (by kernel_rfl) (fun _ _ _ h => h) (gLoad (by rfl) (fun W hW => by (try dsimp only at hW); subst hW; go_simp; first | done | rfl)) ?_
  try simp only [Act.put, zA, zB, zC]
  refine sTake (i := 17) rfl (by kernel_rfl) (fun _ _ _ h => h) (gLoad (by rfl) (fun W hW => by (try dsimp only at hW); subst hW; go_simp; first | done | rfl)) ?_
  try simp only [Act.put, zA, zB, zC]
  refine sRest (by kernel_rfl) ?_
  rintro W rfl
  refine aSkip (i := 18) (w' := ?_) rfl (by kernel_rfl) (by rfl) ?_ ?_
  rotate_left 1
  · go_simp; all_goals with_reducible rfl
  try simp only [Act.put, zA, zB, zC]
  refine aVal (i := 19) (v := ?_) rfl (by kernel_rfl) (by rfl) ?_ ?_
  rotate_left 1
  · go_simp; all_goals with_reducible rfl
  try simp only [Act.put, zA, zB, zC]
  refine aSkip (i := 20) (w' := ?_) rfl (by kernel_rfl) (by rfl) ?_ ?_
  rotate_left 1
  · go_simp; all_goals with_reducible rfl
  try simp only [Act.put, zA, zB, zC]
  have M2 : ((w1.setCell ⟨I, 0, none⟩ (.int .i64 id)).setCell ⟨U, 0, none⟩ (.bool true)).drew.heap[M]? = some (.map #[] 0) := by
    show ((w1.setCell ⟨I, 0, none⟩ (.int .i64 id)).setCell ⟨U, 0, none⟩ (.bool true)).heap[M]? = _
    rw [heap_setCell_ne a8, heap_setCell_ne a6, M1]
  have K2 : Kept [I, U, M] w1 ((w1.setCell ⟨I, 0, none⟩ (.int .i64 id)).setCell ⟨U, 0, none⟩ (.bool true)).drew := (((Kept.refl [I, U, M] w1).setCell _ _ (Or.inl (by simp))).setCell _ _ (Or.inl (by simp))).drew
  generalize ((w1.setCell ⟨I, 0, none⟩ (.int .i64 id)).setCell ⟨U, 0, none⟩ (.bool true)).drew = W2 at *
  have hE := entry_none Tryz.underlying90 Tryz.underlying3 (z := .int .i64 0) (w := W2) (by kernel_rfl) M2 id
  have M3 := heap_setBlock (o := .map #[{ key := .int .i64 id, val := .int .i64 0, born := 0 }] (0 + 1)) (heap_lt M2)
  have K3 := K2.setBlock M (.map #[{ key := .int .i64 id, val := .int .i64 0, born := 0 }] (0 + 1)) (Or.inl (by simp))
  generalize Go.ChangeMaps.setBlock W2 M (.map #[{ key := .int .i64 id, val := .int .i64 0, born := 0 }] (0 + 1)) = W3 at *
  have hX : (Instr.entryStore 90 (.map (some M)) (.int .i64 0) (.int .i64 0)).run Tryz.prog W3 = .ok () _ := entry_store (t := 90) M3 (.int .i64 0)
  have M4 := heap_setBlock (o := .map #[{ key := .int .i64 id, val := .int .i64 0, born := 0 }] (0 + 1)) (heap_lt M3)
  have K4 := K3.setBlock M (.map #[{ key := .int .i64 id, val := .int .i64 0, born := 0 }] (0 + 1)) (Or.inl (by simp))
  generalize Go.ChangeMaps.setBlock W3 M (.map #[{ key := .int .i64 id, val := .int .i64 0, born := 0 }] (0 + 1)) = W4 at *
  refine aValW (i := 21) rfl (by kernel_rfl) (by rfl) (by go_simp; first | done | exact ⟨rfl, rfl⟩ | rfl) ?_
  try simp only [Act.put, zA, zB, zC]
  refine aVal (i := 22) (v := ?_) rfl (by kernel_rfl) (by rfl) ?_ ?_
  rotate_left 1
  · go_simp; all_goals with_reducible rfl
  try simp only [Act.put, zA, zB, zC]
  refine aSkip (i := 23) (w' := ?_) rfl (by kernel_rfl) (by rfl) ?_ ?_
  rotate_left 1
  · go_simp; all_goals with_reducible rfl
  try simp only [Act.put, zA, zB, zC]
  refine wpAny_done (by kernel_rfl) ?_ _
  go_wp2_with fail
  go_returns
  refine ⟨rfl, Kept.trans hk K4 (fun x hx => ?_) (fun x hx => Or.inl ?_), M4⟩
  · rw [hg]; simp at hx ⊢; omega
  · simp at hx ⊢; omega
end
end Go.Proofs.YtgfbfklnhmndfaaGreat
