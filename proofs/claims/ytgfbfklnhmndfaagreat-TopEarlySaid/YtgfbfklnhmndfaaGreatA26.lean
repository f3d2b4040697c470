/- The parts of the top that the law of early release walks through: part 26 of 52. -/
import Derived.Laws.LoneSync
import Derived.Test.YtgfbfklnhmndfaaGreatA1
import Derived.Test.YtgfbfklnhmndfaaGreatA3
import Derived.Test.YtgfbfklnhmndfaaGreatA4
import Derived.Test.YtgfbfklnhmndfaaGreatA9
import Derived.Test.YtgfbfklnhmndfaaGreatA10
import Derived.Test.YtgfbfklnhmndfaaGreatA11
import Derived.Test.YtgfbfklnhmndfaaGreatA13
import Derived.Test.YtgfbfklnhmndfaaGreatA15
import Derived.Test.YtgfbfklnhmndfaaGreatA18
import Derived.Test.YtgfbfklnhmndfaaGreatA20
import Derived.Test.YtgfbfklnhmndfaaGreatA21
import Derived.Test.YtgfbfklnhmndfaaGreatA24
namespace Go.Proofs.YtgfbfklnhmndfaaGreat
open Go.RowKit
set_option linter.unusedSimpArgs false
set_option linter.unusedVariables false
section
attribute [local go_sem ↓] setCell_drewN alloc_drewN grow_cell grow_frozen setCell_grow grow_size cell_alloc_grow frozen_alloc_grow setCell_alloc_grow cell_grow_alloc_grow frozen_grow_alloc_grow setCell_grow_alloc_grow grow_grow
attribute [local go_sem] lt_len size_setCell
theorem lagNew21 (w : World) : Calls Tryz.prog 21 #[] w fun e w' => ∃ b, e = .returned (.pointer (some ⟨b, 0, none⟩)) ∧ w.heap.size ≤ b ∧ Kept [] w w' ∧ w'.heap[b]? = some (.cells #[.int .i64 0, .int .i64 1] 105 (0, 0)) := by
  go_enter Tryz.func21, Tryz.ntmps21
  go_wp2_with fail
  go_returns
  exact ⟨_, rfl, Nat.le_refl _, (Kept.refl _ _).alloc _, heap_alloc_new⟩
theorem slackNew22 (w : World) : Calls Tryz.prog 22 #[] w fun e w' => ∃ b, e = .returned (.pointer (some ⟨b, 0, none⟩)) ∧ w.heap.size ≤ b ∧ Kept [] w w' ∧ w'.heap[b]? = some (.cells #[.slice none 0 0] 108 (0, 0)) := by
  go_enter Tryz.func22, Tryz.ntmps22
  go_wp2_with fail
  go_returns
  exact ⟨_, rfl, Nat.le_refl _, (Kept.refl _ _).alloc _, heap_alloc_new⟩
theorem meterNew24 (w : World) : Calls Tryz.prog 24 #[] w fun e w' => ∃ b, e = .returned (.pointer (some ⟨b, 0, none⟩)) ∧ w.heap.size ≤ b ∧ Kept [] w w' ∧ w'.heap[b]? = some (.cells #[.int .i64 0, .int .i64 0, .int .i64 0, .int .i64 0, .int .i64 0] 119 (0, 0)) := by
  go_enter Tryz.func24, Tryz.ntmps24
  go_wp2_with fail
  go_returns
  exact ⟨_, rfl, Nat.le_refl _, (Kept.refl _ _).alloc _, heap_alloc_new⟩
theorem sliceNew20 (w : World) : Calls Tryz.prog 20 #[.int .i64 1] w fun e w' => ∃ b, e = .returned (.pointer (some ⟨b, 0, none⟩)) ∧ w.heap.size ≤ b ∧ Kept [] w w' ∧ w'.heap[b]? = some (.cells #[.int .i64 1, .bool false, .int .i64 0, .slice none 0 0] 103 (0, 0)) := by
  go_enter Tryz.func20, Tryz.ntmps20
  go_wp2_with fail
  go_returns
  exact ⟨_, rfl, Nat.le_refl _, (Kept.refl _ _).alloc _, heap_alloc_new⟩
theorem mkEntries0 (W : World) : (Instr.makeSlice 109 (.int .i64 0) (.int .i64 0)).run Tryz.prog W = .ok (.slice (some ⟨W.heap.size, 0, none⟩) 0 0) (W.alloc (.cells #[] 204)) := by kernel_rfl
theorem ledgerNew17 (w : World) : Calls Tryz.prog 17 #[.int .i64 1] w fun e w' => ∃ b A B, e = .returned (.pointer (some ⟨b, 0, none⟩)) ∧ w.heap.size ≤ b ∧ w.heap.size ≤ A ∧ w.heap.size ≤ B ∧ A ≠ B ∧ A ≠ b ∧ B ≠ b ∧ Kept [] w w' ∧ w'.heap[b]? = some (.cells #[.int .i64 1, .map (some A), .map (some B), .int .i64 0, .int .i64 1] 92 (0, 0)) ∧ w'.heap[A]? = some (.map #[] 0) ∧ w'.heap[B]? = some (.map #[] 0) := by
  have hM := fun w => run_makeMap (P := Tryz.prog) 89 w
  have hM2 := fun w => run_makeMap (P := Tryz.prog) 90 w
  go_enter Tryz.func17, Tryz.ntmps17
  go_wp2_with fail
  go_returns
  refine ⟨w.heap.size + 2, w.heap.size, w.heap.size + 1, rfl, by omega, by omega, by omega, by omega, by omega, by omega, (((Kept.refl _ _).alloc _).alloc _).alloc _, ?_, ?_, ?_⟩
  · have := heap_alloc_two (w.alloc (.map #[] 0)) (.map #[] 0) (.cells #[.int .i64 1, .map (some w.heap.size), .map (some (w.heap.size + 1)), .int .i64 0, .int .i64 1] 92)
    rw [World.size_alloc] at this
    exact this
  · exact (heap_alloc (by simp; omega)).trans ((heap_alloc (by simp)).trans heap_alloc_new)
  · exact (heap_alloc (by simp)).trans (heap_alloc_two _ _ _)
theorem seatNew34 (w : World) : Calls Tryz.prog 34 #[.int .i64 1] w fun e w' => ∃ b A B, e = .returned (.pointer (some ⟨b, 0, none⟩)) ∧ w.heap.size ≤ b ∧ w.heap.size ≤ A ∧ w.heap.size ≤ B ∧ A ≠ B ∧ A ≠ b ∧ B ≠ b ∧ Kept [] w w' ∧ w'.heap[b]? = some (.cells #[.int .i64 1, .map (some A), .map (some B)] 136 (0, 0)) ∧ w'.heap[A]? = some (.map #[] 0) ∧ w'.heap[B]? = some (.map #[] 0) := by
  have hM2 := fun w => run_makeMap (P := Tryz.prog) 90 w
  go_enter Tryz.func34, Tryz.ntmps34
  go_wp2_with fail
  go_returns
  refine ⟨w.heap.size + 2, w.heap.size, w.heap.size + 1, rfl, by omega, by omega, by omega, by omega, by omega, by omega, (((Kept.refl _ _).alloc _).alloc _).alloc _, ?_, ?_, ?_⟩
  · have := heap_alloc_two (w.alloc (.map #[] 0)) (.map #[] 0) (.cells #[.int .i64 1, .map (some w.heap.size), .map (some (w.heap.size + 1))] 136)
    rw [World.size_alloc] at this
    exact this
  · exact (heap_alloc (by simp; omega)).trans ((heap_alloc (by simp)).trans heap_alloc_new)
  · exact (heap_alloc (by simp)).trans (heap_alloc_two _ _ _)
theorem quantNew19 (early : Bool) (w : World) : Calls Tryz.prog 19 #[.int .i64 1, .bool early] w fun e w' => ∃ q sp N L, e = .returned (.pointer (some ⟨q, 0, none⟩)) ∧ w.heap.size ≤ q ∧ w.heap.size ≤ sp ∧ w.heap.size ≤ N ∧ w.heap.size ≤ L ∧ N ≠ L ∧ Kept [] w w' ∧ ∀ id, QuantAt w' q sp N L early id := by
  have S := fun w => seatNew34 w
  go_enter Tryz.func19, Tryz.ntmps19
  go_wp2_with fail
  refine (S _).mono ?_
  rintro e w1 ⟨sp, N, L, rfl, h1, h2, h3, h4, h5, h6, hk, s1, s2, s3⟩
  go_wp2_with fail
  go_returns
  have k2 : Kept [] w1 (w1.alloc (.cells #[.int .i64 1, .bool early, .pointer (some ⟨sp, 0, none⟩)] 101)) := (Kept.refl _ _).alloc _
  exact ⟨_, sp, N, L, rfl, hk.1, h1, h2, h3, h4, hk.alloc _, fun id => ⟨heap_alloc_new, k2.at s1 (by simp), ⟨_, _, k2.at s2 (by simp), Or.inl rfl⟩, ⟨_, _, k2.at s3 (by simp), Or.inl rfl⟩⟩⟩
end
section
attribute [local go_sem ↓] setCell_drewN alloc_drewN grow_cell grow_frozen setCell_grow grow_size cell_alloc_grow frozen_alloc_grow setCell_alloc_grow cell_grow_alloc_grow frozen_grow_alloc_grow setCell_grow_alloc_grow grow_grow
attribute [local go_sem] lt_len size_setCell
theorem mkTasks1 (W : World) : (Instr.makeSlice 95 (.int .i64 1) (.int .i64 1)).run Tryz.prog W = .ok (.slice (some ⟨W.heap.size, 0, none⟩) 1 1) (W.alloc (.cells #[.int .i64 0, .int .i64 0, .int .i64 0, .bool false, .bool false, .bool false, .bool false, .int .i64 0, .int .i64 0, .bool false, .int .i64 0] 143)) := by kernel_rfl
theorem mkTasks2 (W : World) : (Instr.makeSlice 95 (.int .i64 2) (.int .i64 2)).run Tryz.prog W = .ok (.slice (some ⟨W.heap.size, 0, none⟩) 2 2) (W.alloc (.cells #[.int .i64 0, .int .i64 0, .int .i64 0, .bool false, .bool false, .bool false, .bool false, .int .i64 0, .int .i64 0, .bool false, .int .i64 0, .int .i64 0, .int .i64 0, .int .i64 0, .bool false, .bool false, .bool false, .bool false, .int .i64 0, .int .i64 0, .bool false, .int .i64 0] 143)) := by kernel_rfl
/-- So many tasks' cells of nought. -/
def noughts : Nat → List Value
  | 0 => []
  | n + 1 => [.int .i64 0, .int .i64 0, .int .i64 0, .bool false, .bool false, .bool false, .bool false, .int .i64 0, .int .i64 0, .bool false, .int .i64 0] ++ noughts n
theorem SlotsW.moved {wa wb w0 w : World} {s I U M F n : Nat} {v : Value} (hn : 0 < n) (h : SlotsW wa wb s I U M F n n v) (he : ∀ b, wa.heap.size ≤ b → b < wb.heap.size → w.heap[b]? = wb.heap[b]?) (hk : Kept [] w0 w) (h0 : w0.heap.size ≤ wa.heap.size) : SlotsW w0 w s I U M F n n v := by
  obtain ⟨b1, b2, b3, b4, b5⟩ := h.new
  have hrow : wb.ownsRow 0 3 1 v n (upto n) := by
    rcases h.row with ⟨c, _, h2, _⟩ | hr
    · omega
    · exact hr
  have hown := own_sub hrow hn
  refine ⟨(he s b1 (heap_lt h.hs)).trans h.hs, (he I b2 (heap_lt h.hI)).trans h.hI, (he U b3 (heap_lt h.hU)).trans h.hU, (he M b4 (heap_lt h.hM)).trans h.hM, (he F b5 (heap_lt h.hF)).trans h.hF, Or.inr (row_of_heap hrow fun g hg => he g ?_ (row_lt hrow hg)), fun g hg => ?_, hk, ⟨by omega, by omega, by omega, by omega, by omega⟩, h.apart⟩
  · exact (h.off g (by rw [hown, hg]; simp)).2.2.2.2.2
  · have := h.off g hg
    omega
def jobsY (n : Nat) (cs : Array Value) (i : Nat) (v : Value) (lo hi : Nat) (w : World) : Prop := match i with
  | 0 => v = .int .i64 n
  | 1 => ∃ s I U M F u, v = .pointer (some ⟨s, 0, none⟩) ∧ ∃ wa wb : World, SlotsW wa wb s I U M F n n u ∧ lo = wa.heap.size ∧ hi = wb.heap.size ∧ ∀ b, lo ≤ b → b < hi → w.heap[b]? = wb.heap[b]?
  | 2 => v = .int .i64 n
  | 3 => ∃ b, lo ≤ b ∧ b < hi ∧ v = .slice (some ⟨b, 0, none⟩) n n ∧ w.heap[b]? = some (.cells cs 143 (0, 0))
  | _ => True
set_option maxHeartbeats 1000000 in
theorem jobsNew1 (w : World) : Calls Tryz.prog 18 #[.int .i64 1] w fun e w' => ∃ j L s I U M F v, e = .returned (.pointer (some ⟨j, 0, none⟩)) ∧ SlotsW w w' s I U M F 1 1 v ∧ w'.heap[j]? = some (.cells #[.pointer (some ⟨s, 0, none⟩), .slice (some ⟨L, 0, none⟩) 1 1] 97 (0, 0)) ∧ w'.heap[L]? = some (.cells #[.int .i64 0, .int .i64 0, .int .i64 0, .bool false, .bool false, .bool false, .bool false, .int .i64 0, .int .i64 0, .bool false, .int .i64 0] 143 (0, 0)) ∧ w.heap.size ≤ j ∧ w.heap.size ≤ L ∧ L ∉ own v ∧ j ∉ own v := by
  have N := fun w => slotsNew1 w
  have hMk := fun w => mkTasks1 w
  go_enter Tryz.func18, Tryz.ntmps18
  go_wp2_with fail
  refine bornA 6 4 (jobsY 1 #[.int .i64 0, .int .i64 0, .int .i64 0, .bool false, .bool false, .bool false, .bool false, .int .i64 0, .int .i64 0, .bool false, .int .i64 0]) (by kernel_rfl) (by kernel_rfl) (by kernel_rfl) ?_ ?_ ?_
  · intro i v lo hi w w' hY hw
    unfold jobsY at *
    split at hY
    · exact hY
    · obtain ⟨s, I, U, M, F, u, h1, wa, wb, h2, h3, h4, h5⟩ := hY
      exact ⟨s, I, U, M, F, u, h1, wa, wb, h2, h3, h4, fun b hb1 hb2 => (hw b hb1 hb2).trans (h5 b hb1 hb2)⟩
    · exact hY
    · obtain ⟨b, h1, h2, h3, h4⟩ := hY
      exact ⟨b, h1, h2, h3, by rw [hw b h1 h2]; exact h4⟩
    · trivial
  · intro i hi o ho a W hr hd hk
    rcases i with _ | _ | _ | _ | i
    · cases ho
      have h0 : a.tmps.getD 0 undef = .int .i64 1 := hr 0 (by kernel_rfl)
      clear hr hd hk hMk
      exact born_value _ (by go_simp; try rfl) rfl
    · cases ho
      obtain ⟨_, _, h8⟩ := hd 0 6 (by kernel_rfl) (by kernel_rfl)
      have h8 : a.tmps.getD 6 undef = .int .i64 1 := h8
      clear hr hd hk hMk
      refine Or.inr ⟨_, _, W, by go_simp; first | done | rfl | exact ⟨rfl, rfl⟩, (N W).mono ?_⟩
      rintro e' w' ⟨s, I, U, M, F, u, rfl, hS⟩
      exact ⟨_, rfl, hS.kept, s, I, U, M, F, u, rfl, W, w', hS, rfl, rfl, fun b _ _ => rfl⟩
    · cases ho
      have h0 : a.tmps.getD 0 undef = .int .i64 1 := hr 0 (by kernel_rfl)
      clear hr hd hk hMk
      exact born_value _ (by go_simp; try rfl) rfl
    · cases ho
      obtain ⟨_, _, h8⟩ := hd 2 8 (by kernel_rfl) (by kernel_rfl)
      have h8 : a.tmps.getD 8 undef = .int .i64 1 := h8
      clear hr hd hk
      refine born_alloc _ _ (by go_simp; first | done | rfl | exact ⟨rfl, rfl⟩) ⟨W.heap.size, by omega, by omega, rfl, heap_alloc_new⟩
    · omega
  · intro vs lo hi W hK h1 h2
    have y0 : vs 0 = .int .i64 1 := (h1 0 (by omega)).2.2.2
    have y2 : vs 2 = .int .i64 1 := (h1 2 (by omega)).2.2.2
    obtain ⟨p1, p2, p3, s, I, U, M, F, u, y1, wa, wb, q1, q2, q3, q4⟩ := h1 1 (by omega)
    obtain ⟨r1, r2, r3, L, t1, t2, y3, t3⟩ := h1 3 (by omega)
    have ap := h2 1 3 (by omega) (by omega) (by omega)
    simp only [fillA, Nat.reduceAdd, List.setIfInBounds_toArray, List.set_cons_succ, List.set_cons_zero]
    rw [y0, y1, y2, y3]
    show wpAny _ _ _ _ 3 _ _ _
    have hS : SlotsW w W s I U M F 1 1 u := q1.moved (by omega) (fun b hb1 hb2 => q4 b (by omega) (by omega)) hK (by omega)
    have hL : L ∉ own u := fun hin => by
      have := q1.off L hin
      have hh := hS.off L hin
      have hl : L < wb.heap.size := by
        have hrow : wb.ownsRow 0 3 1 u 1 (upto 1) := by
          rcases q1.row with ⟨c, _, h2, _⟩ | hr
          · omega
          · exact hr
        have hown := own_sub hrow (by omega)
        rw [hown] at hin
        exact row_lt hrow (by simpa using hin)
      omega
    have st := Lib.hid (And.intro hS (And.intro t3 (And.intro (show w.heap.size ≤ L by omega) hL)))
    clear y0 y1 y2 y3 h1 h2 p1 p2 p3 q1 q2 q3 q4 r1 r2 r3 t1 t2 t3 ap hK hS hL N hMk
    refine aVal (i := 4) (v := ?_) rfl (by kernel_rfl) (by rfl) ?_ ?_
    rotate_left 1
    · go_simp; all_goals with_reducible rfl
    try simp only [Act.put, zA, zB, zC]
    refine aValW (i := 5) rfl (by kernel_rfl) (by rfl) (by go_simp; first | done | exact ⟨rfl, rfl⟩ | rfl) ?_
    try simp only [Act.put, zA, zB, zC]
    refine aVal (i := 6) (v := ?_) rfl (by kernel_rfl) (by rfl) ?_ ?_
    rotate_left 1
    · go_simp; all_goals with_reducible rfl
    try simp only [Act.put, zA, zB, zC]
    refine wpAny_done (by kernel_rfl) ?_ _
    go_wp2_with fail
    go_returns
    obtain ⟨hS, t3, hL1, hL2⟩ := st.out
    have kx : Kept [] W (W.alloc (.cells #[.pointer (some ⟨s, 0, none⟩), .slice (some ⟨L, 0, none⟩) 1 1] 97)) := (Kept.refl _ _).alloc _
    have hj : W.heap.size ∉ own u := fun hin => by
      have hrow : W.ownsRow 0 3 1 u 1 (upto 1) := by
        rcases hS.row with ⟨c, _, h2, _⟩ | hr
        · omega
        · exact hr
      have hown := own_sub hrow (by omega)
      rw [hown] at hin
      have := row_lt hrow (by simpa using hin)
      omega
    exact ⟨_, L, s, I, U, M, F, u, rfl, hS.moved (by omega) (fun b _ hb => kx.2 b hb (by simp)) (hS.kept.alloc _) (Nat.le_refl _), heap_alloc_new, kx.at t3 (by simp), hS.kept.1, hL1, hL2, hj⟩
set_option maxHeartbeats 1000000 in
theorem jobsNew2 (w : World) : Calls Tryz.prog 18 #[.int .i64 2] w fun e w' => ∃ j L s I U M F v, e = .returned (.pointer (some ⟨j, 0, none⟩)) ∧ SlotsW w w' s I U M F 2 2 v ∧ w'.heap[j]? = some (.cells #[.pointer (some ⟨s, 0, none⟩), .slice (some ⟨L, 0, none⟩) 2 2] 97 (0, 0)) ∧ w'.heap[L]? = some (.cells #[.int .i64 0, .int .i64 0, .int .i64 0, .bool false, .bool false, .bool false, .bool false, .int .i64 0, .int .i64 0, .bool false, .int .i64 0, .int .i64 0, .int .i64 0, .int .i64 0, .bool false, .bool false, .bool false, .bool false, .int .i64 0, .int .i64 0, .bool false, .int .i64 0] 143 (0, 0)) ∧ w.heap.size ≤ j ∧ w.heap.size ≤ L ∧ L ∉ own v ∧ j ∉ own v := by
  have N := fun w => slotsNew2 w
  have hMk := fun w => mkTasks2 w
  go_enter Tryz.func18, Tryz.ntmps18
  go_wp2_with fail
  refine bornA 6 4 (jobsY 2 #[.int .i64 0, .int .i64 0, .int .i64 0, .bool false, .bool false, .bool false, .bool false, .int .i64 0, .int .i64 0, .bool false, .int .i64 0, .int .i64 0, .int .i64 0, .int .i64 0, .bool false, .bool false, .bool false, .bool false, .int .i64 0, .int .i64 0, .bool false, .int .i64 0]) (by kernel_rfl) (by kernel_rfl) (by kernel_rfl) ?_ ?_ ?_
  · intro i v lo hi w w' hY hw
    unfold jobsY at *
    split at hY
    · exact hY
    · obtain ⟨s, I, U, M, F, u, h1, wa, wb, h2, h3, h4, h5⟩ := hY
      exact ⟨s, I, U, M, F, u, h1, wa, wb, h2, h3, h4, fun b hb1 hb2 => (hw b hb1 hb2).trans (h5 b hb1 hb2)⟩
    · exact hY
    · obtain ⟨b, h1, h2, h3, h4⟩ := hY
      exact ⟨b, h1, h2, h3, by rw [hw b h1 h2]; exact h4⟩
    · trivial
  · intro i hi o ho a W hr hd hk
    rcases i with _ | _ | _ | _ | i
    · cases ho
      have h0 : a.tmps.getD 0 undef = .int .i64 2 := hr 0 (by kernel_rfl)
      clear hr hd hk hMk
      exact born_value _ (by go_simp; try rfl) rfl
    · cases ho
      obtain ⟨_, _, h8⟩ := hd 0 6 (by kernel_rfl) (by kernel_rfl)
      have h8 : a.tmps.getD 6 undef = .int .i64 2 := h8
      clear hr hd hk hMk
      refine Or.inr ⟨_, _, W, by go_simp; first | done | rfl | exact ⟨rfl, rfl⟩, (N W).mono ?_⟩
      rintro e' w' ⟨s, I, U, M, F, u, rfl, hS⟩
      exact ⟨_, rfl, hS.kept, s, I, U, M, F, u, rfl, W, w', hS, rfl, rfl, fun b _ _ => rfl⟩
    · cases ho
      have h0 : a.tmps.getD 0 undef = .int .i64 2 := hr 0 (by kernel_rfl)
      clear hr hd hk hMk
      exact born_value _ (by go_simp; try rfl) rfl
    · cases ho
      obtain ⟨_, _, h8⟩ := hd 2 8 (by kernel_rfl) (by kernel_rfl)
      have h8 : a.tmps.getD 8 undef = .int .i64 2 := h8
      clear hr hd hk
      refine born_alloc _ _ (by go_simp; first | done | rfl | exact ⟨rfl, rfl⟩) ⟨W.heap.size, by omega, by omega, rfl, heap_alloc_new⟩
    · omega
  · intro vs lo hi W hK h1 h2
    have y0 : vs 0 = .int .i64 2 := (h1 0 (by omega)).2.2.2
    have y2 : vs 2 = .int .i64 2 := (h1 2 (by omega)).2.2.2
    obtain ⟨p1, p2, p3, s, I, U, M, F, u, y1, wa, wb, q1, q2, q3, q4⟩ := h1 1 (by omega)
    obtain ⟨r1, r2, r3, L, t1, t2, y3, t3⟩ := h1 3 (by omega)
    have ap := h2 1 3 (by omega) (by omega) (by omega)
    simp only [fillA, Nat.reduceAdd, List.setIfInBounds_toArray, List.set_cons_succ, List.set_cons_zero]
    rw [y0, y1, y2, y3]
    show wpAny _ _ _ _ 3 _ _ _
    have hS : SlotsW w W s I U M F 2 2 u := q1.moved (by omega) (fun b hb1 hb2 => q4 b (by omega) (by omega)) hK (by omega)
    have hL : L ∉ own u := fun hin => by
      have := q1.off L hin
      have hh := hS.off L hin
      have hl : L < wb.heap.size := by
        have hrow : wb.ownsRow 0 3 1 u 2 (upto 2) := by
          rcases q1.row with ⟨c, _, h2, _⟩ | hr
          · omega
          · exact hr
        have hown := own_sub hrow (by omega)
        rw [hown] at hin
        exact row_lt hrow (by simpa using hin)
      omega
    have st := Lib.hid (And.intro hS (And.intro t3 (And.intro (show w.heap.size ≤ L by omega) hL)))
    clear y0 y1 y2 y3 h1 h2 p1 p2 p3 q1 q2 q3 q4 r1 r2 r3 t1 t2 t3 ap hK hS hL N hMk
    refine aVal (i := 4) (v := ?_) rfl (by kernel_rfl) (by rfl) ?_ ?_
    rotate_left 1
    · go_simp; all_goals with_reducible rfl
    try simp only [Act.put, zA, zB, zC]
    refine aValW (i := 5) rfl (by kernel_rfl) (by rfl) (by go_simp; first | done | exact ⟨rfl, rfl⟩ | rfl) ?_
    try simp only [Act.put, zA, zB, zC]
    refine aVal (i := 6) (v := ?_) rfl (by kernel_rfl) (by rfl) ?_ ?_
    rotate_left 1
    · go_simp; all_goals with_reducible rfl
    try simp only [Act.put, zA, zB, zC]
    refine wpAny_done (by kernel_rfl) ?_ _
    go_wp2_with fail
    go_returns
    obtain ⟨hS, t3, hL1, hL2⟩ := st.out
    have kx : Kept [] W (W.alloc (.cells #[.pointer (some ⟨s, 0, none⟩), .slice (some ⟨L, 0, none⟩) 2 2] 97)) := (Kept.refl _ _).alloc _
    have hj : W.heap.size ∉ own u := fun hin => by
      have hrow : W.ownsRow 0 3 1 u 2 (upto 2) := by
        rcases hS.row with ⟨c, _, h2, _⟩ | hr
        · omega
        · exact hr
      have hown := own_sub hrow (by omega)
      rw [hown] at hin
      have := row_lt hrow (by simpa using hin)
      omega
    exact ⟨_, L, s, I, U, M, F, u, rfl, hS.moved (by omega) (fun b _ hb => kx.2 b hb (by simp)) (hS.kept.alloc _) (Nat.le_refl _), heap_alloc_new, kx.at t3 (by simp), hS.kept.1, hL1, hL2, hj⟩
end
section
attribute [local go_sem ↓] setCell_drewN alloc_drewN grow_cell grow_frozen setCell_grow grow_size cell_alloc_grow frozen_alloc_grow setCell_alloc_grow cell_grow_alloc_grow frozen_grow_alloc_grow setCell_grow_alloc_grow grow_grow
attribute [local go_sem] lt_len size_setCell
set_option maxHeartbeats 2000000 in
theorem Join46_1 {w0 w : World} {j L s I U M F : Nat} {v : Value} (id e p : Int) (hid : (Lit.int .i64 id).wf = true) (he : 1 ≤ e) (hep : e ≤ p) (hp : p ≤ 1048575) (hS : SlotsW w0 w s I U M F 1 1 v) (hj : w.heap[j]? = some (.cells #[.pointer (some ⟨s, 0, none⟩), .slice (some ⟨L, 0, none⟩) 1 1] 97 (0, 0))) (hL : w.heap[L]? = some (.cells #[.int .i64 0, .int .i64 0, .int .i64 0, .bool false, .bool false, .bool false, .bool false, .int .i64 0, .int .i64 0, .bool false, .int .i64 0] 143 (0, 0))) (h1 : L ∉ own v) (h2 : j ∉ own v) :
    Calls Tryz.prog 46 #[.pointer (some ⟨j, 0, none⟩), .int .i64 id, .int .i64 e, .int .i64 p, .bool false] w fun e' w' => e' = .returned (.int .i64 0) ∧ Kept (L :: I :: U :: M :: F :: own v) w w' ∧ ∃ rest, JobsAt w' j s M L 1 id e p false 0 0 0 rest := by
  have P := Put71_1 s I U M F v id w0 w hS
  have d1 : decide (e < 1) = false := by simp; omega
  have d2 : decide (e > p) = false := by simp; omega
  have d3 : decide (p > 1048575) = false := by simp; omega
  have c0 : w.cell? ⟨j, 0, none⟩ = some (.pointer (some ⟨s, 0, none⟩)) := cell_of hj 0
  have lj := heap_lt hj
  have n1 : j ≠ I := heap_ne hj hS.hI (by simp)
  have n2 : j ≠ U := heap_ne hj hS.hU (by simp)
  have n3 : j ≠ M := heap_ne hj hS.hM (by simp)
  have n4 : j ≠ F := heap_ne hj hS.hF (by simp)
  have n5 : L ≠ I := heap_ne hL hS.hI (by simp)
  have n6 : L ≠ U := heap_ne hL hS.hU (by simp)
  have n7 : L ≠ M := heap_ne hL hS.hM (by simp)
  have n8 : L ≠ F := heap_ne hL hS.hF (by simp)
  have n9 : j ≠ L := heap_ne hj hL (by simp)
  have n10 : s ≠ L := heap_ne hS.hs hL (by simp)
  have ns := hS.apart.1
  have hsv : s ∉ own v := fun h => (hS.off s h).1 rfl
  have st := Lib.hid (And.intro hS (And.intro hj (And.intro hL (And.intro h1 (And.intro h2 (And.intro hid (And.intro (And.intro n1 (And.intro n2 (And.intro n3 n4))) (And.intro (And.intro n5 (And.intro n6 (And.intro n7 n8))) (And.intro n9 (And.intro n10 (And.intro ns hsv)))))))))))
  clear he hep hp hS hj hL h1 h2 hid n1 n2 n3 n4 n5 n6 n7 n8 n9 n10 ns hsv
  go_enter Tryz.func46, Tryz.ntmps46
  go_wp2_with fail
  refine P.mono ?_
  rintro e' w1 ⟨rfl, hk, hM1⟩
  obtain ⟨hS, hj, hL, h1, h2, hid, ⟨n1, n2, n3, n4⟩, ⟨n5, n6, n7, n8⟩, n9, n10, ns, hsv⟩ := st.out
  have hj1 := hk.at hj (by simp [n1, n2, n3, n4, h2])
  have hL1 := hk.at hL (by simp [n5, n6, n7, n8, h1])
  have hs1 := hk.at hS.hs (by simp [ns, hsv])
  have c1 : w1.cell? ⟨j, 1, none⟩ = some (.slice (some ⟨L, 0, none⟩) 1 1) := cell_of hj1 1
  have lj1 := heap_lt hj1
  have lL1 := heap_lt hL1
  have l0 : w1.cell? ⟨L, 0, none⟩ = some (.int .i64 0) := cell_of hL1 0
  have f0 : w1.frozen? ⟨L, 0, none⟩ = false := frozen_of hL1 0
  have l1 : w1.cell? ⟨L, 1, none⟩ = some (.int .i64 0) := cell_of hL1 1
  have f1 : w1.frozen? ⟨L, 1, none⟩ = false := frozen_of hL1 1
  have l2 : w1.cell? ⟨L, 2, none⟩ = some (.int .i64 0) := cell_of hL1 2
  have f2 : w1.frozen? ⟨L, 2, none⟩ = false := frozen_of hL1 2
  have l3 : w1.cell? ⟨L, 3, none⟩ = some (.bool false) := cell_of hL1 3
  have f3 : w1.frozen? ⟨L, 3, none⟩ = false := frozen_of hL1 3
  have l4 : w1.cell? ⟨L, 4, none⟩ = some (.bool false) := cell_of hL1 4
  have f4 : w1.frozen? ⟨L, 4, none⟩ = false := frozen_of hL1 4
  have l5 : w1.cell? ⟨L, 5, none⟩ = some (.bool false) := cell_of hL1 5
  have f5 : w1.frozen? ⟨L, 5, none⟩ = false := frozen_of hL1 5
  have l6 : w1.cell? ⟨L, 6, none⟩ = some (.bool false) := cell_of hL1 6
  have f6 : w1.frozen? ⟨L, 6, none⟩ = false := frozen_of hL1 6
  have l7 : w1.cell? ⟨L, 7, none⟩ = some (.int .i64 0) := cell_of hL1 7
  have f7 : w1.frozen? ⟨L, 7, none⟩ = false := frozen_of hL1 7
  have l8 : w1.cell? ⟨L, 8, none⟩ = some (.int .i64 0) := cell_of hL1 8
  have f8 : w1.frozen? ⟨L, 8, none⟩ = false := frozen_of hL1 8
  have l9 : w1.cell? ⟨L, 9, none⟩ = some (.bool false) := cell_of hL1 9
  have f9 : w1.frozen? ⟨L, 9, none⟩ = false := frozen_of hL1 9
  have l10 : w1.cell? ⟨L, 10, none⟩ = some (.int .i64 0) := cell_of hL1 10
  have f10 : w1.frozen? ⟨L, 10, none⟩ = false := frozen_of hL1 10
  have kK : Kept [L] w1 (((((((((((w1.setCell ⟨L, 0, none⟩ (.int .i64 id)).setCell ⟨L, 1, none⟩ (.int .i64 e)).setCell ⟨L, 2, none⟩ (.int .i64 p)).setCell ⟨L, 3, none⟩ (.bool false)).setCell ⟨L, 4, none⟩ (.bool false)).setCell ⟨L, 5, none⟩ (.bool false)).setCell ⟨L, 6, none⟩ (.bool false)).setCell ⟨L, 7, none⟩ (.int .i64 0)).setCell ⟨L, 8, none⟩ (.int .i64 0)).setCell ⟨L, 9, none⟩ (.bool false)).setCell ⟨L, 10, none⟩ (.int .i64 0)) := (((((((((((Kept.refl [L] w1).setCell ⟨L, 0, none⟩ (.int .i64 id) (Or.inl (by simp))).setCell ⟨L, 1, none⟩ (.int .i64 e) (Or.inl (by simp))).setCell ⟨L, 2, none⟩ (.int .i64 p) (Or.inl (by simp))).setCell ⟨L, 3, none⟩ (.bool false) (Or.inl (by simp))).setCell ⟨L, 4, none⟩ (.bool false) (Or.inl (by simp))).setCell ⟨L, 5, none⟩ (.bool false) (Or.inl (by simp))).setCell ⟨L, 6, none⟩ (.bool false) (Or.inl (by simp))).setCell ⟨L, 7, none⟩ (.int .i64 0) (Or.inl (by simp))).setCell ⟨L, 8, none⟩ (.int .i64 0) (Or.inl (by simp))).setCell ⟨L, 9, none⟩ (.bool false) (Or.inl (by simp))).setCell ⟨L, 10, none⟩ (.int .i64 0) (Or.inl (by simp))
  have kL : (((((((((((w1.setCell ⟨L, 0, none⟩ (.int .i64 id)).setCell ⟨L, 1, none⟩ (.int .i64 e)).setCell ⟨L, 2, none⟩ (.int .i64 p)).setCell ⟨L, 3, none⟩ (.bool false)).setCell ⟨L, 4, none⟩ (.bool false)).setCell ⟨L, 5, none⟩ (.bool false)).setCell ⟨L, 6, none⟩ (.bool false)).setCell ⟨L, 7, none⟩ (.int .i64 0)).setCell ⟨L, 8, none⟩ (.int .i64 0)).setCell ⟨L, 9, none⟩ (.bool false)).setCell ⟨L, 10, none⟩ (.int .i64 0)).heap[L]? = some (.cells (taskL id e p false 0 0 0 []).toArray 143 (0, 0)) := by
    rw [heap_setCell (heap_setCell (heap_setCell (heap_setCell (heap_setCell (heap_setCell (heap_setCell (heap_setCell (heap_setCell (heap_setCell (heap_setCell hL1))))))))))]
    simp
  have kj := kK.at hj1 (by simp [n9])
  have ks := kK.at hs1 (by simp [n10])
  have kM := kK.at hM1 (by simp [Ne.symm n7])
  replace st := Lib.hid (And.intro (Kept.trans hk kK (U := L :: I :: U :: M :: F :: own v) (fun x hx => List.mem_cons_of_mem _ hx) (fun x hx => Or.inl (by simp at hx; simp [hx]))) (And.intro kj (And.intro ks (And.intro kM (And.intro kL hid)))))
  clear hk hM1 hS hj hL h1 h2 hid n1 n2 n3 n4 n5 n6 n7 n8 n9 n10 ns hsv hj1 hL1 hs1 kK kL kj ks kM P
  go_wp2_with fail
  go_returns
  obtain ⟨k, kj, ks, kM, kL, hid⟩ := st.out
  exact ⟨rfl, k, _, ⟨kj, ⟨_, _, _, ks⟩, kM, kL, by omega, hid⟩⟩
set_option maxHeartbeats 2000000 in
theorem Join46_2 {w0 w : World} {j L s I U M F : Nat} {v : Value} (id e p : Int) (hid : (Lit.int .i64 id).wf = true) (he : 1 ≤ e) (hep : e ≤ p) (hp : p ≤ 1048575) (hS : SlotsW w0 w s I U M F 2 2 v) (hj : w.heap[j]? = some (.cells #[.pointer (some ⟨s, 0, none⟩), .slice (some ⟨L, 0, none⟩) 2 2] 97 (0, 0))) (hL : w.heap[L]? = some (.cells #[.int .i64 0, .int .i64 0, .int .i64 0, .bool false, .bool false, .bool false, .bool false, .int .i64 0, .int .i64 0, .bool false, .int .i64 0, .int .i64 0, .int .i64 0, .int .i64 0, .bool false, .bool false, .bool false, .bool false, .int .i64 0, .int .i64 0, .bool false, .int .i64 0] 143 (0, 0))) (h1 : L ∉ own v) (h2 : j ∉ own v) :
    Calls Tryz.prog 46 #[.pointer (some ⟨j, 0, none⟩), .int .i64 id, .int .i64 e, .int .i64 p, .bool false] w fun e' w' => e' = .returned (.int .i64 0) ∧ Kept (L :: I :: U :: M :: F :: own v) w w' ∧ ∃ rest, JobsAt w' j s M L 2 id e p false 0 0 0 rest := by
  have P := Put71_2 s I U M F v id w0 w hS
  have d1 : decide (e < 1) = false := by simp; omega
  have d2 : decide (e > p) = false := by simp; omega
  have d3 : decide (p > 1048575) = false := by simp; omega
  have c0 : w.cell? ⟨j, 0, none⟩ = some (.pointer (some ⟨s, 0, none⟩)) := cell_of hj 0
  have lj := heap_lt hj
  have n1 : j ≠ I := heap_ne hj hS.hI (by simp)
  have n2 : j ≠ U := heap_ne hj hS.hU (by simp)
  have n3 : j ≠ M := heap_ne hj hS.hM (by simp)
  have n4 : j ≠ F := heap_ne hj hS.hF (by simp)
  have n5 : L ≠ I := heap_ne hL hS.hI (by simp)
  have n6 : L ≠ U := heap_ne hL hS.hU (by simp)
  have n7 : L ≠ M := heap_ne hL hS.hM (by simp)
  have n8 : L ≠ F := heap_ne hL hS.hF (by simp)
  have n9 : j ≠ L := heap_ne hj hL (by simp)
  have n10 : s ≠ L := heap_ne hS.hs hL (by simp)
  have ns := hS.apart.1
  have hsv : s ∉ own v := fun h => (hS.off s h).1 rfl
  have st := Lib.hid (And.intro hS (And.intro hj (And.intro hL (And.intro h1 (And.intro h2 (And.intro hid (And.intro (And.intro n1 (And.intro n2 (And.intro n3 n4))) (And.intro (And.intro n5 (And.intro n6 (And.intro n7 n8))) (And.intro n9 (And.intro n10 (And.intro ns hsv)))))))))))
  clear he hep hp hS hj hL h1 h2 hid n1 n2 n3 n4 n5 n6 n7 n8 n9 n10 ns hsv
  go_enter Tryz.func46, Tryz.ntmps46
  go_wp2_with fail
  refine P.mono ?_
  rintro e' w1 ⟨rfl, hk, hM1⟩
  obtain ⟨hS, hj, hL, h1, h2, hid, ⟨n1, n2, n3, n4⟩, ⟨n5, n6, n7, n8⟩, n9, n10, ns, hsv⟩ := st.out
  have hj1 := hk.at hj (by simp [n1, n2, n3, n4, h2])
  have hL1 := hk.at hL (by simp [n5, n6, n7, n8, h1])
  have hs1 := hk.at hS.hs (by simp [ns, hsv])
  have c1 : w1.cell? ⟨j, 1, none⟩ = some (.slice (some ⟨L, 0, none⟩) 2 2) := cell_of hj1 1
  have lj1 := heap_lt hj1
  have lL1 := heap_lt hL1
  have l0 : w1.cell? ⟨L, 0, none⟩ = some (.int .i64 0) := cell_of hL1 0
  have f0 : w1.frozen? ⟨L, 0, none⟩ = false := frozen_of hL1 0
  have l1 : w1.cell? ⟨L, 1, none⟩ = some (.int .i64 0) := cell_of hL1 1
  have f1 : w1.frozen? ⟨L, 1, none⟩ = false := frozen_of hL1 1
  have l2 : w1.cell? ⟨L, 2, none⟩ = some (.int .i64 0) := cell_of hL1 2
  have f2 : w1.frozen? ⟨L, 2, none⟩ = false := frozen_of hL1 2
  have l3 : w1.cell? ⟨L, 3, none⟩ = some (.bool false) := cell_of hL1 3
  have f3 : w1.frozen? ⟨L, 3, none⟩ = false := frozen_of hL1 3
  have l4 : w1.cell? ⟨L, 4, none⟩ = some (.bool false) := cell_of hL1 4
  have f4 : w1.frozen? ⟨L, 4, none⟩ = false := frozen_of hL1 4
  have l5 : w1.cell? ⟨L, 5, none⟩ = some (.bool false) := cell_of hL1 5
  have f5 : w1.frozen? ⟨L, 5, none⟩ = false := frozen_of hL1 5
  have l6 : w1.cell? ⟨L, 6, none⟩ = some (.bool false) := cell_of hL1 6
  have f6 : w1.frozen? ⟨L, 6, none⟩ = false := frozen_of hL1 6
  have l7 : w1.cell? ⟨L, 7, none⟩ = some (.int .i64 0) := cell_of hL1 7
  have f7 : w1.frozen? ⟨L, 7, none⟩ = false := frozen_of hL1 7
  have l8 : w1.cell? ⟨L, 8, none⟩ = some (.int .i64 0) := cell_of hL1 8
  have f8 : w1.frozen? ⟨L, 8, none⟩ = false := frozen_of hL1 8
  have l9 : w1.cell? ⟨L, 9, none⟩ = some (.bool false) := cell_of hL1 9
  have f9 : w1.frozen? ⟨L, 9, none⟩ = false := frozen_of hL1 9
  have l10 : w1.cell? ⟨L, 10, none⟩ = some (.int .i64 0) := cell_of hL1 10
  have f10 : w1.frozen? ⟨L, 10, none⟩ = false := frozen_of hL1 10
  have kK : Kept [L] w1 (((((((((((w1.setCell ⟨L, 0, none⟩ (.int .i64 id)).setCell ⟨L, 1, none⟩ (.int .i64 e)).setCell ⟨L, 2, none⟩ (.int .i64 p)).setCell ⟨L, 3, none⟩ (.bool false)).setCell ⟨L, 4, none⟩ (.bool false)).setCell ⟨L, 5, none⟩ (.bool false)).setCell ⟨L, 6, none⟩ (.bool false)).setCell ⟨L, 7, none⟩ (.int .i64 0)).setCell ⟨L, 8, none⟩ (.int .i64 0)).setCell ⟨L, 9, none⟩ (.bool false)).setCell ⟨L, 10, none⟩ (.int .i64 0)) := (((((((((((Kept.refl [L] w1).setCell ⟨L, 0, none⟩ (.int .i64 id) (Or.inl (by simp))).setCell ⟨L, 1, none⟩ (.int .i64 e) (Or.inl (by simp))).setCell ⟨L, 2, none⟩ (.int .i64 p) (Or.inl (by simp))).setCell ⟨L, 3, none⟩ (.bool false) (Or.inl (by simp))).setCell ⟨L, 4, none⟩ (.bool false) (Or.inl (by simp))).setCell ⟨L, 5, none⟩ (.bool false) (Or.inl (by simp))).setCell ⟨L, 6, none⟩ (.bool false) (Or.inl (by simp))).setCell ⟨L, 7, none⟩ (.int .i64 0) (Or.inl (by simp))).setCell ⟨L, 8, none⟩ (.int .i64 0) (Or.inl (by simp))).setCell ⟨L, 9, none⟩ (.bool false) (Or.inl (by simp))).setCell ⟨L, 10, none⟩ (.int .i64 0) (Or.inl (by simp))
  have kL : (((((((((((w1.setCell ⟨L, 0, none⟩ (.int .i64 id)).setCell ⟨L, 1, none⟩ (.int .i64 e)).setCell ⟨L, 2, none⟩ (.int .i64 p)).setCell ⟨L, 3, none⟩ (.bool false)).setCell ⟨L, 4, none⟩ (.bool false)).setCell ⟨L, 5, none⟩ (.bool false)).setCell ⟨L, 6, none⟩ (.bool false)).setCell ⟨L, 7, none⟩ (.int .i64 0)).setCell ⟨L, 8, none⟩ (.int .i64 0)).setCell ⟨L, 9, none⟩ (.bool false)).setCell ⟨L, 10, none⟩ (.int .i64 0)).heap[L]? = some (.cells (taskL id e p false 0 0 0 [.int .i64 0, .int .i64 0, .int .i64 0, .bool false, .bool false, .bool false, .bool false, .int .i64 0, .int .i64 0, .bool false, .int .i64 0]).toArray 143 (0, 0)) := by
    rw [heap_setCell (heap_setCell (heap_setCell (heap_setCell (heap_setCell (heap_setCell (heap_setCell (heap_setCell (heap_setCell (heap_setCell (heap_setCell hL1))))))))))]
    simp
  have kj := kK.at hj1 (by simp [n9])
  have ks := kK.at hs1 (by simp [n10])
  have kM := kK.at hM1 (by simp [Ne.symm n7])
  replace st := Lib.hid (And.intro (Kept.trans hk kK (U := L :: I :: U :: M :: F :: own v) (fun x hx => List.mem_cons_of_mem _ hx) (fun x hx => Or.inl (by simp at hx; simp [hx]))) (And.intro kj (And.intro ks (And.intro kM (And.intro kL hid)))))
  clear hk hM1 hS hj hL h1 h2 hid n1 n2 n3 n4 n5 n6 n7 n8 n9 n10 ns hsv hj1 hL1 hs1 kK kL kj ks kM P
  go_wp2_with fail
  go_returns
  obtain ⟨k, kj, ks, kM, kL, hid⟩ := st.out
  exact ⟨rfl, k, _, ⟨kj, ⟨_, _, _, ks⟩, kM, kL, by omega, hid⟩⟩
end
end Go.Proofs.YtgfbfklnhmndfaaGreat
