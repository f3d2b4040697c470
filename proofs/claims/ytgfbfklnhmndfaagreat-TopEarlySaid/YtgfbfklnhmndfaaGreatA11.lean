/- The parts of the top that the law of early release walks through: part 11 of 52. -/
import Derived.Test.YtgfbfklnhmndfaaGreatA1
import Derived.Test.YtgfbfklnhmndfaaGreatA3
import Derived.Test.YtgfbfklnhmndfaaGreatA4
import Derived.Test.YtgfbfklnhmndfaaGreatA9
import Derived.Test.YtgfbfklnhmndfaaGreatA10
namespace Go.Proofs.YtgfbfklnhmndfaaGreat
open Go.RowKit
set_option linter.unusedSimpArgs false
set_option linter.unusedVariables false
section
attribute [local go_sem ↓] setCell_drewN alloc_drewN grow_cell grow_frozen setCell_grow grow_size cell_alloc_grow frozen_alloc_grow setCell_alloc_grow cell_grow_alloc_grow frozen_grow_alloc_grow setCell_grow_alloc_grow grow_grow
attribute [local go_sem] lt_len
def upto (k : Nat) : List Value := (List.range k).map fun (i : Nat) => Value.int .i64 (i : Int)
theorem upto_succ (k : Nat) : upto (k + 1) = upto k ++ [.int .i64 k] := by
  unfold upto
  rw [List.range_succ, List.map_append]
  rfl
/-- Slots as New makes them, k of the free ones put. -/
structure SlotsW (w0 w : World) (s I U M F n k : Nat) (v : Value) : Prop where
  hs : w.heap[s]? = some (.cells #[.slice (some ⟨I, 0, none⟩) n n, .slice (some ⟨U, 0, none⟩) n n, .map (some M), .pointer (some ⟨F, 0, none⟩)] 133 (0, 0))
  hI : w.heap[I]? = some (.cells (Array.replicate n (.int .i64 0)) 3 (0, 0))
  hU : w.heap[U]? = some (.cells (Array.replicate n (.bool false)) 4 (0, 0))
  hM : w.heap[M]? = some (.map #[] 0)
  hF : w.heap[F]? = some (.cells #[v] 131 (0, 0))
  row : Row w 3 1 v k (upto k)
  off : ∀ g ∈ own v, g ≠ s ∧ g ≠ I ∧ g ≠ U ∧ g ≠ M ∧ g ≠ F ∧ w0.heap.size ≤ g
  kept : Kept [] w0 w
  new : w0.heap.size ≤ s ∧ w0.heap.size ≤ I ∧ w0.heap.size ≤ U ∧ w0.heap.size ≤ M ∧ w0.heap.size ≤ F
  apart : (s ≠ I ∧ s ≠ U ∧ s ≠ M ∧ s ≠ F) ∧ (I ≠ U ∧ I ≠ M ∧ I ≠ F) ∧ (U ≠ M ∧ U ≠ F) ∧ M ≠ F
theorem SlotsW.step {w0 w w' : World} {s I U M F n k : Nat} {v v' : Value} (h : SlotsW w0 w s I U M F n k v) (hk : Kept (F :: own v) w w') (hF : w'.heap[F]? = some (.cells #[v'] 131 (0, 0)))
    (hr : w'.ownsRow 0 3 1 v' (k + 1) (upto k ++ [.int .i64 k])) (hn : F ∉ own v') (ho : ∀ g ∈ own v', g ∈ own v ∨ w.heap.size ≤ g) : SlotsW w0 w' s I U M F n (k + 1) v' := by
  obtain ⟨⟨a1, a2, a3, a4⟩, ⟨a5, a6, a7⟩, ⟨a8, a9⟩, a10⟩ := h.apart
  obtain ⟨b1, b2, b3, b4, b5⟩ := h.new
  refine ⟨hk.at h.hs ?_, hk.at h.hI ?_, hk.at h.hU ?_, hk.at h.hM ?_, hF, Or.inr (by rw [upto_succ]; exact hr), fun g hg => ?_, ?_, h.new, h.apart⟩
  · intro hm
    rcases List.mem_cons.1 hm with h1 | h1
    · exact a4 h1
    · exact (h.off _ h1).1 rfl
  · intro hm
    rcases List.mem_cons.1 hm with h1 | h1
    · exact a7 h1
    · exact (h.off _ h1).2.1 rfl
  · intro hm
    rcases List.mem_cons.1 hm with h1 | h1
    · exact a9 h1
    · exact (h.off _ h1).2.2.1 rfl
  · intro hm
    rcases List.mem_cons.1 hm with h1 | h1
    · exact a10 h1
    · exact (h.off _ h1).2.2.2.1 rfl
  · rcases ho g hg with h1 | h1
    · exact h.off g h1
    · have c1 := heap_lt h.hs
      have c2 := heap_lt h.hI
      have c3 := heap_lt h.hU
      have c4 := heap_lt h.hM
      have c5 := heap_lt h.hF
      have c6 := h.kept.1
      omega
  · refine Kept.trans h.kept hk (by simp) fun x hx => Or.inr ?_
    rcases List.mem_cons.1 hx with h1 | h1
    · rw [h1]; exact b5
    · exact (h.off x h1).2.2.2.2.2
set_option maxHeartbeats 1000000 in
theorem slotsNew1 (w : World) : Calls Tryz.prog 33 #[.int .i64 1] w fun e w' => ∃ s I U M F v, e = .returned (.pointer (some ⟨s, 0, none⟩)) ∧ SlotsW w w' s I U M F 1 1 v := by
  go_enter Tryz.func33, Tryz.ntmps33
  go_wp2_with fail
  refine born 7 (slotsY 1) (by kernel_rfl) (by kernel_rfl) ?_ ?_ ?_
  · intro i v lo hi w w' hY hw
    unfold slotsY at *
    split at hY
    · exact hY
    · obtain ⟨b, h1, h2, h3, h4⟩ := hY
      exact ⟨b, h1, h2, h3, by rw [hw b h1 h2]; exact h4⟩
    · exact hY
    · obtain ⟨b, h1, h2, h3, h4⟩ := hY
      exact ⟨b, h1, h2, h3, by rw [hw b h1 h2]; exact h4⟩
    · obtain ⟨b, h1, h2, h3, h4⟩ := hY
      exact ⟨b, h1, h2, h3, by rw [hw b h1 h2]; exact h4⟩
    · exact hY
    · obtain ⟨b, c, h1, h2, h3, h4⟩ := hY
      exact ⟨b, c, h1, h2, h3, by rw [hw b h1 h2]; exact h4⟩
    · trivial
  · intro i hi o ho a W hr hd hk
    rcases i with _ | _ | _ | _ | _ | _ | _ | i
    · cases ho
      have h0 : a.tmps.getD 0 undef = .int .i64 1 := hr 0 (by kernel_rfl)
      clear hr hd hk
      exact born_value _ (by go_simp; try rfl) rfl
    · cases ho
      obtain ⟨_, _, h8⟩ := hd 0 8 (by kernel_rfl) (by kernel_rfl)
      have h8 : a.tmps.getD 8 undef = .int .i64 1 := h8
      clear hr hd hk
      refine born_alloc _ _ (by go_simp; rw [mkInts1]; rfl) ⟨W.heap.size, by omega, by omega, rfl, heap_alloc_new⟩
    · cases ho
      have h0 : a.tmps.getD 0 undef = .int .i64 1 := hr 0 (by kernel_rfl)
      clear hr hd hk
      exact born_value _ (by go_simp; try rfl) rfl
    · cases ho
      obtain ⟨_, _, h8⟩ := hd 2 10 (by kernel_rfl) (by kernel_rfl)
      have h8 : a.tmps.getD 10 undef = .int .i64 1 := h8
      clear hr hd hk
      refine born_alloc _ _ (by go_simp; rw [mkBools1]; rfl) ⟨W.heap.size, by omega, by omega, rfl, heap_alloc_new⟩
    · cases ho
      clear hr hd hk
      refine born_alloc _ _ (by go_simp; first | done | rw [run_makeMap]; try rfl) ⟨W.heap.size, by omega, by omega, rfl, heap_alloc_new⟩
    · cases ho
      clear hr hd hk
      refine born_alloc _ _ (by go_simp; exact ⟨rfl, rfl⟩) ⟨_, rfl⟩
    · cases ho
      obtain ⟨_, _, c, h8⟩ := hd 5 13 (by kernel_rfl) (by kernel_rfl)
      clear hr hd hk
      refine born_alloc _ _ (by go_simp) ⟨W.heap.size, c, by omega, by omega, rfl, heap_alloc_new⟩
    · omega
  · intro vs lo hi W hK h1 h2
    have y0 := h1 0 (by omega)
    have y1 := h1 1 (by omega)
    have y2 := h1 2 (by omega)
    have y3 := h1 3 (by omega)
    have y4 := h1 4 (by omega)
    have y5 := h1 5 (by omega)
    have y6 := h1 6 (by omega)
    obtain ⟨_, _, _, e0⟩ := y0
    obtain ⟨s1, _, t1, I, i1, i2, e1, hI⟩ := y1
    obtain ⟨_, _, _, e2⟩ := y2
    obtain ⟨s3, _, t3, U, u1, u2, e3, hU⟩ := y3
    obtain ⟨s4, _, t4, M, m1, m2, e4, hM⟩ := y4
    obtain ⟨_, _, _, c, e5⟩ := y5
    obtain ⟨s6, _, t6, F, c', f1, f2, e6, hF⟩ := y6
    have dIU : I ≠ U := by have := h2 1 3 (by omega) (by omega) (by omega); omega
    have dIM : I ≠ M := by have := h2 1 4 (by omega) (by omega) (by omega); omega
    have dIF : I ≠ F := by have := h2 1 6 (by omega) (by omega) (by omega); omega
    have dUM : U ≠ M := by have := h2 3 4 (by omega) (by omega) (by omega); omega
    have dUF : U ≠ F := by have := h2 3 6 (by omega) (by omega) (by omega); omega
    have dMF : M ≠ F := by have := h2 4 6 (by omega) (by omega) (by omega); omega
    have E0 : vs 0 = .int .i64 1 := e0
    have E2 : vs 2 = .int .i64 1 := e2
    change wpAny _ _ _ _ 3 _ ⟨#[.int .i64 1, undef, .pointer none, undef, undef, .int .i64 1, .int .i64 1, .int .i64 1, vs 0, vs 1, vs 2, vs 3, vs 4, vs 5, vs 6, undef, undef, undef, undef, undef, undef, undef, undef, undef, undef, undef, undef, undef, undef, undef, undef], []⟩ _
    rw [E0, e1, E2, e3, e4, e5, e6]
    clear e0 e1 e2 e3 e4 e5 e6 E0 E2 h1 h2
    refine aVal (i := 7) (v := ?_) rfl (by kernel_rfl) (by rfl) ?_ ?_
    rotate_left 1
    · go_simp; all_goals with_reducible rfl
    try simp only [Act.put, zA, zB, zC]
    refine aValW (i := 8) rfl (by kernel_rfl) (by rfl) (by go_simp; first | done | exact ⟨rfl, rfl⟩ | rfl) ?_
    try simp only [Act.put, zA, zB, zC]
    refine aVal (i := 9) (v := ?_) rfl (by kernel_rfl) (by rfl) ?_ ?_
    rotate_left 1
    · go_simp; all_goals with_reducible rfl
    try simp only [Act.put, zA, zB, zC]
    refine wpAny_done (by kernel_rfl) ?_ _
    have hS : SlotsW w (W.alloc (.cells #[.slice (some ⟨I, 0, none⟩) 1 1, .slice (some ⟨U, 0, none⟩) 1 1, .map (some M), .pointer (some ⟨F, 0, none⟩)] 133)) W.heap.size I U M F 1 0 (.slice c' 0 0) := by
      have l1 := heap_lt hI
      have l2 := heap_lt hU
      have l3 := heap_lt hM
      have l4 := heap_lt hF
      have l5 := hK.1
      refine ⟨heap_alloc_new, by rw [heap_alloc l1]; exact hI, by rw [heap_alloc l2]; exact hU, by rw [heap_alloc l3]; exact hM, by rw [heap_alloc l4]; exact hF, Or.inl ⟨c', rfl, rfl, rfl⟩, fun g hg => ?_, hK.alloc _, ⟨l5, by omega, by omega, by omega, by omega⟩, ⟨⟨by omega, by omega, by omega, by omega⟩, ⟨dIU, dIM, dIF⟩, ⟨dUM, dUF⟩, dMF⟩⟩
      cases c' <;> simp [own] at hg
    generalize W.alloc (.cells #[.slice (some ⟨I, 0, none⟩) 1 1, .slice (some ⟨U, 0, none⟩) 1 1, .map (some M), .pointer (some ⟨F, 0, none⟩)] 133) = W1 at *
    obtain ⟨s, hs⟩ : ∃ s, W.heap.size = s := ⟨_, rfl⟩
    rw [hs] at hS
    clear hI hU hM hF dIU dIM dIF dUM dUF dMF hK f1 f2 i1 i2 u1 u2 m1 m2
    rw [hs]
    go_wp2_with fail
    go_loopw [18] (fun i wr => ∃ (k : Nat) (v : Value), k ≤ 1 ∧ i = .int .i64 k ∧ SlotsW w wr s I U M F 1 k v) (fun i _ => 1 - (intOf i).toNat)
    case atStart => exact ⟨0, _, by omega, rfl, hS⟩
    case round =>
      obtain ⟨k, v, hk, rfl, hW⟩ := hrel
      clear hS
      by_cases hkn : k < 1
      · have hd : decide ((k : Int) < 1) = true := by simp; omega
        have ha : IntKind.i64.wrap ((k : Int) + 1) = (k : Int) + 1 := IntWalk.i64_in _ (by omega)
        have l1 := heap_lt hW.hs
        have c3 : wr.cell? ⟨s, 3, none⟩ = some (.pointer (some ⟨F, 0, none⟩)) := cell_of hW.hs 3
        have P := Push45 F k v k (upto k) wr ⟨hW.hF, hW.row, fun h => (hW.off F h).2.2.2.2.1 rfl⟩ (by
          rcases (by omega : k = 0 ∨ k = 1) with rfl | rfl
          · exact Or.inl rfl
          · exact Or.inr ⟨rfl, 0, rfl, by omega⟩)
        replace hW := Lib.hid hW
        replace hk := Lib.hid hk
        replace hkn := Lib.hid hkn
        go_wp2_with fail
        refine P.mono ?_
        rintro e w1 ⟨rfl, hk1, v1, hF1, hr1, hn1, ho1⟩
        have hS1 := Lib.hid (hW.out.step hk1 hF1 hr1 hn1 ho1)
        clear hk1 hF1 hr1 hn1 ho1 P
        go_wp2_with fail
        go_roundw
        case rel => exact ⟨k + 1, v1, hkn.out, by simp, hS1.out⟩
        case measure => have := hkn.out; simp [intOf]; omega
      · have hd : decide ((k : Int) < 1) = false := by simp; omega
        have hkk : k = 1 := by omega
        subst hkk
        replace hW := Lib.hid hW
        go_wp2_with fail
        go_returns
        exact ⟨s, I, U, M, F, v, rfl, hW.out⟩
set_option maxHeartbeats 1000000 in
theorem slotsNew2 (w : World) : Calls Tryz.prog 33 #[.int .i64 2] w fun e w' => ∃ s I U M F v, e = .returned (.pointer (some ⟨s, 0, none⟩)) ∧ SlotsW w w' s I U M F 2 2 v := by
  go_enter Tryz.func33, Tryz.ntmps33
  go_wp2_with fail
  refine born 7 (slotsY 2) (by kernel_rfl) (by kernel_rfl) ?_ ?_ ?_
  · intro i v lo hi w w' hY hw
    unfold slotsY at *
    split at hY
    · exact hY
    · obtain ⟨b, h1, h2, h3, h4⟩ := hY
      exact ⟨b, h1, h2, h3, by rw [hw b h1 h2]; exact h4⟩
    · exact hY
    · obtain ⟨b, h1, h2, h3, h4⟩ := hY
      exact ⟨b, h1, h2, h3, by rw [hw b h1 h2]; exact h4⟩
    · obtain ⟨b, h1, h2, h3, h4⟩ := hY
      exact ⟨b, h1, h2, h3, by rw [hw b h1 h2]; exact h4⟩
    · exact hY
    · obtain ⟨b, c, h1, h2, h3, h4⟩ := hY
      exact ⟨b, c, h1, h2, h3, by rw [hw b h1 h2]; exact h4⟩
    · trivial
  · intro i hi o ho a W hr hd hk
    rcases i with _ | _ | _ | _ | _ | _ | _ | i
    · cases ho
      have h0 : a.tmps.getD 0 undef = .int .i64 2 := hr 0 (by kernel_rfl)
      clear hr hd hk
      exact born_value _ (by go_simp; try rfl) rfl
    · cases ho
      obtain ⟨_, _, h8⟩ := hd 0 8 (by kernel_rfl) (by kernel_rfl)
      have h8 : a.tmps.getD 8 undef = .int .i64 2 := h8
      clear hr hd hk
      refine born_alloc _ _ (by go_simp; rw [mkInts2]; rfl) ⟨W.heap.size, by omega, by omega, rfl, heap_alloc_new⟩
    · cases ho
      have h0 : a.tmps.getD 0 undef = .int .i64 2 := hr 0 (by kernel_rfl)
      clear hr hd hk
      exact born_value _ (by go_simp; try rfl) rfl
    · cases ho
      obtain ⟨_, _, h8⟩ := hd 2 10 (by kernel_rfl) (by kernel_rfl)
      have h8 : a.tmps.getD 10 undef = .int .i64 2 := h8
      clear hr hd hk
      refine born_alloc _ _ (by go_simp; rw [mkBools2]; rfl) ⟨W.heap.size, by omega, by omega, rfl, heap_alloc_new⟩
    · cases ho
      clear hr hd hk
      refine born_alloc _ _ (by go_simp; first | done | rw [run_makeMap]; try rfl) ⟨W.heap.size, by omega, by omega, rfl, heap_alloc_new⟩
    · cases ho
      clear hr hd hk
      refine born_alloc _ _ (by go_simp; exact ⟨rfl, rfl⟩) ⟨_, rfl⟩
    · cases ho
      obtain ⟨_, _, c, h8⟩ := hd 5 13 (by kernel_rfl) (by kernel_rfl)
      clear hr hd hk
      refine born_alloc _ _ (by go_simp) ⟨W.heap.size, c, by omega, by omega, rfl, heap_alloc_new⟩
    · omega
  · intro vs lo hi W hK h1 h2
    have y0 := h1 0 (by omega)
    have y1 := h1 1 (by omega)
    have y2 := h1 2 (by omega)
    have y3 := h1 3 (by omega)
    have y4 := h1 4 (by omega)
    have y5 := h1 5 (by omega)
    have y6 := h1 6 (by omega)
    obtain ⟨_, _, _, e0⟩ := y0
    obtain ⟨s1, _, t1, I, i1, i2, e1, hI⟩ := y1
    obtain ⟨_, _, _, e2⟩ := y2
    obtain ⟨s3, _, t3, U, u1, u2, e3, hU⟩ := y3
    obtain ⟨s4, _, t4, M, m1, m2, e4, hM⟩ := y4
    obtain ⟨_, _, _, c, e5⟩ := y5
    obtain ⟨s6, _, t6, F, c', f1, f2, e6, hF⟩ := y6
    have dIU : I ≠ U := by have := h2 1 3 (by omega) (by omega) (by omega); omega
    have dIM : I ≠ M := by have := h2 1 4 (by omega) (by omega) (by omega); omega
    have dIF : I ≠ F := by have := h2 1 6 (by omega) (by omega) (by omega); omega
    have dUM : U ≠ M := by have := h2 3 4 (by omega) (by omega) (by omega); omega
    have dUF : U ≠ F := by have := h2 3 6 (by omega) (by omega) (by omega); omega
    have dMF : M ≠ F := by have := h2 4 6 (by omega) (by omega) (by omega); omega
    have E0 : vs 0 = .int .i64 2 := e0
    have E2 : vs 2 = .int .i64 2 := e2
    change wpAny _ _ _ _ 3 _ ⟨#[.int .i64 2, undef, .pointer none, undef, undef, .int .i64 2, .int .i64 2, .int .i64 2, vs 0, vs 1, vs 2, vs 3, vs 4, vs 5, vs 6, undef, undef, undef, undef, undef, undef, undef, undef, undef, undef, undef, undef, undef, undef, undef, undef], []⟩ _
    rw [E0, e1, E2, e3, e4, e5, e6]
    clear e0 e1 e2 e3 e4 e5 e6 E0 E2 h1 h2
    refine aVal (i := 7) (v := ?_) rfl (by kernel_rfl) (by rfl) ?_ ?_
    rotate_left 1
    · go_simp; all_goals with_reducible rfl
    try simp only [Act.put, zA, zB, zC]
    refine aValW (i := 8) rfl (by kernel_rfl) (by rfl) (by go_simp; first | done | exact ⟨rfl, rfl⟩ | rfl) ?_
    try simp only [Act.put, zA, zB, zC]
    refine aVal (i := 9) (v := ?_) rfl (by kernel_rfl) (by rfl) ?_ ?_
    rotate_left 1
    · go_simp; all_goals with_reducible rfl
    try simp only [Act.put, zA, zB, zC]
    refine wpAny_done (by kernel_rfl) ?_ _
    have hS : SlotsW w (W.alloc (.cells #[.slice (some ⟨I, 0, none⟩) 2 2, .slice (some ⟨U, 0, none⟩) 2 2, .map (some M), .pointer (some ⟨F, 0, none⟩)] 133)) W.heap.size I U M F 2 0 (.slice c' 0 0) := by
      have l1 := heap_lt hI
      have l2 := heap_lt hU
      have l3 := heap_lt hM
      have l4 := heap_lt hF
      have l5 := hK.1
      refine ⟨heap_alloc_new, by rw [heap_alloc l1]; exact hI, by rw [heap_alloc l2]; exact hU, by rw [heap_alloc l3]; exact hM, by rw [heap_alloc l4]; exact hF, Or.inl ⟨c', rfl, rfl, rfl⟩, fun g hg => ?_, hK.alloc _, ⟨l5, by omega, by omega, by omega, by omega⟩, ⟨⟨by omega, by omega, by omega, by omega⟩, ⟨dIU, dIM, dIF⟩, ⟨dUM, dUF⟩, dMF⟩⟩
      cases c' <;> simp [own] at hg
    generalize W.alloc (.cells #[.slice (some ⟨I, 0, none⟩) 2 2, .slice (some ⟨U, 0, none⟩) 2 2, .map (some M), .pointer (some ⟨F, 0, none⟩)] 133) = W1 at *
    obtain ⟨s, hs⟩ : ∃ s, W.heap.size = s := ⟨_, rfl⟩
    rw [hs] at hS
    clear hI hU hM hF dIU dIM dIF dUM dUF dMF hK f1 f2 i1 i2 u1 u2 m1 m2
    rw [hs]
    go_wp2_with fail
    go_loopw [18] (fun i wr => ∃ (k : Nat) (v : Value), k ≤ 2 ∧ i = .int .i64 k ∧ SlotsW w wr s I U M F 2 k v) (fun i _ => 2 - (intOf i).toNat)
    case atStart => exact ⟨0, _, by omega, rfl, hS⟩
    case round =>
      obtain ⟨k, v, hk, rfl, hW⟩ := hrel
      clear hS
      by_cases hkn : k < 2
      · have hd : decide ((k : Int) < 2) = true := by simp; omega
        have ha : IntKind.i64.wrap ((k : Int) + 1) = (k : Int) + 1 := IntWalk.i64_in _ (by omega)
        have l1 := heap_lt hW.hs
        have c3 : wr.cell? ⟨s, 3, none⟩ = some (.pointer (some ⟨F, 0, none⟩)) := cell_of hW.hs 3
        have P := Push45 F k v k (upto k) wr ⟨hW.hF, hW.row, fun h => (hW.off F h).2.2.2.2.1 rfl⟩ (by
          rcases (by omega : k = 0 ∨ k = 1) with rfl | rfl
          · exact Or.inl rfl
          · exact Or.inr ⟨rfl, 0, rfl, by omega⟩)
        replace hW := Lib.hid hW
        replace hk := Lib.hid hk
        replace hkn := Lib.hid hkn
        go_wp2_with fail
        refine P.mono ?_
        rintro e w1 ⟨rfl, hk1, v1, hF1, hr1, hn1, ho1⟩
        have hS1 := Lib.hid (hW.out.step hk1 hF1 hr1 hn1 ho1)
        clear hk1 hF1 hr1 hn1 ho1 P
        go_wp2_with fail
        go_roundw
        case rel => exact ⟨k + 1, v1, hkn.out, by simp, hS1.out⟩
        case measure => have := hkn.out; simp [intOf]; omega
      · have hd : decide ((k : Int) < 2) = false := by simp; omega
        have hkk : k = 2 := by omega
        subst hkk
        replace hW := Lib.hid hW
        go_wp2_with fail
        go_returns
        exact ⟨s, I, U, M, F, v, rfl, hW.out⟩
end
end Go.Proofs.YtgfbfklnhmndfaaGreat
