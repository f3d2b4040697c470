/- The parts of the top that the law of early release walks through: part 37 of 52. -/
import Derived.Test.YtgfbfklnhmndfaaGreatA1
import Derived.Test.YtgfbfklnhmndfaaGreatA3
import Derived.Test.YtgfbfklnhmndfaaGreatA4
import Derived.Test.YtgfbfklnhmndfaaGreatA10
import Derived.Test.YtgfbfklnhmndfaaGreatA11
import Derived.Test.YtgfbfklnhmndfaaGreatA15
import Derived.Test.YtgfbfklnhmndfaaGreatA20
import Derived.Test.YtgfbfklnhmndfaaGreatA21
import Derived.Test.YtgfbfklnhmndfaaGreatA24
import Derived.Test.YtgfbfklnhmndfaaGreatA25
import Derived.Test.YtgfbfklnhmndfaaGreatA26
import Derived.Test.YtgfbfklnhmndfaaGreatA28
import Derived.Test.YtgfbfklnhmndfaaGreatA29
import Derived.Test.YtgfbfklnhmndfaaGreatA30
import Derived.Test.YtgfbfklnhmndfaaGreatA32
import Derived.Test.YtgfbfklnhmndfaaGreatA33
import Derived.Test.YtgfbfklnhmndfaaGreatA35
import Derived.Test.YtgfbfklnhmndfaaGreatA36
namespace Go.Proofs.YtgfbfklnhmndfaaGreat
open Go.RowKit
set_option linter.unusedSimpArgs false
set_option linter.unusedVariables false
section
attribute [local go_sem ↓] setCell_drewN alloc_drewN grow_cell grow_frozen setCell_grow grow_size cell_alloc_grow frozen_alloc_grow setCell_alloc_grow cell_grow_alloc_grow frozen_grow_alloc_grow setCell_grow_alloc_grow grow_grow
attribute [local go_sem] lt_len size_setCell
theorem cell_kept {S : List Nat} {a b : World} (h : Kept S a b) {x : Nat} (lx : x < a.heap.size) (i : Nat) (hn : x ∉ S := by simp) : b.cell? ⟨x, i, none⟩ = a.cell? ⟨x, i, none⟩ := by
  unfold World.cell?
  rw [h.2 x lx hn]
theorem cell_setCell_ne' {w : World} {a : Addr} {v : Value} {x i : Nat} (h : a.block ≠ x) : (w.setCell a v).cell? ⟨x, i, none⟩ = w.cell? ⟨x, i, none⟩ := by
  unfold World.cell?
  rw [heap_setCell_ne h]
theorem do25_tick {w : World} {x : Nat} {t : Int} (Q : World → Nat → World → Prop) (hT : ∀ W, Kept [] w W → Calls Tryz.prog 41 #[pt x] W fun e' V => ∃ g n cap, e' = .returned (.slice g n cap) ∧ Q W n V)
    (hc : w.cell? ⟨x, 5, none⟩ = some (.int .i64 t)) (ht : t < 2147483648) (lx : x < w.heap.size) :
    Calls Tryz.prog 25 #[pt x, .agg #[.int .i64 8, .int .i64 0, .int .i64 0, .int .i64 0]] w fun e' V => ∃ g n cap, e' = .returned (.tuple #[.slice g n cap, .int .i64 0]) ∧ ∃ W, Kept [] w W ∧ Q W n V := by
  have hd : decide (t ≥ 2147483648) = false := by simp; omega
  clear ht
  have kA : Kept [] w (w.alloc (.cells #[.int .i64 8, .int .i64 0, .int .i64 0, .int .i64 0] 37)) := (Kept.refl _ _).alloc _
  have T := hT _ kA
  replace kA := Lib.hid kA
  clear hT
  go_enter Tryz.func25, Tryz.ntmps25
  go_wp2_with fail
  refine T.mono ?_
  rintro e' V ⟨g, n, cap, rfl, hQ⟩
  replace hQ := Lib.hid hQ
  clear T hd hc lx
  go_wp2_with fail
  go_returns
  exact ⟨g, n, cap, rfl, _, kA.out, hQ.out⟩
set_option maxHeartbeats 1000000 in
theorem Do12_tick {w : World} {x : Nat} {t t2 : Int} (Q : World → Nat → World → Prop) (P : Nat → World → Prop) (hT : ∀ W, Kept [] w W → Calls Tryz.prog 41 #[pt x] W fun e' V => ∃ g n cap, e' = .returned (.slice g n cap) ∧ Q W n V)
    (hq : ∀ W n V, Kept [] w W → Q W n V → V.cell? ⟨x, 5, none⟩ = some (.int .i64 t2) ∧ x < V.heap.size ∧ (∀ b, w.heap.size ≤ b → b < W.heap.size → V.heap[b]? = W.heap[b]?))
    (hS : ∀ W n V S V', Kept [] w W → Q W n V → Kept S V V' → (∀ b ∈ S, w.heap.size ≤ b ∧ b < W.heap.size) → P n V')
    (hc : w.cell? ⟨x, 5, none⟩ = some (.int .i64 t)) (ht : t < 2147483648) (lx : x < w.heap.size) :
    Calls Tryz.prog 12 #[pt x, .agg #[.int .i64 8, .int .i64 0, .int .i64 0, .int .i64 0]] w fun e' V => ∃ g n cap, e' = .returned (.agg #[.int .i64 0, .int .i64 t2, .slice g n cap]) ∧ P n V := by
  have A := fun W => within16 8 1 8 (by omega) (by omega) W
  go_enter Tryz.func12, Tryz.ntmps12
  go_wp2_with fail
  have n3 : w.heap.size < w.heap.size + 1 + 1 + 1 := by omega
  obtain ⟨W0, hW0⟩ : ∃ W0, ((w.alloc (.cells #[.int .i64 8, .int .i64 0, .int .i64 0, .int .i64 0] 37)).alloc (.cells #[.int .i64 0, .int .i64 0, .slice none 0 0] 34)).alloc (.cells #[.int .i64 0, .int .i64 0, .slice none 0 0] 34) = W0 := ⟨_, rfl⟩
  have k0 : Kept [] w W0 := by rw [← hW0]; exact (((Kept.refl _ _).alloc _).alloc _).alloc _
  have s0 : W0.heap.size = w.heap.size + 1 + 1 + 1 := by rw [← hW0]; simp
  have h3 : W0.heap[w.heap.size]? = some (.cells #[.int .i64 8, .int .i64 0, .int .i64 0, .int .i64 0] 37) := by
    rw [← hW0, heap_alloc (by simp; omega), heap_alloc (by simp)]
    exact heap_alloc_new
  have h4 : W0.heap[w.heap.size + 1]? = some (.cells #[.int .i64 0, .int .i64 0, .slice none 0 0] 34) := by
    rw [← hW0, heap_alloc (by simp)]
    have := heap_alloc_new (w := w.alloc (.cells #[.int .i64 8, .int .i64 0, .int .i64 0, .int .i64 0] 37)) (o := .cells #[.int .i64 0, .int .i64 0, .slice none 0 0] 34)
    simpa using this
  have h5 : W0.heap[w.heap.size + 1 + 1]? = some (.cells #[.int .i64 0, .int .i64 0, .slice none 0 0] 34) := by
    rw [← hW0]
    have := heap_alloc_new (w := (w.alloc (.cells #[.int .i64 8, .int .i64 0, .int .i64 0, .int .i64 0] 37)).alloc (.cells #[.int .i64 0, .int .i64 0, .slice none 0 0] 34)) (o := .cells #[.int .i64 0, .int .i64 0, .slice none 0 0] 34)
    simpa using this
  have m3 : w.heap.size ≤ w.heap.size := Nat.le_refl _
  have m4 : w.heap.size ≤ w.heap.size + 1 := by omega
  have m5 : w.heap.size ≤ w.heap.size + 1 + 1 := by omega
  have n45 : w.heap.size + 1 ≠ w.heap.size + 1 + 1 := by omega
  have l5 : w.heap.size + 1 + 1 < W0.heap.size := by omega
  have nx4 : w.heap.size + 1 ≠ x := by omega
  have nx5 : w.heap.size + 1 + 1 ≠ x := by omega
  try rw [hW0]
  clear n3 s0 hW0
  generalize hB4 : w.heap.size + 1 = B4 at *
  generalize hB5 : B4 + 1 = B5 at *
  clear hB5 hB4
  generalize hB3 : w.heap.size = B3 at h3 ⊢
  refine (A _).mono ?_
  rintro e' X ⟨rfl, os, q, hX⟩
  have kX := kept_grow hX
  have kwX := Kept.tr k0 kX
  have h3X := kX.at h3 (by simp)
  have D := do25_tick (w := X) Q (fun W hk => hT W (Kept.tr kwX hk)) (t := t) (by rw [← hc]; exact cell_kept kwX lx _) ht (kwX.lt lx)
  have c0 : X.cell? ⟨B3, 0, none⟩ = some (.int .i64 8) := cell_of h3X 0
  have c1 : X.cell? ⟨B3, 1, none⟩ = some (.int .i64 0) := cell_of h3X 1
  have c2 : X.cell? ⟨B3, 2, none⟩ = some (.int .i64 0) := cell_of h3X 2
  have c3 : X.cell? ⟨B3, 3, none⟩ = some (.int .i64 0) := cell_of h3X 3
  have l3 := heap_lt h3X
  have st := Lib.hid (And.intro (Kept.tr k0 kX) (And.intro (kX.at h4 (by simp)) (And.intro (kX.at h5 (by simp)) (And.intro m4 (And.intro m5 (And.intro n45 (And.intro nx4 (And.intro nx5 (And.intro hq (And.intro hS (kX.lt l5)))))))))))
  clear k0 h4 h5 m4 m5 n45 nx4 nx5 hX kX kwX hT hc ht lx h3 h3X l5 m3 hq hS
  go_wp2_with fail
  refine D.mono ?_
  rintro e' V ⟨g, n, cap, rfl, W1, kW, hQ⟩
  clear D c0 c1 c2 c3 l3 A
  obtain ⟨kwX, h4, h5, m4, m5, n45, nx4, nx5, hq, hS, l5⟩ := st.out
  obtain ⟨q5, qx, qh⟩ := hq _ _ _ (Kept.tr kwX kW) hQ
  have l4 := heap_lt h4
  have h4V : V.heap[B4]? = some (.cells #[.int .i64 0, .int .i64 0, .slice none 0 0] 34) := (qh B4 m4 (kW.lt l4)).trans (kW.at h4 (by simp))
  have h5V : V.heap[B5]? = some (.cells #[.int .i64 0, .int .i64 0, .slice none 0 0] 34) := (qh B5 m5 (kW.lt l5)).trans (kW.at h5 (by simp))
  have QF : ∀ V', Kept [B5, B4] V V' → P n V' := fun V' hk => hS _ _ _ _ _ (Kept.tr kwX kW) hQ hk (by
    intro b hb
    simp only [List.mem_cons, List.not_mem_nil, or_false] at hb
    rcases hb with rfl | rfl
    · exact ⟨m5, kW.lt l5⟩
    · exact ⟨m4, kW.lt l4⟩)
  have f0 : V.frozen? ⟨B5, 0, none⟩ = false := frozen_of h5V 0
  have f2 : V.frozen? ⟨B5, 2, none⟩ = false := frozen_of h5V 2
  have e0 : V.cell? ⟨B5, 0, none⟩ = some (.int .i64 0) := cell_of h5V 0
  have e2 : V.cell? ⟨B5, 2, none⟩ = some (.slice none 0 0) := cell_of h5V 2
  have lV5 := heap_lt h5V
  obtain ⟨V4, hV4⟩ : ∃ V4, (V.setCell ⟨B5, 2, none⟩ (.slice g n cap)).setCell ⟨B5, 0, none⟩ (.int .i64 0) = V4 := ⟨_, rfl⟩
  have h54 : V4.heap[B5]? = some (.cells #[.int .i64 0, .int .i64 0, .slice g n cap] 34 (0, 0)) := by rw [← hV4]; exact heap_setCell (heap_setCell h5V)
  have h44 : V4.heap[B4]? = some (.cells #[.int .i64 0, .int .i64 0, .slice none 0 0] 34) := by rw [← hV4, heap_setCell_ne (Ne.symm n45), heap_setCell_ne (Ne.symm n45)]; exact h4V
  have k4 : Kept [B5, B4] V V4 := by rw [← hV4]; exact ((Kept.refl _ _).setCell _ _ (Or.inl (by simp))).setCell _ _ (Or.inl (by simp))
  have x4 : V4.cell? ⟨x, 5, none⟩ = some (.int .i64 t2) := by rw [← hV4, cell_setCell_ne' nx5, cell_setCell_ne' nx5]; exact q5
  have lx4 : x < V4.heap.size := k4.lt qx
  have g1 : V4.frozen? ⟨B5, 1, none⟩ = false := frozen_of h54 1
  have u1 : V4.cell? ⟨B5, 1, none⟩ = some (.int .i64 0) := cell_of h54 1
  have l54 := heap_lt h54
  obtain ⟨V5, hV5⟩ : ∃ V5, V4.setCell ⟨B5, 1, none⟩ (.int .i64 t2) = V5 := ⟨_, rfl⟩
  have h55 : V5.heap[B5]? = some (.cells #[.int .i64 0, .int .i64 t2, .slice g n cap] 34 (0, 0)) := by rw [← hV5]; exact heap_setCell h54
  have h45 : V5.heap[B4]? = some (.cells #[.int .i64 0, .int .i64 0, .slice none 0 0] 34) := by rw [← hV5, heap_setCell_ne (Ne.symm n45)]; exact h44
  have k5 : Kept [B5, B4] V V5 := by rw [← hV5]; exact k4.setCell _ _ (Or.inl (by simp))
  have v0 : V5.cell? ⟨B5, 0, none⟩ = some (.int .i64 0) := cell_of h55 0
  have v1 : V5.cell? ⟨B5, 1, none⟩ = some (.int .i64 t2) := cell_of h55 1
  have v2 : V5.cell? ⟨B5, 2, none⟩ = some (.slice g n cap) := cell_of h55 2
  have z0 : V5.cell? ⟨B4, 0, none⟩ = some (.int .i64 0) := cell_of h45 0
  have z1 : V5.cell? ⟨B4, 1, none⟩ = some (.int .i64 0) := cell_of h45 1
  have z2 : V5.cell? ⟨B4, 2, none⟩ = some (.slice none 0 0) := cell_of h45 2
  have y0 : V5.frozen? ⟨B4, 0, none⟩ = false := frozen_of h45 0
  have y1 : V5.frozen? ⟨B4, 1, none⟩ = false := frozen_of h45 1
  have y2 : V5.frozen? ⟨B4, 2, none⟩ = false := frozen_of h45 2
  have l55 := heap_lt h55
  have l45 := heap_lt h45
  obtain ⟨V6, hV6⟩ : ∃ V6, ((V5.setCell ⟨B4, 0, none⟩ (.int .i64 0)).setCell ⟨B4, 1, none⟩ (.int .i64 t2)).setCell ⟨B4, 2, none⟩ (.slice g n cap) = V6 := ⟨_, rfl⟩
  have h46 : V6.heap[B4]? = some (.cells #[.int .i64 0, .int .i64 t2, .slice g n cap] 34 (0, 0)) := by rw [← hV6]; exact heap_setCell (heap_setCell (heap_setCell h45))
  have k6 : Kept [B5, B4] V V6 := by rw [← hV6]; exact ((k5.setCell _ _ (Or.inl (by simp))).setCell _ _ (Or.inl (by simp))).setCell _ _ (Or.inl (by simp))
  have o0 : V6.cell? ⟨B4, 0, none⟩ = some (.int .i64 0) := cell_of h46 0
  have o1 : V6.cell? ⟨B4, 1, none⟩ = some (.int .i64 t2) := cell_of h46 1
  have o2 : V6.cell? ⟨B4, 2, none⟩ = some (.slice g n cap) := cell_of h46 2
  have l6 := heap_lt h46
  have fin := Lib.hid (QF V6 k6)
  clear st kwX h4 h5 m4 m5 n45 nx4 nx5 hq hS l5 q5 qx qh l4 h4V h5V QF h54 h44 k4 h55 h45 k5 h46 k6 hQ kW
  go_wp2_with fail
  refine bodyPost_ret (by simp [results, Tryz.results12, go_sem, *]; try rfl) rfl ?_
  exact ⟨g, n, cap, rfl, fin.out⟩
end
section
attribute [local go_sem ↓] setCell_drewN alloc_drewN grow_cell grow_frozen setCell_grow grow_size cell_alloc_grow frozen_alloc_grow setCell_alloc_grow cell_grow_alloc_grow frozen_grow_alloc_grow setCell_grow_alloc_grow grow_grow
attribute [local go_sem] lt_len size_setCell
/-- An executive without tasks, all of it newer than w0. -/
structure NX (w0 w : World) (c : Pm) (N I U F A B n : Nat) (v : Value) : Prop where
  hx : XAt w c.z c.tasks c.mode c.ring 0 0 0 (.slice none 0 0)
  hS : SlotsW w0 w c.s I U c.M F n n v
  hj : w.heap[c.z.j]? = some (.cells #[.pointer (some ⟨c.s, 0, none⟩), .slice (some ⟨c.L, 0, none⟩) n n] 97 (0, 0))
  hL : w.heap[c.L]? = some (.cells (noughts n).toArray 143 (0, 0))
  hLv : c.L ∉ own v
  hjv : c.z.j ∉ own v
  hQ : ∀ id, QuantAt w c.z.q c.sp N c.T c.early id
  hla : LagAt w c.z.la
  hb : w.heap[c.z.bk]? = some (.cells #[.slice none 0 0] 108 (0, 0))
  hm : MeterAt w c.z.m 0
  hl : w.heap[c.z.ls]? = some (.map #[] 0)
  hw : w.heap[c.z.wr]? = some (.map #[] 0)
  hr : RingAt w c.z.rg c.rb c.rk 0
  hle : w.heap[c.z.l]? = some (.cells #[.int .i64 1, .map (some A), .map (some B), .int .i64 0, .int .i64 1] 92 (0, 0))
  hA : w.heap[A]? = some (.map #[] 0)
  hB : w.heap[B]? = some (.map #[] 0)
  hse : w.heap[c.z.s]? = some (.cells #[.int .i64 1, .bool false, .int .i64 0, .slice none 0 0] 103 (0, 0))
  nd : [c.M, c.T, N, c.z.wr, c.z.ls, A, B].Nodup
  cn : c.n = n
  new : ∀ b ∈ [c.z.x, c.z.j, c.L, c.z.q, c.sp, c.z.la, c.z.bk, c.z.rg, c.rb, c.z.m, c.T, N, c.z.wr, c.z.ls, c.z.l, A, B, c.z.s], w0.heap.size ≤ b
/-- What a task's coming touches. -/
def joinS (c : Pm) (I U F A B : Nat) (v : Value) : List Nat := c.L :: I :: U :: c.M :: F :: own v ++ [c.z.l, A, B]
def d0 (N : Nat) (rest : List Value) : Dy := ⟨N, false, 0, 0, 0, 0, 0, 0, 0, 0, rest, .slice none 0 0, 0, []⟩
theorem row_tg3 {w : World} {v : Value} {n k : Nat} {xs : List Value} (h : Row w 3 1 v k xs) {b : Nat} (hb : b ∈ own v) : tgW w b = 4 := by
  rcases h with ⟨c, rfl, _, _⟩ | ⟨r1, r2⟩
  · cases c <;> simp [own] at hb
  · rcases r2 with ⟨rfl, _⟩ | ⟨g', cap, cur, rfl, _, r4, _⟩
    · simp [own] at hb
    · have := own_sub_block hb
      have hh : some g' = some b := this
      cases hh
      exact tg_cells r4
section
variable {w0 w : World} {c : Pm} {N I U F A B n : Nat} {v : Value}
theorem NX.tgS (h : NX w0 w c N I U F A B n v) {b : Nat} (hb : b ∈ joinS c I U F A B v) : tgW w b ∈ [144, 4, 5, 132, 93] ∨ b ∈ [c.M, A, B] := by
  unfold joinS at hb
  simp only [List.cons_append, List.mem_cons, List.mem_append, List.not_mem_nil, or_false] at hb
  rcases hb with rfl | rfl | rfl | rfl | rfl | hb | rfl | rfl | rfl
  · rw [tg_cells h.hL]; simp
  · rw [tg_cells h.hS.hI]; simp
  · rw [tg_cells h.hS.hU]; simp
  · simp
  · rw [tg_cells h.hS.hF]; simp
  · rw [row_tg3 (n := n) h.hS.row hb]; simp
  · rw [tg_cells h.hle]; simp
  · simp
  · simp
theorem NX.notC (h : NX w0 w c N I U F A B n v) {b k : Nat} (hb : tgW w b = k) (hk : k ∉ [144, 4, 5, 132, 93, 0]) : b ∉ joinS c I U F A B v := by
  intro hin
  rcases h.tgS hin with h1 | h1
  · rw [hb] at h1
    simp only [List.mem_cons, List.not_mem_nil, or_false] at h1 hk
    omega
  · have h0 : tgW w b = 0 := by
      simp only [List.mem_cons, List.not_mem_nil, or_false] at h1
      rcases h1 with rfl | rfl | rfl
      · exact tg_map h.hS.hM
      · exact tg_map h.hA
      · exact tg_map h.hB
    rw [hb] at h0
    subst h0
    simp at hk
theorem NX.notM (h : NX w0 w c N I U F A B n v) {b : Nat} (hb : tgW w b = 0) (hk : b ∉ [c.M, A, B]) : b ∉ joinS c I U F A B v := by
  intro hin
  rcases h.tgS hin with h1 | h1
  · rw [hb] at h1
    simp at h1
  · exact hk h1
theorem NX.kept0 (h : NX w0 w c N I U F A B n v) {W : World} (k : Kept [] w W) : NX w0 W c N I U F A B n v := by
  obtain ⟨y, hy, hla⟩ := h.hla
  obtain ⟨m1, m2, m3, m4, hm⟩ := h.hm
  obtain ⟨r1, rc, r2, r3⟩ := h.hr
  refine ⟨k.at h.hx (by simp), ⟨k.at h.hS.hs (by simp), k.at h.hS.hI (by simp), k.at h.hS.hU (by simp), k.at h.hS.hM (by simp), k.at h.hS.hF (by simp), ?_, h.hS.off, Kept.tr h.hS.kept k, h.hS.new, h.hS.apart⟩, k.at h.hj (by simp), k.at h.hL (by simp), h.hLv, h.hjv, fun id => (h.hQ id).kept k (by simp) (by simp) (by simp) (by simp), ⟨y, hy, k.at hla (by simp)⟩, k.at h.hb (by simp), ⟨m1, m2, m3, m4, k.at hm (by simp)⟩, k.at h.hl (by simp), k.at h.hw (by simp), ⟨k.at r1 (by simp), rc, k.at r2 (by simp), r3⟩, k.at h.hle (by simp), k.at h.hA (by simp), k.at h.hB (by simp), k.at h.hse (by simp), h.nd, h.cn, h.new⟩
  rcases h.hS.row with h1 | h1
  · exact Or.inl h1
  · exact Or.inr (row_kept k h1 (fun g hg => by simp))
/-- All its blocks lie between. -/
theorem NX.joinS_in (h : NX w0 w c N I U F A B n v) {b : Nat} (hb : b ∈ joinS c I U F A B v) : w0.heap.size ≤ b ∧ b < w.heap.size := by
  have hn := h.hS.new
  have hnew := h.new
  simp only [List.mem_cons, List.not_mem_nil, or_false, forall_eq_or_imp, forall_eq] at hnew
  have hb0 := hb
  unfold joinS at hb
  simp only [List.cons_append, List.mem_cons, List.mem_append, List.not_mem_nil, or_false] at hb
  rcases hb with rfl | rfl | rfl | rfl | rfl | hb | rfl | rfl | rfl
  · exact ⟨by omega, heap_lt h.hL⟩
  · exact ⟨by omega, heap_lt h.hS.hI⟩
  · exact ⟨by omega, heap_lt h.hS.hU⟩
  · exact ⟨by omega, heap_lt h.hS.hM⟩
  · exact ⟨by omega, heap_lt h.hS.hF⟩
  · refine ⟨(h.hS.off _ hb).2.2.2.2.2, ?_⟩
    rcases h.hS.row with ⟨c', rfl, _, _⟩ | hr
    · cases c' <;> simp [own] at hb
    · exact row_lt hr (own_sub_block hb)
  · exact ⟨by omega, heap_lt h.hle⟩
  · exact ⟨by omega, heap_lt h.hA⟩
  · exact ⟨by omega, heap_lt h.hB⟩
theorem NX.feet_in (h : NX w0 w c N I U F A B n v) {id e p : Int} {rest : List Value} {b : Nat} (hb : b ∈ feet { c with id := id, e := e, p := p } (d0 N rest)) : w0.heap.size ≤ b ∧ b < w.heap.size := by
  have hn := h.hS.new
  have hnew := h.new
  simp only [List.mem_cons, List.not_mem_nil, or_false, forall_eq_or_imp, forall_eq] at hnew
  simp only [feet, blocks, d0, Value.ownBlock, Option.toList_none, List.append_nil, List.mem_cons, List.not_mem_nil, or_false] at hb
  rcases hb with rfl | rfl | rfl | rfl | rfl | rfl | rfl | rfl | rfl | rfl | rfl | rfl | rfl | rfl | rfl | rfl
  · exact ⟨by omega, heap_lt h.hx⟩
  · exact ⟨by omega, heap_lt h.hj⟩
  · exact ⟨by omega, heap_lt h.hS.hs⟩
  · exact ⟨by omega, heap_lt h.hL⟩
  · exact ⟨by omega, heap_lt (h.hQ 0).hq⟩
  · exact ⟨by omega, heap_lt (h.hQ 0).hs⟩
  · obtain ⟨_, _, hs⟩ := h.hla; exact ⟨by omega, heap_lt hs⟩
  · exact ⟨by omega, heap_lt h.hb⟩
  · exact ⟨by omega, heap_lt h.hr.1⟩
  · obtain ⟨_, _, hs, _⟩ := h.hr; exact ⟨by omega, heap_lt hs⟩
  · obtain ⟨_, _, _, _, hs⟩ := h.hm; exact ⟨by omega, heap_lt hs⟩
  · exact ⟨by omega, heap_lt h.hS.hM⟩
  · exact ⟨by omega, (h.hQ 0).hL.lt⟩
  · exact ⟨by omega, (h.hQ 0).hN.lt⟩
  · exact ⟨by omega, heap_lt h.hw⟩
  · exact ⟨by omega, heap_lt h.hl⟩
/-- Whoever touches none of its blocks leaves it as it was. -/
theorem NX.join (h : NX w0 w c N I U F A B n v) (hn : n = 1 ∨ n = 2) (id e p : Int) (hid : (Lit.int .i64 id).wf = true) (he : 1 ≤ e) (hep : e ≤ p) (hp : p ≤ 1048575) :
    Calls Tryz.prog 46 #[pt c.z.j, .int .i64 id, .int .i64 e, .int .i64 p, .bool false] w fun e' w' => e' = .returned (.int .i64 0) ∧ Kept (c.L :: I :: U :: c.M :: F :: own v) w w' ∧ ∃ rest, JobsAt w' c.z.j c.s c.M c.L n id e p false 0 0 0 rest := by
  rcases hn with rfl | rfl
  · exact Join46_1 id e p hid he hep hp h.hS h.hj h.hL h.hLv h.hjv
  · exact Join46_2 id e p hid he hep hp h.hS h.hj h.hL h.hLv h.hjv
theorem NX.joined (h : NX w0 w c N I U F A B n v) {W1 W2 W : World} {id e p : Int} {rest : List Value} (k1 : Kept (c.L :: I :: U :: c.M :: F :: own v) w W1) (J : JobsAt W1 c.z.j c.s c.M c.L n id e p false 0 0 0 rest) (k2 : Kept [] W1 W2) (k3 : Kept [c.z.l, A, B] W2 W) :
    EX W { c with id := id, e := e, p := p } (d0 N rest) ∧ Kept (joinS c I U F A B v) w W := by
  have k : Kept (joinS c I U F A B v) w W := Kept.trans (Kept.tr k1 k2) k3 (fun x hx => List.mem_append_left _ hx) (fun x hx => Or.inl (List.mem_append_right _ hx))
  have nd := h.nd
  have nM : ∀ i, 1 ≤ i → i ≤ 4 → ∀ b, [c.M, c.T, N, c.z.wr, c.z.ls, A, B][i]? = some b → b ∉ [c.M, A, B] := by
    intro i h1 h2 b hb
    simp only [List.mem_cons, List.not_mem_nil, or_false, not_or]
    exact ⟨ndn nd (i := i) (j := 0) hb rfl (by omega), ndn nd (i := i) (j := 5) hb rfl (by omega), ndn nd (i := i) (j := 6) hb rfl (by omega)⟩
  obtain ⟨r1, rc, r2, r3⟩ := h.hr
  obtain ⟨y, hy, hla⟩ := h.hla
  obtain ⟨m1, m2, m3, m4, hm⟩ := h.hm
  obtain ⟨sa, sb, sd, hs⟩ := J.hs
  refine ⟨⟨k.at h.hx (h.notC (tg_cells h.hx) (by decide)), ?_, (h.hQ id).kept k (h.notC (tg_cells (h.hQ 0).hq) (by decide)) (h.notC (tg_cells (h.hQ 0).hs) (by decide)) (h.notM (tg_half (h.hQ 0).hN) (nM 2 (by omega) (by omega) _ rfl)) (h.notM (tg_half (h.hQ 0).hL) (nM 1 (by omega) (by omega) _ rfl)), ⟨y, hy, k.at hla (h.notC (tg_cells hla) (by decide))⟩, k.at h.hb (h.notC (tg_cells h.hb) (by decide)), ⟨m1, m2, m3, m4, k.at hm (h.notC (tg_cells hm) (by decide))⟩, ⟨_, _, k.at h.hl (h.notM (tg_map h.hl) (nM 4 (by omega) (by omega) _ rfl)), Or.inl rfl⟩, ⟨k.at r1 (h.notC (tg_cells r1) (by decide)), rc, k.at r2 (h.notC (tg_cells r2) (by decide)), r3⟩, ⟨_, _, k.at h.hw (h.notM (tg_map h.hw) (nM 3 (by omega) (by omega) _ rfl)), Or.inl rfl⟩, ⟨by simp [d0], Or.inl ⟨rfl, rfl⟩⟩, ?_⟩, k⟩
  · have a1 : ∀ {b t : Nat} {cs : Array Value}, w.heap[b]? = some (.cells cs t (0, 0)) → t ≠ 92 → b ∉ [c.z.l, A, B] := by
      intro b t cs hb ht
      simp only [List.mem_cons, List.not_mem_nil, or_false, not_or]
      refine ⟨heap_ne hb h.hle ?_, heap_ne hb h.hA (by simp), heap_ne hb h.hB (by simp)⟩
      intro he
      have h2 := (Obj.cells.inj he).2.1
      exact ht h2
    have a2 : c.M ∉ [c.z.l, A, B] := by
      simp only [List.mem_cons, List.not_mem_nil, or_false, not_or]
      exact ⟨heap_ne h.hS.hM h.hle (by simp), ndn nd (i := 0) (j := 5) rfl rfl (by decide), ndn nd (i := 0) (j := 6) rfl rfl (by decide)⟩
    have J2 := J.kept0 k2
    have hJ := J2.kept k3 (a1 h.hj (by decide)) (a1 h.hS.hs (by decide)) a2 (a1 h.hL (by decide))
    have hcn := h.cn
    subst hcn
    exact hJ
  · exact (List.Sublist.nodup (by
      show [c.M, c.T, N, c.z.wr, c.z.ls].Sublist [c.M, c.T, N, c.z.wr, c.z.ls, A, B]
      exact List.sublist_append_left [c.M, c.T, N, c.z.wr, c.z.ls] [A, B]) nd)
end
end
section
attribute [local go_sem ↓] setCell_drewN alloc_drewN grow_cell grow_frozen setCell_grow grow_size cell_alloc_grow frozen_alloc_grow setCell_alloc_grow cell_grow_alloc_grow frozen_grow_alloc_grow setCell_grow_alloc_grow grow_grow
attribute [local go_sem] lt_len size_setCell
set_option maxHeartbeats 1000000 in
theorem join35 {w0 w : World} {c : Pm} {N I U F A B n : Nat} {v : Value} (h : NX w0 w c N I U F A B n v) (hn : n = 1 ∨ n = 2) (id : Int) (e p : Nat) (hid : (Lit.int .i64 id).wf = true) (he : 1 ≤ e) (hep : e ≤ p) (hp : p ≤ 1048575) :
    Calls Tryz.prog 35 #[pt c.z.x, .agg #[.int .i64 1, .int .i64 id, .int .i64 (e : Int), .int .i64 (p : Int)]] w fun e' W => e' = .returned (.int .i64 0) ∧ ∃ rest, EX W { c with id := id, e := e, p := p } (d0 N rest) ∧ Kept (joinS c I U F A B v) w W ∧ ∃ s1 s2 : Int, W.heap[c.z.l]? = some (.cells #[.int .i64 1, .map (some A), .map (some B), .int .i64 s1, .int .i64 s2] 92 (0, 0)) := by
  have kA : Kept [] w (w.alloc (.cells #[.int .i64 1, .int .i64 id, .int .i64 (e : Int), .int .i64 (p : Int)] 37)) := (Kept.refl _ _).alloc _
  have hB : (w.alloc (.cells #[.int .i64 1, .int .i64 id, .int .i64 (e : Int), .int .i64 (p : Int)] 37)).heap[w.heap.size]? = some (.cells #[.int .i64 1, .int .i64 id, .int .i64 (e : Int), .int .i64 (p : Int)] 37) := heap_alloc_new
  obtain ⟨W0, hW0⟩ : ∃ W0, w.alloc (.cells #[.int .i64 1, .int .i64 id, .int .i64 (e : Int), .int .i64 (p : Int)] 37) = W0 := ⟨_, rfl⟩
  obtain ⟨B0, hB0⟩ : ∃ B0, w.heap.size = B0 := ⟨_, rfl⟩
  rw [hW0] at kA hB
  rw [hB0] at hB
  have h0 := h.kept0 kA
  have hBn : B0 ∉ joinS c I U F A B v := fun hin => by
    have := (h.joinS_in hin).2
    omega
  have J := (h0.kept0 ((Kept.refl [] W0).drew)).join hn id e p hid (by omega) (by omega) (by omega)
  have hx0 := h0.hx
  unfold XAt at hx0
  have c7 : W0.cell? ⟨c.z.x, 7, none⟩ = some (.pointer (some ⟨c.z.j, 0, none⟩)) := cell_of hx0 7
  have lx := heap_lt hx0
  have b0 : W0.cell? ⟨B0, 0, none⟩ = some (.int .i64 1) := cell_of hB 0
  have b1 : W0.cell? ⟨B0, 1, none⟩ = some (.int .i64 id) := cell_of hB 1
  have b2 : W0.cell? ⟨B0, 2, none⟩ = some (.int .i64 (e : Int)) := cell_of hB 2
  have b3 : W0.cell? ⟨B0, 3, none⟩ = some (.int .i64 (p : Int)) := cell_of hB 3
  have lB := heap_lt hB
  have st := Lib.hid (And.intro h0 (And.intro kA (And.intro hB hBn)))
  replace hn := Lib.hid hn
  replace he := Lib.hid he
  replace hep := Lib.hid hep
  replace hp := Lib.hid hp
  clear h h0 kA hB hBn hx0 hid
  go_enter Tryz.func35, Tryz.ntmps35
  go_wp2_with fail
  try rw [hW0]
  try rw [hB0]
  clear hW0 hB0
  refine wp_region_any (by kernel_rfl) ?_
  rw [List.size_toArray]
  refine wpAnyS_any (S := fun X => X = W0.drew) (k := 13) _ _ _ ?_ _ rfl
  refine sTake (i := 0) rfl (by kernel_rfl) (fun _ _ _ h => h) (gLoad (by rfl) (fun W hW => by (try dsimp only at hW); subst hW; go_simp; first | done | rfl)) ?_
  try simp only [Act.put, zA, zB, zC]
  refine sTake (i := 1) rfl (by kernel_rfl) (fun _ _ _ h => h) (gLoad (by rfl) (fun W hW => by (try dsimp only at hW); subst hW; go_simp; first | done | rfl)) ?_
  try simp only [Act.put, zA, zB, zC]
  refine sTake (i := 2) rfl (by kernel_rfl) (fun _ _ _ h => h) (gLoad (by rfl) (fun W hW => by (try dsimp only at hW); subst hW; go_simp; first | done | rfl)) ?_
  try simp only [Act.put, zA, zB, zC]
  refine sTake (i := 3) rfl (by kernel_rfl) (fun _ _ _ h => h) (gLoad (by rfl) (fun W hW => by (try dsimp only at hW); subst hW; go_simp; first | done | rfl)) ?_
  try simp only [Act.put, zA, zB, zC]
  refine sTake (i := 4) rfl (by kernel_rfl) (fun _ _ _ h => h) (gLoad (by rfl) (fun W hW => by (try dsimp only at hW); subst hW; go_simp; first | done | rfl)) ?_
  try simp only [Act.put, zA, zB, zC]
  refine sTake (i := 5) rfl (by kernel_rfl) (fun _ _ _ h => h) (gLoad (by rfl) (fun W hW => by (try dsimp only at hW); subst hW; go_simp; first | done | rfl)) ?_
  try simp only [Act.put, zA, zB, zC]
  refine sTake (i := 6) rfl (by kernel_rfl) (fun _ _ _ h => h) (gLoad (by rfl) (fun W hW => by (try dsimp only at hW); subst hW; go_simp; first | done | rfl)) ?_
  try simp only [Act.put, zA, zB, zC]
  refine sTake (i := 7) rfl (by kernel_rfl) (fun _ _ _ h => h) (gLoad (by rfl) (fun W hW => by (try dsimp only at hW); subst hW; go_simp; first | done | rfl)) ?_
  try simp only [Act.put, zA, zB, zC]
  refine sTake (i := 8) rfl (by kernel_rfl) (fun _ _ _ h => h) (gLoad (by rfl) (fun W hW => by (try dsimp only at hW); subst hW; go_simp; first | done | rfl)) ?_
  try simp only [Act.put, zA, zB, zC]
  refine sTake (i := 9) rfl (by kernel_rfl) (fun _ _ _ h => h) (gLoad (by rfl) (fun W hW => by (try dsimp only at hW); subst hW; go_simp; first | done | rfl)) ?_
  try simp only [Act.put, zA, zB, zC]
  refine sTake (i := 10) rfl (by kernel_rfl) (fun _ _ _ h => h) (gLoad (by rfl) (fun W hW => by (try dsimp only at hW); subst hW; go_simp; first | done | rfl)) ?_
  try simp only [Act.put, zA, zB, zC]
  refine sTake (i := 11) rfl (by kernel_rfl) (fun _ _ _ h => h) (gLoad (by rfl) (fun W hW => by (try dsimp only at hW); subst hW; go_simp; first | done | rfl)) ?_
  try simp only [Act.put, zA, zB, zC]
  refine sTake (i := 12) rfl (by kernel_rfl) (fun _ _ _ h => h) (gLoad (by rfl) (fun W hW => by (try dsimp only at hW); subst hW; go_simp; first | done | rfl)) ?_
  try simp only [Act.put, zA, zB, zC]
  refine sRest (by kernel_rfl) ?_
  rintro X rfl
  refine aCall (i := 13) rfl (by kernel_rfl) (by rfl) (by go_simp; first | done | rfl | exact ⟨rfl, rfl⟩) (J.mono ?_)
  rintro e' W1 ⟨rfl, k1, rest, hJ1⟩
  refine ⟨_, rfl, ?_⟩
  try simp only [Act.put, zA, zB, zC]
  refine aVal (i := 14) (v := ?_) rfl (by kernel_rfl) (by rfl) ?_ ?_
  rotate_left 1
  · go_simp; all_goals with_reducible rfl
  try simp only [Act.put, zA, zB, zC]
  refine wpAny_done (by kernel_rfl) ?_ _
  clear c7 lx b0 b1 b2 b3 lB J
  obtain ⟨h0, kA, hB, hBn⟩ := st.out
  have k1' : Kept (c.L :: I :: U :: c.M :: F :: own v) W0 W1 := Kept.tr0 ((Kept.refl [] W0).drew) k1
  have sub : ∀ b, b ∉ joinS c I U F A B v → b ∉ c.L :: I :: U :: c.M :: F :: own v := fun b hb hin => hb (List.mem_append_left _ hin)
  have hB1 := k1'.at hB (sub _ hBn)
  have hx1 := k1'.at h0.hx (sub _ (h0.notC (tg_cells h0.hx) (by decide)))
  have c6 : W1.cell? ⟨c.z.x, 6, none⟩ = some (.pointer (some ⟨c.z.l, 0, none⟩)) := cell_of hx1 6
  have lx := heap_lt hx1
  have b0 : W1.cell? ⟨B0, 0, none⟩ = some (.int .i64 1) := cell_of hB1 0
  have b1 : W1.cell? ⟨B0, 1, none⟩ = some (.int .i64 id) := cell_of hB1 1
  have b2 : W1.cell? ⟨B0, 2, none⟩ = some (.int .i64 (e : Int)) := cell_of hB1 2
  have b3 : W1.cell? ⟨B0, 3, none⟩ = some (.int .i64 (p : Int)) := cell_of hB1 3
  have lB := heap_lt hB1
  have nd := h0.nd
  have m1 : c.z.l ∉ c.L :: I :: U :: c.M :: F :: own v := by
    intro hin
    have hl := tg_cells h0.hle
    rcases List.mem_cons.1 hin with e1 | hin
    · rw [e1, tg_cells h0.hL] at hl; cases hl
    rcases List.mem_cons.1 hin with e1 | hin
    · rw [e1, tg_cells h0.hS.hI] at hl; cases hl
    rcases List.mem_cons.1 hin with e1 | hin
    · rw [e1, tg_cells h0.hS.hU] at hl; cases hl
    rcases List.mem_cons.1 hin with e1 | hin
    · rw [e1, tg_map h0.hS.hM] at hl; cases hl
    rcases List.mem_cons.1 hin with e1 | hin
    · rw [e1, tg_cells h0.hS.hF] at hl; cases hl
    rw [row_tg3 (n := n) h0.hS.row hin] at hl; cases hl
  have mm : ∀ b cc, W0.heap[b]? = some (.map #[] cc) → b ≠ c.M → b ∉ c.L :: I :: U :: c.M :: F :: own v := by
    intro b cc hb hne hin
    have hl := tg_map hb
    rcases List.mem_cons.1 hin with e1 | hin
    · rw [e1, tg_cells h0.hL] at hl; cases hl
    rcases List.mem_cons.1 hin with e1 | hin
    · rw [e1, tg_cells h0.hS.hI] at hl; cases hl
    rcases List.mem_cons.1 hin with e1 | hin
    · rw [e1, tg_cells h0.hS.hU] at hl; cases hl
    rcases List.mem_cons.1 hin with e1 | hin
    · exact hne e1
    rcases List.mem_cons.1 hin with e1 | hin
    · rw [e1, tg_cells h0.hS.hF] at hl; cases hl
    rw [row_tg3 (n := n) h0.hS.row hin] at hl; cases hl
  have AD := Add47 c.z.l A B 0 0 id e p he.out hep.out hp.out W1.drew (k1'.at h0.hle m1) (k1'.at h0.hA (mm _ _ h0.hA (Ne.symm (ndn nd (i := 0) (j := 5) rfl rfl (by decide))))) (k1'.at h0.hB (mm _ _ h0.hB (Ne.symm (ndn nd (i := 0) (j := 6) rfl rfl (by decide))))) (ndn nd (i := 5) (j := 6) rfl rfl (by decide))
  replace st := Lib.hid (And.intro h0 (And.intro kA (And.intro k1' hJ1)))
  clear h0 kA hB hBn k1' hJ1 sub hB1 hx1 nd m1 mm k1
  go_wp2_with fail
  refine wp_region_any (by kernel_rfl) ?_
  rw [List.size_toArray]
  refine wpAnyS_any (S := fun X => X = W1.drew) (k := 10) _ _ _ ?_ _ rfl
  refine sTake (i := 0) rfl (by kernel_rfl) (fun _ _ _ h => h) (gLoad (by rfl) (fun W hW => by (try dsimp only at hW); subst hW; go_simp; first | done | rfl)) ?_
  try simp only [Act.put, zA, zB, zC]
  refine sTake (i := 1) rfl (by kernel_rfl) (fun _ _ _ h => h) (gLoad (by rfl) (fun W hW => by (try dsimp only at hW); subst hW; go_simp; first | done | rfl)) ?_
  try simp only [Act.put, zA, zB, zC]
  refine sTake (i := 2) rfl (by kernel_rfl) (fun _ _ _ h => h) (gLoad (by rfl) (fun W hW => by (try dsimp only at hW); subst hW; go_simp; first | done | rfl)) ?_
  try simp only [Act.put, zA, zB, zC]
  refine sTake (i := 3) rfl (by kernel_rfl) (fun _ _ _ h => h) (gLoad (by rfl) (fun W hW => by (try dsimp only at hW); subst hW; go_simp; first | done | rfl)) ?_
  try simp only [Act.put, zA, zB, zC]
  refine sTake (i := 4) rfl (by kernel_rfl) (fun _ _ _ h => h) (gLoad (by rfl) (fun W hW => by (try dsimp only at hW); subst hW; go_simp; first | done | rfl)) ?_
  try simp only [Act.put, zA, zB, zC]
  refine sTake (i := 5) rfl (by kernel_rfl) (fun _ _ _ h => h) (gLoad (by rfl) (fun W hW => by (try dsimp only at hW); subst hW; go_simp; first | done | rfl)) ?_
  try simp only [Act.put, zA, zB, zC]
  refine sTake (i := 6) rfl (by kernel_rfl) (fun _ _ _ h => h) (gLoad (by rfl) (fun W hW => by (try dsimp only at hW); subst hW; go_simp; first | done | rfl)) ?_
  try simp only [Act.put, zA, zB, zC]
  refine sTake (i := 7) rfl (by kernel_rfl) (fun _ _ _ h => h) (gLoad (by rfl) (fun W hW => by (try dsimp only at hW); subst hW; go_simp; first | done | rfl)) ?_
  try simp only [Act.put, zA, zB, zC]
  refine sTake (i := 8) rfl (by kernel_rfl) (fun _ _ _ h => h) (gLoad (by rfl) (fun W hW => by (try dsimp only at hW); subst hW; go_simp; first | done | rfl)) ?_
  try simp only [Act.put, zA, zB, zC]
  refine sTake (i := 9) rfl (by kernel_rfl) (fun _ _ _ h => h) (gLoad (by rfl) (fun W hW => by (try dsimp only at hW); subst hW; go_simp; first | done | rfl)) ?_
  try simp only [Act.put, zA, zB, zC]
  refine sRest (by kernel_rfl) ?_
  rintro X rfl
  refine aCall (i := 10) rfl (by kernel_rfl) (by rfl) (by go_simp; first | done | rfl | exact ⟨rfl, rfl⟩) (AD.mono ?_)
  rintro e' W3 ⟨rfl, k3, hl3⟩
  refine ⟨_, rfl, ?_⟩
  try simp only [Act.put, zA, zB, zC]
  refine aVal (i := 11) (v := ?_) rfl (by kernel_rfl) (by rfl) ?_ ?_
  rotate_left 1
  · go_simp; all_goals with_reducible rfl
  try simp only [Act.put, zA, zB, zC]
  refine wpAny_done (by kernel_rfl) ?_ _
  clear c6 lx b0 b1 b2 b3 lB AD
  obtain ⟨h0, kA, k1', hJ1⟩ := st.out
  obtain ⟨ex, kk⟩ := h0.joined k1' hJ1 ((Kept.refl [] W1).drew) k3
  have fin := Lib.hid (And.intro ex (And.intro (Kept.tr0 kA kk) hl3))
  clear h0 kA k1' hJ1 ex kk st k3 hl3
  go_wp2_with fail
  go_returns
  exact ⟨rfl, rest, fin.out.1, fin.out.2.1, fin.out.2.2⟩
end
section
attribute [local go_sem ↓] setCell_drewN alloc_drewN grow_cell grow_frozen setCell_grow grow_size cell_alloc_grow frozen_alloc_grow setCell_alloc_grow cell_grow_alloc_grow frozen_grow_alloc_grow setCell_grow_alloc_grow grow_grow
attribute [local go_sem] lt_len size_setCell
theorem do25_join {w : World} {x : Nat} {id : Int} {e p : Nat} (Q : World → World → Prop) (hT : ∀ W, Kept [] w W → Calls Tryz.prog 35 #[pt x, .agg #[.int .i64 1, .int .i64 id, .int .i64 (e : Int), .int .i64 (p : Int)]] W fun e' V => e' = .returned (.int .i64 0) ∧ Q W V) :
    Calls Tryz.prog 25 #[pt x, .agg #[.int .i64 1, .int .i64 id, .int .i64 (e : Int), .int .i64 (p : Int)]] w fun e' V => e' = .returned (.tuple #[.slice none 0 0, .int .i64 0]) ∧ ∃ W, Kept [] w W ∧ Q W V := by
  have kA : Kept [] w (w.alloc (.cells #[.int .i64 1, .int .i64 id, .int .i64 (e : Int), .int .i64 (p : Int)] 37)) := (Kept.refl _ _).alloc _
  have T := hT _ kA
  replace kA := Lib.hid kA
  clear hT
  go_enter Tryz.func25, Tryz.ntmps25
  go_wp2_with fail
  refine T.mono ?_
  rintro e' V ⟨rfl, hQ⟩
  replace hQ := Lib.hid hQ
  clear T
  go_wp2_with fail
  go_returns
  exact ⟨rfl, _, kA.out, hQ.out⟩
set_option maxHeartbeats 1000000 in
theorem Do12_join {w : World} {x : Nat} {t2 : Int} {id : Int} {e p : Nat} (hi0 : 0 ≤ id) (hi1 : id ≤ 65535) (Q : World → World → Prop) (P : World → Prop) (hT : ∀ W, Kept [] w W → Calls Tryz.prog 35 #[pt x, .agg #[.int .i64 1, .int .i64 id, .int .i64 (e : Int), .int .i64 (p : Int)]] W fun e' V => e' = .returned (.int .i64 0) ∧ Q W V)
    (hq : ∀ W V, Kept [] w W → Q W V → V.cell? ⟨x, 5, none⟩ = some (.int .i64 t2) ∧ x < V.heap.size ∧ (∀ b, w.heap.size ≤ b → b < W.heap.size → V.heap[b]? = W.heap[b]?))
    (hS : ∀ W V S V', Kept [] w W → Q W V → Kept S V V' → (∀ b ∈ S, w.heap.size ≤ b ∧ b < W.heap.size) → P V')
    (lx : x < w.heap.size) :
    Calls Tryz.prog 12 #[pt x, .agg #[.int .i64 1, .int .i64 id, .int .i64 (e : Int), .int .i64 (p : Int)]] w fun e' V => e' = .returned (.agg #[.int .i64 0, .int .i64 t2, .slice none 0 0]) ∧ P V := by
  have A := fun W => within16 1 1 8 (by omega) (by omega) W
  have A2 := fun W => within16 id 0 65535 hi0 hi1 W
  clear hi0 hi1
  go_enter Tryz.func12, Tryz.ntmps12
  go_wp2_with fail
  have n3 : w.heap.size < w.heap.size + 1 + 1 + 1 := by omega
  obtain ⟨W0, hW0⟩ : ∃ W0, ((w.alloc (.cells #[.int .i64 1, .int .i64 id, .int .i64 (e : Int), .int .i64 (p : Int)] 37)).alloc (.cells #[.int .i64 0, .int .i64 0, .slice none 0 0] 34)).alloc (.cells #[.int .i64 0, .int .i64 0, .slice none 0 0] 34) = W0 := ⟨_, rfl⟩
  have k0 : Kept [] w W0 := by rw [← hW0]; exact (((Kept.refl _ _).alloc _).alloc _).alloc _
  have s0 : W0.heap.size = w.heap.size + 1 + 1 + 1 := by rw [← hW0]; simp
  have h3 : W0.heap[w.heap.size]? = some (.cells #[.int .i64 1, .int .i64 id, .int .i64 (e : Int), .int .i64 (p : Int)] 37) := by
    rw [← hW0, heap_alloc (by simp; omega), heap_alloc (by simp)]
    exact heap_alloc_new
  have h4 : W0.heap[w.heap.size + 1]? = some (.cells #[.int .i64 0, .int .i64 0, .slice none 0 0] 34) := by
    rw [← hW0, heap_alloc (by simp)]
    have := heap_alloc_new (w := w.alloc (.cells #[.int .i64 1, .int .i64 id, .int .i64 (e : Int), .int .i64 (p : Int)] 37)) (o := .cells #[.int .i64 0, .int .i64 0, .slice none 0 0] 34)
    simpa using this
  have h5 : W0.heap[w.heap.size + 1 + 1]? = some (.cells #[.int .i64 0, .int .i64 0, .slice none 0 0] 34) := by
    rw [← hW0]
    have := heap_alloc_new (w := (w.alloc (.cells #[.int .i64 1, .int .i64 id, .int .i64 (e : Int), .int .i64 (p : Int)] 37)).alloc (.cells #[.int .i64 0, .int .i64 0, .slice none 0 0] 34)) (o := .cells #[.int .i64 0, .int .i64 0, .slice none 0 0] 34)
    simpa using this
  have m3 : w.heap.size ≤ w.heap.size := Nat.le_refl _
  have m4 : w.heap.size ≤ w.heap.size + 1 := by omega
  have m5 : w.heap.size ≤ w.heap.size + 1 + 1 := by omega
  have n45 : w.heap.size + 1 ≠ w.heap.size + 1 + 1 := by omega
  have l5 : w.heap.size + 1 + 1 < W0.heap.size := by omega
  have nx4 : w.heap.size + 1 ≠ x := by omega
  have nx5 : w.heap.size + 1 + 1 ≠ x := by omega
  try rw [hW0]
  clear n3 s0 hW0
  generalize hB4 : w.heap.size + 1 = B4 at *
  generalize hB5 : B4 + 1 = B5 at *
  clear hB5 hB4
  generalize hB3 : w.heap.size = B3 at h3 ⊢
  refine (A _).mono ?_
  rintro e' X1 ⟨rfl, os1, q1, hX1⟩
  have h3b := (kept_grow hX1).at h3 (by simp)
  have d1 : X1.cell? ⟨B3, 1, none⟩ = some (.int .i64 id) := cell_of h3b 1
  have d0' : X1.cell? ⟨B3, 0, none⟩ = some (.int .i64 1) := cell_of h3b 0
  have l3b := heap_lt h3b
  have kX1 := Lib.hid (kept_grow hX1)
  clear hX1 h3b
  go_wp2_with fail
  refine (A2 _).mono ?_
  rintro e' X ⟨rfl, os, q, hX⟩
  clear d1 d0' l3b
  have kX := Kept.tr kX1.out (kept_grow hX)
  clear kX1
  have kwX := Kept.tr k0 kX
  have h3X := kX.at h3 (by simp)
  have D := do25_join (w := X) Q (fun W hk => hT W (Kept.tr kwX hk))
  have c0 : X.cell? ⟨B3, 0, none⟩ = some (.int .i64 1) := cell_of h3X 0
  have c1 : X.cell? ⟨B3, 1, none⟩ = some (.int .i64 id) := cell_of h3X 1
  have c2 : X.cell? ⟨B3, 2, none⟩ = some (.int .i64 (e : Int)) := cell_of h3X 2
  have c3 : X.cell? ⟨B3, 3, none⟩ = some (.int .i64 (p : Int)) := cell_of h3X 3
  have l3 := heap_lt h3X
  have st := Lib.hid (And.intro (Kept.tr k0 kX) (And.intro (kX.at h4 (by simp)) (And.intro (kX.at h5 (by simp)) (And.intro m4 (And.intro m5 (And.intro n45 (And.intro nx4 (And.intro nx5 (And.intro hq (And.intro hS (kX.lt l5)))))))))))
  clear k0 h4 h5 m4 m5 n45 nx4 nx5 hX kX kwX hT lx h3 h3X l5 m3 hq hS
  go_wp2_with fail
  refine D.mono ?_
  rintro e' V ⟨rfl, W1, kW, hQ⟩
  clear D c0 c1 c2 c3 l3 A A2
  obtain ⟨kwX, h4, h5, m4, m5, n45, nx4, nx5, hq, hS, l5⟩ := st.out
  obtain ⟨q5, qx, qh⟩ := hq _ _ (Kept.tr kwX kW) hQ
  have l4 := heap_lt h4
  have h4V : V.heap[B4]? = some (.cells #[.int .i64 0, .int .i64 0, .slice none 0 0] 34) := (qh B4 m4 (kW.lt l4)).trans (kW.at h4 (by simp))
  have h5V : V.heap[B5]? = some (.cells #[.int .i64 0, .int .i64 0, .slice none 0 0] 34) := (qh B5 m5 (kW.lt l5)).trans (kW.at h5 (by simp))
  have QF : ∀ V', Kept [B5, B4] V V' → P V' := fun V' hk => hS _ _ _ _ (Kept.tr kwX kW) hQ hk (by
    intro b hb
    simp only [List.mem_cons, List.not_mem_nil, or_false] at hb
    rcases hb with rfl | rfl
    · exact ⟨m5, kW.lt l5⟩
    · exact ⟨m4, kW.lt l4⟩)
  have f0 : V.frozen? ⟨B5, 0, none⟩ = false := frozen_of h5V 0
  have f2 : V.frozen? ⟨B5, 2, none⟩ = false := frozen_of h5V 2
  have e0 : V.cell? ⟨B5, 0, none⟩ = some (.int .i64 0) := cell_of h5V 0
  have e2 : V.cell? ⟨B5, 2, none⟩ = some (.slice none 0 0) := cell_of h5V 2
  have lV5 := heap_lt h5V
  obtain ⟨V4, hV4⟩ : ∃ V4, (V.setCell ⟨B5, 2, none⟩ (.slice none 0 0)).setCell ⟨B5, 0, none⟩ (.int .i64 0) = V4 := ⟨_, rfl⟩
  have h54 : V4.heap[B5]? = some (.cells #[.int .i64 0, .int .i64 0, .slice none 0 0] 34 (0, 0)) := by rw [← hV4]; exact heap_setCell (heap_setCell h5V)
  have h44 : V4.heap[B4]? = some (.cells #[.int .i64 0, .int .i64 0, .slice none 0 0] 34) := by rw [← hV4, heap_setCell_ne (Ne.symm n45), heap_setCell_ne (Ne.symm n45)]; exact h4V
  have k4 : Kept [B5, B4] V V4 := by rw [← hV4]; exact ((Kept.refl _ _).setCell _ _ (Or.inl (by simp))).setCell _ _ (Or.inl (by simp))
  have x4 : V4.cell? ⟨x, 5, none⟩ = some (.int .i64 t2) := by rw [← hV4, cell_setCell_ne' nx5, cell_setCell_ne' nx5]; exact q5
  have lx4 : x < V4.heap.size := k4.lt qx
  have g1 : V4.frozen? ⟨B5, 1, none⟩ = false := frozen_of h54 1
  have u1 : V4.cell? ⟨B5, 1, none⟩ = some (.int .i64 0) := cell_of h54 1
  have l54 := heap_lt h54
  obtain ⟨V5, hV5⟩ : ∃ V5, V4.setCell ⟨B5, 1, none⟩ (.int .i64 t2) = V5 := ⟨_, rfl⟩
  have h55 : V5.heap[B5]? = some (.cells #[.int .i64 0, .int .i64 t2, .slice none 0 0] 34 (0, 0)) := by rw [← hV5]; exact heap_setCell h54
  have h45 : V5.heap[B4]? = some (.cells #[.int .i64 0, .int .i64 0, .slice none 0 0] 34) := by rw [← hV5, heap_setCell_ne (Ne.symm n45)]; exact h44
  have k5 : Kept [B5, B4] V V5 := by rw [← hV5]; exact k4.setCell _ _ (Or.inl (by simp))
  have v0 : V5.cell? ⟨B5, 0, none⟩ = some (.int .i64 0) := cell_of h55 0
  have v1 : V5.cell? ⟨B5, 1, none⟩ = some (.int .i64 t2) := cell_of h55 1
  have v2 : V5.cell? ⟨B5, 2, none⟩ = some (.slice none 0 0) := cell_of h55 2
  have z0 : V5.cell? ⟨B4, 0, none⟩ = some (.int .i64 0) := cell_of h45 0
  have z1 : V5.cell? ⟨B4, 1, none⟩ = some (.int .i64 0) := cell_of h45 1
  have z2 : V5.cell? ⟨B4, 2, none⟩ = some (.slice none 0 0) := cell_of h45 2
  have y0 : V5.frozen? ⟨B4, 0, none⟩ = false := frozen_of h45 0
  have y1 : V5.frozen? ⟨B4, 1, none⟩ = false := frozen_of h45 1
  have y2 : V5.frozen? ⟨B4, 2, none⟩ = false := frozen_of h45 2
  have l55 := heap_lt h55
  have l45 := heap_lt h45
  obtain ⟨V6, hV6⟩ : ∃ V6, ((V5.setCell ⟨B4, 0, none⟩ (.int .i64 0)).setCell ⟨B4, 1, none⟩ (.int .i64 t2)).setCell ⟨B4, 2, none⟩ (.slice none 0 0) = V6 := ⟨_, rfl⟩
  have h46 : V6.heap[B4]? = some (.cells #[.int .i64 0, .int .i64 t2, .slice none 0 0] 34 (0, 0)) := by rw [← hV6]; exact heap_setCell (heap_setCell (heap_setCell h45))
  have k6 : Kept [B5, B4] V V6 := by rw [← hV6]; exact ((k5.setCell _ _ (Or.inl (by simp))).setCell _ _ (Or.inl (by simp))).setCell _ _ (Or.inl (by simp))
  have o0 : V6.cell? ⟨B4, 0, none⟩ = some (.int .i64 0) := cell_of h46 0
  have o1 : V6.cell? ⟨B4, 1, none⟩ = some (.int .i64 t2) := cell_of h46 1
  have o2 : V6.cell? ⟨B4, 2, none⟩ = some (.slice none 0 0) := cell_of h46 2
  have l6 := heap_lt h46
  have fin := Lib.hid (QF V6 k6)
  clear st kwX h4 h5 m4 m5 n45 nx4 nx5 hq hS l5 q5 qx qh l4 h4V h5V QF h54 h44 k4 h55 h45 k5 h46 k6 hQ kW
  go_wp2_with fail
  refine bodyPost_ret (by simp [results, Tryz.results12, go_sem, *]; try rfl) rfl ?_
  exact ⟨rfl, fin.out⟩
end
end Go.Proofs.YtgfbfklnhmndfaaGreat
