/- The parts of the top that the law of early release walks through: part 32 of 52. -/
import Derived.Test.YtgfbfklnhmndfaaGreatA1
import Derived.Test.YtgfbfklnhmndfaaGreatA3
import Derived.Test.YtgfbfklnhmndfaaGreatA4
import Derived.Test.YtgfbfklnhmndfaaGreatA6
import Derived.Test.YtgfbfklnhmndfaaGreatA9
import Derived.Test.YtgfbfklnhmndfaaGreatA12
import Derived.Test.YtgfbfklnhmndfaaGreatA15
import Derived.Test.YtgfbfklnhmndfaaGreatA16
import Derived.Test.YtgfbfklnhmndfaaGreatA20
import Derived.Test.YtgfbfklnhmndfaaGreatA21
import Derived.Test.YtgfbfklnhmndfaaGreatA24
import Derived.Test.YtgfbfklnhmndfaaGreatA25
import Derived.Test.YtgfbfklnhmndfaaGreatA29
import Derived.Test.YtgfbfklnhmndfaaGreatA30
namespace Go.Proofs.YtgfbfklnhmndfaaGreat
open Go.RowKit
set_option linter.unusedSimpArgs false
set_option linter.unusedVariables false
section
attribute [local go_sem ↓] setCell_drewN alloc_drewN grow_cell grow_frozen setCell_grow grow_size cell_alloc_grow frozen_alloc_grow setCell_alloc_grow cell_grow_alloc_grow frozen_grow_alloc_grow setCell_grow_alloc_grow grow_grow
attribute [local go_sem] lt_len size_setCell
/-- The mode, and whether the engine by slices runs. -/
def ModeIs (mode : Int) (sl : Bool) : Prop := (mode = 1 ∧ sl = false) ∨ (mode = 2 ∧ sl = false) ∨ (mode = 4 ∧ sl = true)
theorem slots55 {w : World} {z : Ad} {tasks mode ring clock idle given : Int} {all : Value} {sl : Bool} (h : XAt w z tasks mode ring clock idle given all) (hm : ModeIs mode sl) : Calls Tryz.prog 55 #[pt z.x] w fun e w' => e = .returned (.bool true) ∧ w = w' := by
  unfold XAt at h
  have c2 : w.cell? ⟨z.x, 2, none⟩ = some (.int .i64 mode) := cell_of h 2
  have l := heap_lt h
  clear h
  rcases hm with ⟨rfl, rfl⟩ | ⟨rfl, rfl⟩ | ⟨rfl, rfl⟩
  all_goals
    go_enter Tryz.func55, Tryz.ntmps55
    go_wp2_with fail
    go_returns
    exact ⟨rfl, rfl⟩
theorem slices30 {w : World} {z : Ad} {tasks mode ring clock idle given : Int} {all : Value} {sl : Bool} (h : XAt w z tasks mode ring clock idle given all) (hm : ModeIs mode sl) : Calls Tryz.prog 30 #[pt z.x] w fun e w' => e = .returned (.bool sl) ∧ w = w' := by
  unfold XAt at h
  have c2 : w.cell? ⟨z.x, 2, none⟩ = some (.int .i64 mode) := cell_of h 2
  have l := heap_lt h
  clear h
  rcases hm with ⟨rfl, rfl⟩ | ⟨rfl, rfl⟩ | ⟨rfl, rfl⟩
  all_goals
    go_enter Tryz.func30, Tryz.ntmps30
    go_wp2_with fail
    go_returns
    exact ⟨rfl, rfl⟩
theorem slices30S {V : World} {z : Ad} {tasks mode ring clock idle given : Int} {all : Value} {sl : Bool} (h : XAt V z tasks mode ring clock idle given all) (hm : ModeIs mode sl) : ∀ W, (∃ os q, Go.Proofs.YtgfbfklnhmndfaaGreat.grow V os q = W) → Calls Tryz.prog 30 #[pt z.x] W fun e w' => e = .returned (.bool sl) ∧ ∃ os q, Go.Proofs.YtgfbfklnhmndfaaGreat.grow V os q = w' := by
  rintro W ⟨os, q, hW⟩
  refine (slices30 ((kept_grow hW).at h (by simp)) hm).mono ?_
  rintro e w' ⟨rfl, rfl⟩
  exact ⟨rfl, os, q, hW⟩
def LagAt (w : World) (la : Nat) : Prop := ∃ y : Rat, Sm30 y ∧ w.heap[la]? = some (.cells #[.int .i64 y.num, .int .i64 y.den] 105 (0, 0))
theorem LagAt.kept {S : List Nat} {w W : World} {la : Nat} (h : LagAt w la) (hk : Kept S w W) (hn : la ∉ S) : LagAt W la := by
  obtain ⟨y, h1, h2⟩ := h
  exact ⟨y, h1, hk.at h2 hn⟩
theorem LagAt.ne {w : World} {la b : Nat} (h : LagAt w la) {c : Array Value} {T : TypeId} {f : Nat × Nat} (hb : w.heap[b]? = some (.cells c T f)) (hT : T ≠ 105) : la ≠ b := by
  obtain ⟨y, _, h2⟩ := h
  exact heap_ne h2 hb (by simp; intro _ h; exact absurd h.symm hT)
theorem See144 {w : World} {la : Nat} (e p rel clock got : Int) (h : LagAt w la) (he : 1 ≤ e) (hep : e ≤ p) (hp : p ≤ 1024) (hr0 : 0 ≤ rel) (hrc : rel ≤ clock) (hc : clock ≤ 65536) (hg0 : 0 ≤ got) (hg : got ≤ 1024) :
    Calls Tryz.prog 144 #[pt la, .int .i64 e, .int .i64 p, .int .i64 rel, .int .i64 clock, wi got] w fun e' w' => e' = .returned (.int .i64 0) ∧ Kept [la] w w' ∧ LagAt w' la := by
  obtain ⟨y, hy, hl⟩ := h
  obtain ⟨e, rfl⟩ := Int.eq_ofNat_of_zero_le (show 0 ≤ e by omega)
  obtain ⟨p, rfl⟩ := Int.eq_ofNat_of_zero_le (show 0 ≤ p by omega)
  obtain ⟨rel, rfl⟩ := Int.eq_ofNat_of_zero_le hr0
  obtain ⟨clock, rfl⟩ := Int.eq_ofNat_of_zero_le (show 0 ≤ clock by omega)
  obtain ⟨got, rfl⟩ := Int.eq_ofNat_of_zero_le hg0
  obtain ⟨x, hx, A⟩ := At190 e p rel clock got (by omega) (by omega) (by omega) (by omega) (by omega) (by omega)
  exact See144' la e p rel clock got 1 x y hx hy w hl A
/-- What the engine by slices gave a job. -/
def WrapAt (w : World) (K : Nat) (id : Int) (n : Int) : Prop := ∃ b c, w.heap[K]? = some (.map #[{ key := .int .i64 id, val := wi n, born := b }] c)
theorem WrapAt.kept {S : List Nat} {w W : World} {K : Nat} {id n : Int} (h : WrapAt w K id n) (hk : Kept S w W) (hn : K ∉ S) : WrapAt W K id n := by
  obtain ⟨b, c, h⟩ := h
  exact ⟨b, c, hk.at h hn⟩
theorem WrapAt.look {w : World} {K : Nat} {id n : Int} (h : WrapAt w K id n) : (Instr.lookup 76 (.map (some K)) (.int .i64 id) false).run Tryz.prog w = .ok (wi n) w := by
  obtain ⟨b, c, h⟩ := h
  have := look_one Tryz.underlying76 Tryz.underlying3 h false
  simpa using this
theorem WrapAt.lt {w : World} {K : Nat} {id n : Int} (h : WrapAt w K id n) : K < w.heap.size := by
  obtain ⟨b, c, h⟩ := h
  exact heap_lt h
theorem wholeS {V : World} (n : Int) : ∀ W, (∃ os q, Go.Proofs.YtgfbfklnhmndfaaGreat.grow V os q = W) → Calls Tryz.prog 83 #[.int .i64 n] W fun e w' => e = .returned (wi n) ∧ ∃ os q, Go.Proofs.YtgfbfklnhmndfaaGreat.grow V os q = w' :=
  fun W hW => RetG.into (fun W => whole83 n W) hW
set_option maxHeartbeats 1000000 in
theorem see105_slots {w : World} {z : Ad} {s M L n : Nat} {id e p rel got cnt : Int} {rest : List Value} {tasks mode ring clock idle given : Int} {all : Value} (hJ : JobsAt w z.j s M L n id e p true rel got cnt rest) (hx : XAt w z tasks mode ring clock idle given all) (hla : LagAt w z.la) (he : 1 ≤ e) (hep : e ≤ p) (hp : p ≤ 1024) (hr0 : 0 ≤ rel) (hrc : rel ≤ clock) (hc : clock ≤ 65536) (hg0 : 0 ≤ got) (hg : got ≤ 1024) (hm : ModeIs mode false) :
    Calls Tryz.prog 105 #[pt z.x] w fun e' w' => e' = .returned (.int .i64 0) ∧ Kept [z.la] w w' ∧ LagAt w' z.la := by
  have A := All85 hJ
  unfold XAt at hx
  have S := fun W h => See144 (w := W) (la := z.la) e p rel clock got h he hep hp hr0 hrc hc hg0 hg
  have hwr : IntKind.i64.wrap (rel + p) = rel + p := IntWalk.i64_in _ (by omega)
  have c7 : w.cell? ⟨z.x, 7, none⟩ = some (.pointer (some ⟨z.j, 0, none⟩)) := cell_of hx 7
  have lx := heap_lt hx
  have st := Lib.hid (And.intro hx hla)
  clear hx hla hJ he hep hp hr0 hrc hc hg0 hg
  go_enter Tryz.func105, Tryz.ntmps105
  go_wp2_with fail
  refine A.mono ?_
  rintro e' w1 ⟨g, cap, cur, rfl, hg, hg1, hcap, k1⟩
  have t0 : w1.cell? ⟨g, 0, none⟩ = some (.int .i64 id) := cell_of hg1 0
  have t1 : w1.cell? ⟨g, 1, none⟩ = some (.int .i64 e) := cell_of hg1 1
  have t2 : w1.cell? ⟨g, 2, none⟩ = some (.int .i64 p) := cell_of hg1 2
  have t3 : w1.cell? ⟨g, 3, none⟩ = some (.bool false) := cell_of hg1 3
  have t4 : w1.cell? ⟨g, 4, none⟩ = some (.bool false) := cell_of hg1 4
  have t5 : w1.cell? ⟨g, 5, none⟩ = some (.bool false) := cell_of hg1 5
  have t6 : w1.cell? ⟨g, 6, none⟩ = some (.bool true) := cell_of hg1 6
  have t7 : w1.cell? ⟨g, 7, none⟩ = some (.int .i64 rel) := cell_of hg1 7
  have t8 : w1.cell? ⟨g, 8, none⟩ = some (.int .i64 got) := cell_of hg1 8
  have t9 : w1.cell? ⟨g, 9, none⟩ = some (.bool false) := cell_of hg1 9
  have t10 : w1.cell? ⟨g, 10, none⟩ = some (.int .i64 cnt) := cell_of hg1 10
  have lg := heap_lt hg1
  have W83 := fun W => whole83 got W
  clear hg hg1 A c7 lx
  go_wp2_with fail
  refine wp_loop_rounds 2 ?_
  rw [rounds_succ]
  go_wp2_with fail
  refine (W83 _).mono ?_
  rintro e' w2 ⟨rfl, os, q, hw2⟩
  have kA : Kept [] w1 (w1.alloc (.cells #[.int .i64 id, .int .i64 e, .int .i64 p, .bool false, .bool false, .bool false, .bool true, .int .i64 rel, .int .i64 got, .bool false, .int .i64 cnt] 143)) := (Kept.refl _ _).alloc _
  have k2 := Kept.tr (Kept.tr k1 kA) (kept_grow hw2)
  have p5 := (kept_grow hw2).at (x := w1.heap.size) heap_alloc_new (by simp)
  obtain ⟨B5, hB5⟩ : ∃ B, w1.heap.size = B := ⟨_, rfl⟩
  rw [hB5] at p5
  have k3 := k2.alloc (.cells #[.int .i64 got, .int .i64 1] 39)
  have p5' : (w2.alloc (.cells #[.int .i64 got, .int .i64 1] 39)).heap[B5]? = _ := (heap_alloc (heap_lt p5)).trans p5
  have p6 : (w2.alloc (.cells #[.int .i64 got, .int .i64 1] 39)).heap[w2.heap.size]? = some (.cells #[.int .i64 got, .int .i64 1] 39 (0, 0)) := heap_alloc_new
  obtain ⟨B6, hB6⟩ : ∃ B, w2.heap.size = B := ⟨_, rfl⟩
  rw [hB6] at p6
  obtain ⟨V, hV⟩ : ∃ V, w2.alloc (.cells #[.int .i64 got, .int .i64 1] 39) = V := ⟨_, rfl⟩
  rw [hV] at k3 p5' p6
  have hx := k3.at st.out.1 (by simp)
  have O := slots55 (w := V) (z := z) hx hm
  clear hw2 kA k2 p5 k1 t0 t1 t2 t3 t4 t5 t6 t7 t8 t9 t10 lg W83
  replace p5' := Lib.hid (And.intro p5' (And.intro p6 (And.intro k3 hx)))
  clear p6 k3 hx
  go_wp2_with fail
  clear hV hB6 hB5
  refine O.mono ?_
  rintro e' w3 ⟨rfl, rfl⟩
  go_wp2_with fail
  obtain ⟨p5, p6, k3, hx⟩ := p5'.out
  have t0 : V.cell? ⟨B5, 0, none⟩ = some (.int .i64 id) := cell_of p5 0
  have t1 : V.cell? ⟨B5, 1, none⟩ = some (.int .i64 e) := cell_of p5 1
  have t2 : V.cell? ⟨B5, 2, none⟩ = some (.int .i64 p) := cell_of p5 2
  have t3 : V.cell? ⟨B5, 3, none⟩ = some (.bool false) := cell_of p5 3
  have t4 : V.cell? ⟨B5, 4, none⟩ = some (.bool false) := cell_of p5 4
  have t5 : V.cell? ⟨B5, 5, none⟩ = some (.bool false) := cell_of p5 5
  have t6 : V.cell? ⟨B5, 6, none⟩ = some (.bool true) := cell_of p5 6
  have t7 : V.cell? ⟨B5, 7, none⟩ = some (.int .i64 rel) := cell_of p5 7
  have t8 : V.cell? ⟨B5, 8, none⟩ = some (.int .i64 got) := cell_of p5 8
  have t9 : V.cell? ⟨B5, 9, none⟩ = some (.bool false) := cell_of p5 9
  have t10 : V.cell? ⟨B5, 10, none⟩ = some (.int .i64 cnt) := cell_of p5 10
  have c1 : V.cell? ⟨z.x, 5, none⟩ = some (.int .i64 clock) := cell_of hx 5
  have c10 : V.cell? ⟨z.x, 10, none⟩ = some (.pointer (some ⟨z.la, 0, none⟩)) := cell_of hx 10
  have g0 : V.cell? ⟨B6, 0, none⟩ = some (.int .i64 got) := cell_of p6 0
  have g1 : V.cell? ⟨B6, 1, none⟩ = some (.int .i64 1) := cell_of p6 1
  have lx := heap_lt hx
  have l5 := heap_lt p5
  have l6 := heap_lt p6
  clear p5 p6 k3 hx O
  refine wp_region_any (by kernel_rfl) ?_
  rw [List.size_toArray]
  refine wpAnyS_any (S := fun X => ∃ os q, Go.Proofs.YtgfbfklnhmndfaaGreat.grow V os q = X) (k := 15) _ _ _ ?_ _ (gr_drew (gr_refl _))
  refine sTake (i := 0) (v := ?_) rfl (by kernel_rfl) (fun _ _ _ h => h) (gLoad (by rfl) ?_) ?_
  rotate_left 1
  · intro W hW; (try dsimp only at hW); obtain ⟨os', q', hW'⟩ := hW; subst hW'; go_simp; all_goals with_reducible rfl
  try simp only [Act.put, zA, zB, zC]
  refine sTake (i := 1) (v := ?_) rfl (by kernel_rfl) (fun _ _ _ h => h) (gLoad (by rfl) ?_) ?_
  rotate_left 1
  · intro W hW; (try dsimp only at hW); obtain ⟨os', q', hW'⟩ := hW; subst hW'; go_simp; all_goals with_reducible rfl
  try simp only [Act.put, zA, zB, zC]
  refine sTake (i := 2) (v := ?_) rfl (by kernel_rfl) (fun _ _ _ h => h) (gLoad (by rfl) ?_) ?_
  rotate_left 1
  · intro W hW; (try dsimp only at hW); obtain ⟨os', q', hW'⟩ := hW; subst hW'; go_simp; all_goals with_reducible rfl
  try simp only [Act.put, zA, zB, zC]
  refine sTake (i := 3) (v := ?_) rfl (by kernel_rfl) (fun _ _ _ h => h) (gLoad (by rfl) ?_) ?_
  rotate_left 1
  · intro W hW; (try dsimp only at hW); obtain ⟨os', q', hW'⟩ := hW; subst hW'; go_simp; all_goals with_reducible rfl
  try simp only [Act.put, zA, zB, zC]
  refine sTake (i := 4) (v := ?_) rfl (by kernel_rfl) (fun _ _ _ h => h) (gLoad (by rfl) ?_) ?_
  rotate_left 1
  · intro W hW; (try dsimp only at hW); obtain ⟨os', q', hW'⟩ := hW; subst hW'; go_simp; all_goals with_reducible rfl
  try simp only [Act.put, zA, zB, zC]
  refine sTake (i := 5) (v := ?_) rfl (by kernel_rfl) (fun _ _ _ h => h) (gLoad (by rfl) ?_) ?_
  rotate_left 1
  · intro W hW; (try dsimp only at hW); obtain ⟨os', q', hW'⟩ := hW; subst hW'; go_simp; all_goals with_reducible rfl
  try simp only [Act.put, zA, zB, zC]
  refine sTake (i := 6) (v := ?_) rfl (by kernel_rfl) (fun _ _ _ h => h) (gLoad (by rfl) ?_) ?_
  rotate_left 1
  · intro W hW; (try dsimp only at hW); obtain ⟨os', q', hW'⟩ := hW; subst hW'; go_simp; all_goals with_reducible rfl
  try simp only [Act.put, zA, zB, zC]
  refine sTake (i := 7) (v := ?_) rfl (by kernel_rfl) (fun _ _ _ h => h) (gLoad (by rfl) ?_) ?_
  rotate_left 1
  · intro W hW; (try dsimp only at hW); obtain ⟨os', q', hW'⟩ := hW; subst hW'; go_simp; all_goals with_reducible rfl
  try simp only [Act.put, zA, zB, zC]
  refine sTake (i := 8) (v := ?_) rfl (by kernel_rfl) (fun _ _ _ h => h) (gLoad (by rfl) ?_) ?_
  rotate_left 1
  · intro W hW; (try dsimp only at hW); obtain ⟨os', q', hW'⟩ := hW; subst hW'; go_simp; all_goals with_reducible rfl
  try simp only [Act.put, zA, zB, zC]
  refine sTake (i := 9) (v := ?_) rfl (by kernel_rfl) (fun _ _ _ h => h) (gLoad (by rfl) ?_) ?_
  rotate_left 1
  · intro W hW; (try dsimp only at hW); obtain ⟨os', q', hW'⟩ := hW; subst hW'; go_simp; all_goals with_reducible rfl
  try simp only [Act.put, zA, zB, zC]
  refine sTake (i := 10) (v := ?_) rfl (by kernel_rfl) (fun _ _ _ h => h) (gLoad (by rfl) ?_) ?_
  rotate_left 1
  · intro W hW; (try dsimp only at hW); obtain ⟨os', q', hW'⟩ := hW; subst hW'; go_simp; all_goals with_reducible rfl
  try simp only [Act.put, zA, zB, zC]
  refine sTake (i := 11) (v := ?_) rfl (by kernel_rfl) (fun _ _ _ h => h) (gLoad (by rfl) ?_) ?_
  rotate_left 1
  · intro W hW; (try dsimp only at hW); obtain ⟨os', q', hW'⟩ := hW; subst hW'; go_simp; all_goals with_reducible rfl
  try simp only [Act.put, zA, zB, zC]
  refine sTake (i := 12) (v := ?_) rfl (by kernel_rfl) (fun _ _ _ h => h) (gLoad (by rfl) ?_) ?_
  rotate_left 1
  · intro W hW; (try dsimp only at hW); obtain ⟨os', q', hW'⟩ := hW; subst hW'; go_simp; all_goals with_reducible rfl
  try simp only [Act.put, zA, zB, zC]
  refine sTake (i := 13) (v := ?_) rfl (by kernel_rfl) (fun _ _ _ h => h) (gLoad (by rfl) ?_) ?_
  rotate_left 1
  · intro W hW; (try dsimp only at hW); obtain ⟨os', q', hW'⟩ := hW; subst hW'; go_simp; all_goals with_reducible rfl
  try simp only [Act.put, zA, zB, zC]
  refine sTake (i := 14) (v := ?_) rfl (by kernel_rfl) (fun _ _ _ h => h) (gLoad (by rfl) ?_) ?_
  rotate_left 1
  · intro W hW; (try dsimp only at hW); obtain ⟨os', q', hW'⟩ := hW; subst hW'; go_simp; all_goals with_reducible rfl
  try simp only [Act.put, zA, zB, zC]
  refine sRest (by kernel_rfl) ?_
  intro X hX
  obtain ⟨os4, q4, hX⟩ := hX
  obtain ⟨p5, p6, k3, hx⟩ := p5'.out
  have k4 := Kept.tr k3 (kept_grow hX)
  have q5 := (kept_grow hX).at p5 (by simp)
  have hx4 := (kept_grow hX).at hx (by simp)
  have hl4 := LagAt.kept st.out.2 k4 (by simp)
  have S1 := S X hl4
  clear c1 c10 g0 g1 lx l5 l6 t0 t1 t2 t3 t4 t5 t6 t7 t8 t9 t10 p5 p6 k3 hx S
  refine aCall (i := 15) rfl (by kernel_rfl) (by rfl) (by go_simp; first | done | rfl | exact ⟨rfl, rfl⟩) (S1.mono ?_)
  rintro e' Y ⟨rfl, kl, hl5⟩
  refine ⟨_, rfl, ?_⟩
  try simp only [Act.put, zA, zB, zC]
  refine wpAny_done (by kernel_rfl) ?_ _
  have n5 : z.la ≠ B5 := hl4.ne q5 (by decide)
  have nx : z.la ≠ z.x := hl4.ne hx4 (by decide)
  have q6 := kl.at q5 (by simp [Ne.symm n5])
  have hx6 := kl.at hx4 (by simp [Ne.symm nx])
  have k6 := Kept.tr0 k4 kl
  replace p5' := Lib.hid (And.intro k6 hl5)
  have S30 := slices30S (V := Y) (z := z) hx6 hm
  have t0 : Y.cell? ⟨B5, 0, none⟩ = some (.int .i64 id) := cell_of q6 0
  have t1 : Y.cell? ⟨B5, 1, none⟩ = some (.int .i64 e) := cell_of q6 1
  have t2 : Y.cell? ⟨B5, 2, none⟩ = some (.int .i64 p) := cell_of q6 2
  have t3 : Y.cell? ⟨B5, 3, none⟩ = some (.bool false) := cell_of q6 3
  have t4 : Y.cell? ⟨B5, 4, none⟩ = some (.bool false) := cell_of q6 4
  have t5 : Y.cell? ⟨B5, 5, none⟩ = some (.bool false) := cell_of q6 5
  have t6 : Y.cell? ⟨B5, 6, none⟩ = some (.bool true) := cell_of q6 6
  have t7 : Y.cell? ⟨B5, 7, none⟩ = some (.int .i64 rel) := cell_of q6 7
  have t8 : Y.cell? ⟨B5, 8, none⟩ = some (.int .i64 got) := cell_of q6 8
  have t9 : Y.cell? ⟨B5, 9, none⟩ = some (.bool false) := cell_of q6 9
  have t10 : Y.cell? ⟨B5, 10, none⟩ = some (.int .i64 cnt) := cell_of q6 10
  have c5 : Y.cell? ⟨z.x, 5, none⟩ = some (.int .i64 clock) := cell_of hx6 5
  have c17 : Y.cell? ⟨z.x, 17, none⟩ = some (.map (some z.wr)) := cell_of hx6 17
  have lx := heap_lt hx6
  have l5 := heap_lt q6
  clear hX k4 q5 hx4 hl4 S1 kl hl5 n5 nx q6 hx6 k6
  go_wp2_with fail
  refine sBegin (fun X => ∃ os q, Go.Proofs.YtgfbfklnhmndfaaGreat.grow Y os q = X) 27 (by kernel_rfl) (gr_drew (gr_refl _)) ?_
  refine sTake (i := 0) (v := ?_) rfl (by kernel_rfl) (fun _ _ _ h => h) (gLoad (by rfl) ?_) ?_
  rotate_left 1
  · intro W hW; (try dsimp only at hW); obtain ⟨os', q', hW'⟩ := hW; subst hW'; go_simp; all_goals with_reducible rfl
  try simp only [Act.put, zA, zB, zC]
  refine sTake (i := 1) rfl (by kernel_rfl) (fun _ _ _ h => h) (gCall (by rfl) ?_ (fun W hW => S30 W hW)) ?_
  · intro W hW; go_simp; all_goals with_reducible rfl
  try simp only [Act.put, zA, zB, zC]
  refine sTake (i := 2) (v := ?_) rfl (by kernel_rfl) (fun _ _ _ h => h) (gLoad (by rfl) ?_) ?_
  rotate_left 1
  · intro W hW; (try dsimp only at hW); obtain ⟨os', q', hW'⟩ := hW; subst hW'; go_simp; all_goals with_reducible rfl
  try simp only [Act.put, zA, zB, zC]
  refine sTake (i := 3) (v := undef) rfl (by kernel_rfl) (fun _ _ _ h => h) (Or.inr ⟨by rfl, rfl⟩) ?_
  try simp only [Act.put, zA, zB, zC]
  refine sTake (i := 4) (v := undef) rfl (by kernel_rfl) (fun _ _ _ h => h) (Or.inr ⟨by rfl, rfl⟩) ?_
  try simp only [Act.put, zA, zB, zC]
  refine sTake (i := 5) (v := undef) rfl (by kernel_rfl) (fun _ _ _ h => h) (Or.inr ⟨by rfl, rfl⟩) ?_
  try simp only [Act.put, zA, zB, zC]
  refine sTake (i := 6) (v := undef) rfl (by kernel_rfl) (fun _ _ _ h => h) (Or.inr ⟨by rfl, rfl⟩) ?_
  try simp only [Act.put, zA, zB, zC]
  refine sTake (i := 7) (v := undef) rfl (by kernel_rfl) (fun _ _ _ h => h) (Or.inr ⟨by rfl, rfl⟩) ?_
  try simp only [Act.put, zA, zB, zC]
  refine sTake (i := 8) (v := undef) rfl (by kernel_rfl) (fun _ _ _ h => h) (Or.inr ⟨by rfl, rfl⟩) ?_
  try simp only [Act.put, zA, zB, zC]
  refine sTake (i := 9) (v := undef) rfl (by kernel_rfl) (fun _ _ _ h => h) (Or.inr ⟨by rfl, rfl⟩) ?_
  try simp only [Act.put, zA, zB, zC]
  refine sTake (i := 10) (v := undef) rfl (by kernel_rfl) (fun _ _ _ h => h) (Or.inr ⟨by rfl, rfl⟩) ?_
  try simp only [Act.put, zA, zB, zC]
  refine sTake (i := 11) (v := undef) rfl (by kernel_rfl) (fun _ _ _ h => h) (Or.inr ⟨by rfl, rfl⟩) ?_
  try simp only [Act.put, zA, zB, zC]
  refine sTake (i := 12) (v := undef) rfl (by kernel_rfl) (fun _ _ _ h => h) (Or.inr ⟨by rfl, rfl⟩) ?_
  try simp only [Act.put, zA, zB, zC]
  refine sTake (i := 13) (v := ?_) rfl (by kernel_rfl) (fun _ _ _ h => h) (gLoad (by rfl) ?_) ?_
  rotate_left 1
  · intro W hW; (try dsimp only at hW); obtain ⟨os', q', hW'⟩ := hW; subst hW'; go_simp; all_goals with_reducible rfl
  try simp only [Act.put, zA, zB, zC]
  refine sTake (i := 14) (v := ?_) rfl (by kernel_rfl) (fun _ _ _ h => h) (gLoad (by rfl) ?_) ?_
  rotate_left 1
  · intro W hW; (try dsimp only at hW); obtain ⟨os', q', hW'⟩ := hW; subst hW'; go_simp; all_goals with_reducible rfl
  try simp only [Act.put, zA, zB, zC]
  refine sTake (i := 15) (v := undef) rfl (by kernel_rfl) (fun _ _ _ h => h) (Or.inr ⟨by rfl, rfl⟩) ?_
  try simp only [Act.put, zA, zB, zC]
  refine sTake (i := 16) (v := undef) rfl (by kernel_rfl) (fun _ _ _ h => h) (Or.inr ⟨by rfl, rfl⟩) ?_
  try simp only [Act.put, zA, zB, zC]
  refine sTake (i := 17) (v := undef) rfl (by kernel_rfl) (fun _ _ _ h => h) (Or.inr ⟨by rfl, rfl⟩) ?_
  try simp only [Act.put, zA, zB, zC]
  refine sTake (i := 18) (v := undef) rfl (by kernel_rfl) (fun _ _ _ h => h) (Or.inr ⟨by rfl, rfl⟩) ?_
  try simp only [Act.put, zA, zB, zC]
  refine sTake (i := 19) (v := undef) rfl (by kernel_rfl) (fun _ _ _ h => h) (Or.inr ⟨by rfl, rfl⟩) ?_
  try simp only [Act.put, zA, zB, zC]
  refine sTake (i := 20) (v := undef) rfl (by kernel_rfl) (fun _ _ _ h => h) (Or.inr ⟨by rfl, rfl⟩) ?_
  try simp only [Act.put, zA, zB, zC]
  refine sTake (i := 21) (v := undef) rfl (by kernel_rfl) (fun _ _ _ h => h) (Or.inr ⟨by rfl, rfl⟩) ?_
  try simp only [Act.put, zA, zB, zC]
  refine sTake (i := 22) (v := undef) rfl (by kernel_rfl) (fun _ _ _ h => h) (Or.inr ⟨by rfl, rfl⟩) ?_
  try simp only [Act.put, zA, zB, zC]
  refine sTake (i := 23) (v := undef) rfl (by kernel_rfl) (fun _ _ _ h => h) (Or.inr ⟨by rfl, rfl⟩) ?_
  try simp only [Act.put, zA, zB, zC]
  refine sTake (i := 24) (v := undef) rfl (by kernel_rfl) (fun _ _ _ h => h) (Or.inr ⟨by rfl, rfl⟩) ?_
  try simp only [Act.put, zA, zB, zC]
  refine sTake (i := 25) (v := undef) rfl (by kernel_rfl) (fun _ _ _ h => h) (Or.inr ⟨by rfl, rfl⟩) ?_
  try simp only [Act.put, zA, zB, zC]
  refine sTake (i := 26) (v := ?_) rfl (by kernel_rfl) (fun _ _ _ h => h) (gLoad (by rfl) ?_) ?_
  rotate_left 1
  · intro W hW; (try dsimp only at hW); obtain ⟨os', q', hW'⟩ := hW; subst hW'; go_simp; all_goals with_reducible rfl
  try simp only [Act.put, zA, zB, zC]
  refine sDone (by kernel_rfl) ?_
  intro X hX
  obtain ⟨os5, q5, hX⟩ := hX
  clear t0 t1 t2 t3 t4 t5 t6 t7 t8 t9 t10 c5 c17 lx l5 S30
  go_wp2_with fail
  rw [rounds_succ]
  go_wp2_with fail
  go_returns
  obtain ⟨k6, hl5⟩ := p5'.out
  exact ⟨rfl, Kept.tr k6 (kept_grow hX), hl5.kept (kept_grow hX) (by simp)⟩
set_option maxHeartbeats 1000000 in
theorem see105_early {w : World} {z : Ad} {s M L n : Nat} {id e p rel got cnt : Int} {rest : List Value} {tasks mode ring clock idle given : Int} {all : Value} (hJ : JobsAt w z.j s M L n id e p true rel got cnt rest) (hx : XAt w z tasks mode ring clock idle given all) (hla : LagAt w z.la) (he : 1 ≤ e) (hep : e ≤ p) (hp : p ≤ 1024) (hr0 : 0 ≤ rel) (hrc : rel ≤ clock) (hc : clock ≤ 65536) (hg0 : 0 ≤ got) (hg : got ≤ 1024) (hm : ModeIs mode true) (hdue : ¬ rel + p ≤ clock) :
    Calls Tryz.prog 105 #[pt z.x] w fun e' w' => e' = .returned (.int .i64 0) ∧ Kept [z.la] w w' ∧ LagAt w' z.la := by
  have A := All85 hJ
  unfold XAt at hx
  have S := fun W h => See144 (w := W) (la := z.la) e p rel clock got h he hep hp hr0 hrc hc hg0 hg
  have hwr : IntKind.i64.wrap (rel + p) = rel + p := IntWalk.i64_in _ (by omega)
  have d1 : decide (rel + p ≤ clock) = false := by simp; omega
  have c7 : w.cell? ⟨z.x, 7, none⟩ = some (.pointer (some ⟨z.j, 0, none⟩)) := cell_of hx 7
  have lx := heap_lt hx
  have st := Lib.hid (And.intro hx hla)
  clear hx hla hJ he hep hp hr0 hrc hc hg0 hg hdue
  go_enter Tryz.func105, Tryz.ntmps105
  go_wp2_with fail
  refine A.mono ?_
  rintro e' w1 ⟨g, cap, cur, rfl, hg, hg1, hcap, k1⟩
  have t0 : w1.cell? ⟨g, 0, none⟩ = some (.int .i64 id) := cell_of hg1 0
  have t1 : w1.cell? ⟨g, 1, none⟩ = some (.int .i64 e) := cell_of hg1 1
  have t2 : w1.cell? ⟨g, 2, none⟩ = some (.int .i64 p) := cell_of hg1 2
  have t3 : w1.cell? ⟨g, 3, none⟩ = some (.bool false) := cell_of hg1 3
  have t4 : w1.cell? ⟨g, 4, none⟩ = some (.bool false) := cell_of hg1 4
  have t5 : w1.cell? ⟨g, 5, none⟩ = some (.bool false) := cell_of hg1 5
  have t6 : w1.cell? ⟨g, 6, none⟩ = some (.bool true) := cell_of hg1 6
  have t7 : w1.cell? ⟨g, 7, none⟩ = some (.int .i64 rel) := cell_of hg1 7
  have t8 : w1.cell? ⟨g, 8, none⟩ = some (.int .i64 got) := cell_of hg1 8
  have t9 : w1.cell? ⟨g, 9, none⟩ = some (.bool false) := cell_of hg1 9
  have t10 : w1.cell? ⟨g, 10, none⟩ = some (.int .i64 cnt) := cell_of hg1 10
  have lg := heap_lt hg1
  have W83 := fun W => whole83 got W
  clear hg hg1 A c7 lx
  go_wp2_with fail
  refine wp_loop_rounds 2 ?_
  rw [rounds_succ]
  go_wp2_with fail
  refine (W83 _).mono ?_
  rintro e' w2 ⟨rfl, os, q, hw2⟩
  have kA : Kept [] w1 (w1.alloc (.cells #[.int .i64 id, .int .i64 e, .int .i64 p, .bool false, .bool false, .bool false, .bool true, .int .i64 rel, .int .i64 got, .bool false, .int .i64 cnt] 143)) := (Kept.refl _ _).alloc _
  have k2 := Kept.tr (Kept.tr k1 kA) (kept_grow hw2)
  have p5 := (kept_grow hw2).at (x := w1.heap.size) heap_alloc_new (by simp)
  obtain ⟨B5, hB5⟩ : ∃ B, w1.heap.size = B := ⟨_, rfl⟩
  rw [hB5] at p5
  have k3 := k2.alloc (.cells #[.int .i64 got, .int .i64 1] 39)
  have p5' : (w2.alloc (.cells #[.int .i64 got, .int .i64 1] 39)).heap[B5]? = _ := (heap_alloc (heap_lt p5)).trans p5
  have p6 : (w2.alloc (.cells #[.int .i64 got, .int .i64 1] 39)).heap[w2.heap.size]? = some (.cells #[.int .i64 got, .int .i64 1] 39 (0, 0)) := heap_alloc_new
  obtain ⟨B6, hB6⟩ : ∃ B, w2.heap.size = B := ⟨_, rfl⟩
  rw [hB6] at p6
  obtain ⟨V, hV⟩ : ∃ V, w2.alloc (.cells #[.int .i64 got, .int .i64 1] 39) = V := ⟨_, rfl⟩
  rw [hV] at k3 p5' p6
  have hx := k3.at st.out.1 (by simp)
  have O := slots55 (w := V) (z := z) hx hm
  clear hw2 kA k2 p5 k1 t0 t1 t2 t3 t4 t5 t6 t7 t8 t9 t10 lg W83
  replace p5' := Lib.hid (And.intro p5' (And.intro p6 (And.intro k3 hx)))
  clear p6 k3 hx
  go_wp2_with fail
  clear hV hB6 hB5
  refine O.mono ?_
  rintro e' w3 ⟨rfl, rfl⟩
  go_wp2_with fail
  obtain ⟨p5, p6, k3, hx⟩ := p5'.out
  have t0 : V.cell? ⟨B5, 0, none⟩ = some (.int .i64 id) := cell_of p5 0
  have t1 : V.cell? ⟨B5, 1, none⟩ = some (.int .i64 e) := cell_of p5 1
  have t2 : V.cell? ⟨B5, 2, none⟩ = some (.int .i64 p) := cell_of p5 2
  have t3 : V.cell? ⟨B5, 3, none⟩ = some (.bool false) := cell_of p5 3
  have t4 : V.cell? ⟨B5, 4, none⟩ = some (.bool false) := cell_of p5 4
  have t5 : V.cell? ⟨B5, 5, none⟩ = some (.bool false) := cell_of p5 5
  have t6 : V.cell? ⟨B5, 6, none⟩ = some (.bool true) := cell_of p5 6
  have t7 : V.cell? ⟨B5, 7, none⟩ = some (.int .i64 rel) := cell_of p5 7
  have t8 : V.cell? ⟨B5, 8, none⟩ = some (.int .i64 got) := cell_of p5 8
  have t9 : V.cell? ⟨B5, 9, none⟩ = some (.bool false) := cell_of p5 9
  have t10 : V.cell? ⟨B5, 10, none⟩ = some (.int .i64 cnt) := cell_of p5 10
  have c1 : V.cell? ⟨z.x, 5, none⟩ = some (.int .i64 clock) := cell_of hx 5
  have c10 : V.cell? ⟨z.x, 10, none⟩ = some (.pointer (some ⟨z.la, 0, none⟩)) := cell_of hx 10
  have g0 : V.cell? ⟨B6, 0, none⟩ = some (.int .i64 got) := cell_of p6 0
  have g1 : V.cell? ⟨B6, 1, none⟩ = some (.int .i64 1) := cell_of p6 1
  have lx := heap_lt hx
  have l5 := heap_lt p5
  have l6 := heap_lt p6
  clear p5 p6 k3 hx O
  refine wp_region_any (by kernel_rfl) ?_
  rw [List.size_toArray]
  refine wpAnyS_any (S := fun X => ∃ os q, Go.Proofs.YtgfbfklnhmndfaaGreat.grow V os q = X) (k := 15) _ _ _ ?_ _ (gr_drew (gr_refl _))
  refine sTake (i := 0) (v := ?_) rfl (by kernel_rfl) (fun _ _ _ h => h) (gLoad (by rfl) ?_) ?_
  rotate_left 1
  · intro W hW; (try dsimp only at hW); obtain ⟨os', q', hW'⟩ := hW; subst hW'; go_simp; all_goals with_reducible rfl
  try simp only [Act.put, zA, zB, zC]
  refine sTake (i := 1) (v := ?_) rfl (by kernel_rfl) (fun _ _ _ h => h) (gLoad (by rfl) ?_) ?_
  rotate_left 1
  · intro W hW; (try dsimp only at hW); obtain ⟨os', q', hW'⟩ := hW; subst hW'; go_simp; all_goals with_reducible rfl
  try simp only [Act.put, zA, zB, zC]
  refine sTake (i := 2) (v := ?_) rfl (by kernel_rfl) (fun _ _ _ h => h) (gLoad (by rfl) ?_) ?_
  rotate_left 1
  · intro W hW; (try dsimp only at hW); obtain ⟨os', q', hW'⟩ := hW; subst hW'; go_simp; all_goals with_reducible rfl
  try simp only [Act.put, zA, zB, zC]
  refine sTake (i := 3) (v := ?_) rfl (by kernel_rfl) (fun _ _ _ h => h) (gLoad (by rfl) ?_) ?_
  rotate_left 1
  · intro W hW; (try dsimp only at hW); obtain ⟨os', q', hW'⟩ := hW; subst hW'; go_simp; all_goals with_reducible rfl
  try simp only [Act.put, zA, zB, zC]
  refine sTake (i := 4) (v := ?_) rfl (by kernel_rfl) (fun _ _ _ h => h) (gLoad (by rfl) ?_) ?_
  rotate_left 1
  · intro W hW; (try dsimp only at hW); obtain ⟨os', q', hW'⟩ := hW; subst hW'; go_simp; all_goals with_reducible rfl
  try simp only [Act.put, zA, zB, zC]
  refine sTake (i := 5) (v := ?_) rfl (by kernel_rfl) (fun _ _ _ h => h) (gLoad (by rfl) ?_) ?_
  rotate_left 1
  · intro W hW; (try dsimp only at hW); obtain ⟨os', q', hW'⟩ := hW; subst hW'; go_simp; all_goals with_reducible rfl
  try simp only [Act.put, zA, zB, zC]
  refine sTake (i := 6) (v := ?_) rfl (by kernel_rfl) (fun _ _ _ h => h) (gLoad (by rfl) ?_) ?_
  rotate_left 1
  · intro W hW; (try dsimp only at hW); obtain ⟨os', q', hW'⟩ := hW; subst hW'; go_simp; all_goals with_reducible rfl
  try simp only [Act.put, zA, zB, zC]
  refine sTake (i := 7) (v := ?_) rfl (by kernel_rfl) (fun _ _ _ h => h) (gLoad (by rfl) ?_) ?_
  rotate_left 1
  · intro W hW; (try dsimp only at hW); obtain ⟨os', q', hW'⟩ := hW; subst hW'; go_simp; all_goals with_reducible rfl
  try simp only [Act.put, zA, zB, zC]
  refine sTake (i := 8) (v := ?_) rfl (by kernel_rfl) (fun _ _ _ h => h) (gLoad (by rfl) ?_) ?_
  rotate_left 1
  · intro W hW; (try dsimp only at hW); obtain ⟨os', q', hW'⟩ := hW; subst hW'; go_simp; all_goals with_reducible rfl
  try simp only [Act.put, zA, zB, zC]
  refine sTake (i := 9) (v := ?_) rfl (by kernel_rfl) (fun _ _ _ h => h) (gLoad (by rfl) ?_) ?_
  rotate_left 1
  · intro W hW; (try dsimp only at hW); obtain ⟨os', q', hW'⟩ := hW; subst hW'; go_simp; all_goals with_reducible rfl
  try simp only [Act.put, zA, zB, zC]
  refine sTake (i := 10) (v := ?_) rfl (by kernel_rfl) (fun _ _ _ h => h) (gLoad (by rfl) ?_) ?_
  rotate_left 1
  · intro W hW; (try dsimp only at hW); obtain ⟨os', q', hW'⟩ := hW; subst hW'; go_simp; all_goals with_reducible rfl
  try simp only [Act.put, zA, zB, zC]
  refine sTake (i := 11) (v := ?_) rfl (by kernel_rfl) (fun _ _ _ h => h) (gLoad (by rfl) ?_) ?_
  rotate_left 1
  · intro W hW; (try dsimp only at hW); obtain ⟨os', q', hW'⟩ := hW; subst hW'; go_simp; all_goals with_reducible rfl
  try simp only [Act.put, zA, zB, zC]
  refine sTake (i := 12) (v := ?_) rfl (by kernel_rfl) (fun _ _ _ h => h) (gLoad (by rfl) ?_) ?_
  rotate_left 1
  · intro W hW; (try dsimp only at hW); obtain ⟨os', q', hW'⟩ := hW; subst hW'; go_simp; all_goals with_reducible rfl
  try simp only [Act.put, zA, zB, zC]
  refine sTake (i := 13) (v := ?_) rfl (by kernel_rfl) (fun _ _ _ h => h) (gLoad (by rfl) ?_) ?_
  rotate_left 1
  · intro W hW; (try dsimp only at hW); obtain ⟨os', q', hW'⟩ := hW; subst hW'; go_simp; all_goals with_reducible rfl
  try simp only [Act.put, zA, zB, zC]
  refine sTake (i := 14) (v := ?_) rfl (by kernel_rfl) (fun _ _ _ h => h) (gLoad (by rfl) ?_) ?_
  rotate_left 1
  · intro W hW; (try dsimp only at hW); obtain ⟨os', q', hW'⟩ := hW; subst hW'; go_simp; all_goals with_reducible rfl
  try simp only [Act.put, zA, zB, zC]
  refine sRest (by kernel_rfl) ?_
  intro X hX
  obtain ⟨os4, q4, hX⟩ := hX
  obtain ⟨p5, p6, k3, hx⟩ := p5'.out
  have k4 := Kept.tr k3 (kept_grow hX)
  have q5 := (kept_grow hX).at p5 (by simp)
  have hx4 := (kept_grow hX).at hx (by simp)
  have hl4 := LagAt.kept st.out.2 k4 (by simp)
  have S1 := S X hl4
  clear c1 c10 g0 g1 lx l5 l6 t0 t1 t2 t3 t4 t5 t6 t7 t8 t9 t10 p5 p6 k3 hx S
  refine aCall (i := 15) rfl (by kernel_rfl) (by rfl) (by go_simp; first | done | rfl | exact ⟨rfl, rfl⟩) (S1.mono ?_)
  rintro e' Y ⟨rfl, kl, hl5⟩
  refine ⟨_, rfl, ?_⟩
  try simp only [Act.put, zA, zB, zC]
  refine wpAny_done (by kernel_rfl) ?_ _
  have n5 : z.la ≠ B5 := hl4.ne q5 (by decide)
  have nx : z.la ≠ z.x := hl4.ne hx4 (by decide)
  have q6 := kl.at q5 (by simp [Ne.symm n5])
  have hx6 := kl.at hx4 (by simp [Ne.symm nx])
  have k6 := Kept.tr0 k4 kl
  replace p5' := Lib.hid (And.intro k6 hl5)
  have S30 := slices30S (V := Y) (z := z) hx6 hm
  have t0 : Y.cell? ⟨B5, 0, none⟩ = some (.int .i64 id) := cell_of q6 0
  have t1 : Y.cell? ⟨B5, 1, none⟩ = some (.int .i64 e) := cell_of q6 1
  have t2 : Y.cell? ⟨B5, 2, none⟩ = some (.int .i64 p) := cell_of q6 2
  have t3 : Y.cell? ⟨B5, 3, none⟩ = some (.bool false) := cell_of q6 3
  have t4 : Y.cell? ⟨B5, 4, none⟩ = some (.bool false) := cell_of q6 4
  have t5 : Y.cell? ⟨B5, 5, none⟩ = some (.bool false) := cell_of q6 5
  have t6 : Y.cell? ⟨B5, 6, none⟩ = some (.bool true) := cell_of q6 6
  have t7 : Y.cell? ⟨B5, 7, none⟩ = some (.int .i64 rel) := cell_of q6 7
  have t8 : Y.cell? ⟨B5, 8, none⟩ = some (.int .i64 got) := cell_of q6 8
  have t9 : Y.cell? ⟨B5, 9, none⟩ = some (.bool false) := cell_of q6 9
  have t10 : Y.cell? ⟨B5, 10, none⟩ = some (.int .i64 cnt) := cell_of q6 10
  have c5 : Y.cell? ⟨z.x, 5, none⟩ = some (.int .i64 clock) := cell_of hx6 5
  have c17 : Y.cell? ⟨z.x, 17, none⟩ = some (.map (some z.wr)) := cell_of hx6 17
  have lx := heap_lt hx6
  have l5 := heap_lt q6
  clear hX k4 q5 hx4 hl4 S1 kl hl5 n5 nx q6 hx6 k6
  go_wp2_with fail
  refine sBegin (fun X => ∃ os q, Go.Proofs.YtgfbfklnhmndfaaGreat.grow Y os q = X) 27 (by kernel_rfl) (gr_drew (gr_refl _)) ?_
  refine sTake (i := 0) (v := ?_) rfl (by kernel_rfl) (fun _ _ _ h => h) (gLoad (by rfl) ?_) ?_
  rotate_left 1
  · intro W hW; (try dsimp only at hW); obtain ⟨os', q', hW'⟩ := hW; subst hW'; go_simp; all_goals with_reducible rfl
  try simp only [Act.put, zA, zB, zC]
  refine sTake (i := 1) rfl (by kernel_rfl) (fun _ _ _ h => h) (gCall (by rfl) ?_ (fun W hW => S30 W hW)) ?_
  · intro W hW; go_simp; all_goals with_reducible rfl
  try simp only [Act.put, zA, zB, zC]
  refine sTake (i := 2) (v := ?_) rfl (by kernel_rfl) (fun _ _ _ h => h) (gLoad (by rfl) ?_) ?_
  rotate_left 1
  · intro W hW; (try dsimp only at hW); obtain ⟨os', q', hW'⟩ := hW; subst hW'; go_simp; all_goals with_reducible rfl
  try simp only [Act.put, zA, zB, zC]
  refine sTake (i := 3) (v := ?_) rfl (by kernel_rfl) (fun _ _ _ h => h) (gLoad (by rfl) ?_) ?_
  rotate_left 1
  · intro W hW; (try dsimp only at hW); obtain ⟨os', q', hW'⟩ := hW; subst hW'; go_simp; all_goals with_reducible rfl
  try simp only [Act.put, zA, zB, zC]
  refine sTake (i := 4) (v := ?_) rfl (by kernel_rfl) (fun _ _ _ h => h) (gLoad (by rfl) ?_) ?_
  rotate_left 1
  · intro W hW; (try dsimp only at hW); obtain ⟨os', q', hW'⟩ := hW; subst hW'; go_simp; all_goals with_reducible rfl
  try simp only [Act.put, zA, zB, zC]
  refine sTake (i := 5) (v := ?_) rfl (by kernel_rfl) (fun _ _ _ h => h) (gLoad (by rfl) ?_) ?_
  rotate_left 1
  · intro W hW; (try dsimp only at hW); obtain ⟨os', q', hW'⟩ := hW; subst hW'; go_simp; all_goals with_reducible rfl
  try simp only [Act.put, zA, zB, zC]
  refine sTake (i := 6) (v := ?_) rfl (by kernel_rfl) (fun _ _ _ h => h) (gLoad (by rfl) ?_) ?_
  rotate_left 1
  · intro W hW; (try dsimp only at hW); obtain ⟨os', q', hW'⟩ := hW; subst hW'; go_simp; all_goals with_reducible rfl
  try simp only [Act.put, zA, zB, zC]
  refine sTake (i := 7) (v := ?_) rfl (by kernel_rfl) (fun _ _ _ h => h) (gLoad (by rfl) ?_) ?_
  rotate_left 1
  · intro W hW; (try dsimp only at hW); obtain ⟨os', q', hW'⟩ := hW; subst hW'; go_simp; all_goals with_reducible rfl
  try simp only [Act.put, zA, zB, zC]
  refine sTake (i := 8) (v := ?_) rfl (by kernel_rfl) (fun _ _ _ h => h) (gLoad (by rfl) ?_) ?_
  rotate_left 1
  · intro W hW; (try dsimp only at hW); obtain ⟨os', q', hW'⟩ := hW; subst hW'; go_simp; all_goals with_reducible rfl
  try simp only [Act.put, zA, zB, zC]
  refine sTake (i := 9) (v := ?_) rfl (by kernel_rfl) (fun _ _ _ h => h) (gLoad (by rfl) ?_) ?_
  rotate_left 1
  · intro W hW; (try dsimp only at hW); obtain ⟨os', q', hW'⟩ := hW; subst hW'; go_simp; all_goals with_reducible rfl
  try simp only [Act.put, zA, zB, zC]
  refine sTake (i := 10) (v := ?_) rfl (by kernel_rfl) (fun _ _ _ h => h) (gLoad (by rfl) ?_) ?_
  rotate_left 1
  · intro W hW; (try dsimp only at hW); obtain ⟨os', q', hW'⟩ := hW; subst hW'; go_simp; all_goals with_reducible rfl
  try simp only [Act.put, zA, zB, zC]
  refine sTake (i := 11) (v := ?_) rfl (by kernel_rfl) (fun _ _ _ h => h) (gLoad (by rfl) ?_) ?_
  rotate_left 1
  · intro W hW; (try dsimp only at hW); obtain ⟨os', q', hW'⟩ := hW; subst hW'; go_simp; all_goals with_reducible rfl
  try simp only [Act.put, zA, zB, zC]
  refine sTake (i := 12) (v := ?_) rfl (by kernel_rfl) (fun _ _ _ h => h) (gLoad (by rfl) ?_) ?_
  rotate_left 1
  · intro W hW; (try dsimp only at hW); obtain ⟨os', q', hW'⟩ := hW; subst hW'; go_simp; all_goals with_reducible rfl
  try simp only [Act.put, zA, zB, zC]
  refine sTake (i := 13) (v := ?_) rfl (by kernel_rfl) (fun _ _ _ h => h) (gLoad (by rfl) ?_) ?_
  rotate_left 1
  · intro W hW; (try dsimp only at hW); obtain ⟨os', q', hW'⟩ := hW; subst hW'; go_simp; all_goals with_reducible rfl
  try simp only [Act.put, zA, zB, zC]
  refine sTake (i := 14) (v := ?_) rfl (by kernel_rfl) (fun _ _ _ h => h) (gLoad (by rfl) ?_) ?_
  rotate_left 1
  · intro W hW; (try dsimp only at hW); obtain ⟨os', q', hW'⟩ := hW; subst hW'; go_simp; all_goals with_reducible rfl
  try simp only [Act.put, zA, zB, zC]
  refine sTake (i := 15) (v := undef) rfl (by kernel_rfl) (fun _ _ _ h => h) (Or.inr ⟨by rfl, rfl⟩) ?_
  try simp only [Act.put, zA, zB, zC]
  refine sTake (i := 16) (v := undef) rfl (by kernel_rfl) (fun _ _ _ h => h) (Or.inr ⟨by rfl, rfl⟩) ?_
  try simp only [Act.put, zA, zB, zC]
  refine sTake (i := 17) (v := undef) rfl (by kernel_rfl) (fun _ _ _ h => h) (Or.inr ⟨by rfl, rfl⟩) ?_
  try simp only [Act.put, zA, zB, zC]
  refine sTake (i := 18) (v := undef) rfl (by kernel_rfl) (fun _ _ _ h => h) (Or.inr ⟨by rfl, rfl⟩) ?_
  try simp only [Act.put, zA, zB, zC]
  refine sTake (i := 19) (v := undef) rfl (by kernel_rfl) (fun _ _ _ h => h) (Or.inr ⟨by rfl, rfl⟩) ?_
  try simp only [Act.put, zA, zB, zC]
  refine sTake (i := 20) (v := undef) rfl (by kernel_rfl) (fun _ _ _ h => h) (Or.inr ⟨by rfl, rfl⟩) ?_
  try simp only [Act.put, zA, zB, zC]
  refine sTake (i := 21) (v := undef) rfl (by kernel_rfl) (fun _ _ _ h => h) (Or.inr ⟨by rfl, rfl⟩) ?_
  try simp only [Act.put, zA, zB, zC]
  refine sTake (i := 22) (v := undef) rfl (by kernel_rfl) (fun _ _ _ h => h) (Or.inr ⟨by rfl, rfl⟩) ?_
  try simp only [Act.put, zA, zB, zC]
  refine sTake (i := 23) (v := undef) rfl (by kernel_rfl) (fun _ _ _ h => h) (Or.inr ⟨by rfl, rfl⟩) ?_
  try simp only [Act.put, zA, zB, zC]
  refine sTake (i := 24) (v := undef) rfl (by kernel_rfl) (fun _ _ _ h => h) (Or.inr ⟨by rfl, rfl⟩) ?_
  try simp only [Act.put, zA, zB, zC]
  refine sTake (i := 25) (v := undef) rfl (by kernel_rfl) (fun _ _ _ h => h) (Or.inr ⟨by rfl, rfl⟩) ?_
  try simp only [Act.put, zA, zB, zC]
  refine sTake (i := 26) (v := ?_) rfl (by kernel_rfl) (fun _ _ _ h => h) (gLoad (by rfl) ?_) ?_
  rotate_left 1
  · intro W hW; (try dsimp only at hW); obtain ⟨os', q', hW'⟩ := hW; subst hW'; go_simp; all_goals with_reducible rfl
  try simp only [Act.put, zA, zB, zC]
  refine sDone (by kernel_rfl) ?_
  intro X hX
  obtain ⟨os5, q5, hX⟩ := hX
  clear t0 t1 t2 t3 t4 t5 t6 t7 t8 t9 t10 c5 c17 lx l5 S30
  go_wp2_with fail
  rw [rounds_succ]
  go_wp2_with fail
  go_returns
  obtain ⟨k6, hl5⟩ := p5'.out
  exact ⟨rfl, Kept.tr k6 (kept_grow hX), hl5.kept (kept_grow hX) (by simp)⟩
set_option maxHeartbeats 1000000 in
theorem see105_due {w : World} {z : Ad} {s M L n : Nat} {id e p rel got cnt : Int} {rest : List Value} {tasks mode ring clock idle given : Int} {all : Value} (hJ : JobsAt w z.j s M L n id e p true rel got cnt rest) (hx : XAt w z tasks mode ring clock idle given all) (hla : LagAt w z.la) (he : 1 ≤ e) (hep : e ≤ p) (hp : p ≤ 1024) (hr0 : 0 ≤ rel) (hrc : rel ≤ clock) (hc : clock ≤ 65536) (hg0 : 0 ≤ got) (hg : got ≤ 1024) (hm : ModeIs mode true) (hdue : rel + p ≤ clock) (hW : WrapAt w z.wr id e) :
    Calls Tryz.prog 105 #[pt z.x] w fun e' w' => e' = .returned (.int .i64 0) ∧ Kept [z.la] w w' ∧ LagAt w' z.la := by
  have A := All85 hJ
  unfold XAt at hx
  have S := fun W h => See144 (w := W) (la := z.la) e p rel clock got h he hep hp hr0 hrc hc hg0 hg
  have hwr : IntKind.i64.wrap (rel + p) = rel + p := IntWalk.i64_in _ (by omega)
  have d1 : decide (rel + p ≤ clock) = true := by simp; omega
  have c7 : w.cell? ⟨z.x, 7, none⟩ = some (.pointer (some ⟨z.j, 0, none⟩)) := cell_of hx 7
  have lx := heap_lt hx
  have st := Lib.hid (And.intro hx (And.intro hla hW))
  clear hx hla hJ he hep hp hr0 hrc hc hg0 hg hW hdue
  go_enter Tryz.func105, Tryz.ntmps105
  go_wp2_with fail
  refine A.mono ?_
  rintro e' w1 ⟨g, cap, cur, rfl, hg, hg1, hcap, k1⟩
  have t0 : w1.cell? ⟨g, 0, none⟩ = some (.int .i64 id) := cell_of hg1 0
  have t1 : w1.cell? ⟨g, 1, none⟩ = some (.int .i64 e) := cell_of hg1 1
  have t2 : w1.cell? ⟨g, 2, none⟩ = some (.int .i64 p) := cell_of hg1 2
  have t3 : w1.cell? ⟨g, 3, none⟩ = some (.bool false) := cell_of hg1 3
  have t4 : w1.cell? ⟨g, 4, none⟩ = some (.bool false) := cell_of hg1 4
  have t5 : w1.cell? ⟨g, 5, none⟩ = some (.bool false) := cell_of hg1 5
  have t6 : w1.cell? ⟨g, 6, none⟩ = some (.bool true) := cell_of hg1 6
  have t7 : w1.cell? ⟨g, 7, none⟩ = some (.int .i64 rel) := cell_of hg1 7
  have t8 : w1.cell? ⟨g, 8, none⟩ = some (.int .i64 got) := cell_of hg1 8
  have t9 : w1.cell? ⟨g, 9, none⟩ = some (.bool false) := cell_of hg1 9
  have t10 : w1.cell? ⟨g, 10, none⟩ = some (.int .i64 cnt) := cell_of hg1 10
  have lg := heap_lt hg1
  have W83 := fun W => whole83 got W
  clear hg hg1 A c7 lx
  go_wp2_with fail
  refine wp_loop_rounds 2 ?_
  rw [rounds_succ]
  go_wp2_with fail
  refine (W83 _).mono ?_
  rintro e' w2 ⟨rfl, os, q, hw2⟩
  have kA : Kept [] w1 (w1.alloc (.cells #[.int .i64 id, .int .i64 e, .int .i64 p, .bool false, .bool false, .bool false, .bool true, .int .i64 rel, .int .i64 got, .bool false, .int .i64 cnt] 143)) := (Kept.refl _ _).alloc _
  have k2 := Kept.tr (Kept.tr k1 kA) (kept_grow hw2)
  have p5 := (kept_grow hw2).at (x := w1.heap.size) heap_alloc_new (by simp)
  obtain ⟨B5, hB5⟩ : ∃ B, w1.heap.size = B := ⟨_, rfl⟩
  rw [hB5] at p5
  have k3 := k2.alloc (.cells #[.int .i64 got, .int .i64 1] 39)
  have p5' : (w2.alloc (.cells #[.int .i64 got, .int .i64 1] 39)).heap[B5]? = _ := (heap_alloc (heap_lt p5)).trans p5
  have p6 : (w2.alloc (.cells #[.int .i64 got, .int .i64 1] 39)).heap[w2.heap.size]? = some (.cells #[.int .i64 got, .int .i64 1] 39 (0, 0)) := heap_alloc_new
  obtain ⟨B6, hB6⟩ : ∃ B, w2.heap.size = B := ⟨_, rfl⟩
  rw [hB6] at p6
  obtain ⟨V, hV⟩ : ∃ V, w2.alloc (.cells #[.int .i64 got, .int .i64 1] 39) = V := ⟨_, rfl⟩
  rw [hV] at k3 p5' p6
  have hx := k3.at st.out.1 (by simp)
  have O := slots55 (w := V) (z := z) hx hm
  clear hw2 kA k2 p5 k1 t0 t1 t2 t3 t4 t5 t6 t7 t8 t9 t10 lg W83
  replace p5' := Lib.hid (And.intro p5' (And.intro p6 (And.intro k3 hx)))
  clear p6 k3 hx
  go_wp2_with fail
  clear hV hB6 hB5
  refine O.mono ?_
  rintro e' w3 ⟨rfl, rfl⟩
  go_wp2_with fail
  obtain ⟨p5, p6, k3, hx⟩ := p5'.out
  have t0 : V.cell? ⟨B5, 0, none⟩ = some (.int .i64 id) := cell_of p5 0
  have t1 : V.cell? ⟨B5, 1, none⟩ = some (.int .i64 e) := cell_of p5 1
  have t2 : V.cell? ⟨B5, 2, none⟩ = some (.int .i64 p) := cell_of p5 2
  have t3 : V.cell? ⟨B5, 3, none⟩ = some (.bool false) := cell_of p5 3
  have t4 : V.cell? ⟨B5, 4, none⟩ = some (.bool false) := cell_of p5 4
  have t5 : V.cell? ⟨B5, 5, none⟩ = some (.bool false) := cell_of p5 5
  have t6 : V.cell? ⟨B5, 6, none⟩ = some (.bool true) := cell_of p5 6
  have t7 : V.cell? ⟨B5, 7, none⟩ = some (.int .i64 rel) := cell_of p5 7
  have t8 : V.cell? ⟨B5, 8, none⟩ = some (.int .i64 got) := cell_of p5 8
  have t9 : V.cell? ⟨B5, 9, none⟩ = some (.bool false) := cell_of p5 9
  have t10 : V.cell? ⟨B5, 10, none⟩ = some (.int .i64 cnt) := cell_of p5 10
  have c1 : V.cell? ⟨z.x, 5, none⟩ = some (.int .i64 clock) := cell_of hx 5
  have c10 : V.cell? ⟨z.x, 10, none⟩ = some (.pointer (some ⟨z.la, 0, none⟩)) := cell_of hx 10
  have g0 : V.cell? ⟨B6, 0, none⟩ = some (.int .i64 got) := cell_of p6 0
  have g1 : V.cell? ⟨B6, 1, none⟩ = some (.int .i64 1) := cell_of p6 1
  have lx := heap_lt hx
  have l5 := heap_lt p5
  have l6 := heap_lt p6
  clear p5 p6 k3 hx O
  refine wp_region_any (by kernel_rfl) ?_
  rw [List.size_toArray]
  refine wpAnyS_any (S := fun X => ∃ os q, Go.Proofs.YtgfbfklnhmndfaaGreat.grow V os q = X) (k := 15) _ _ _ ?_ _ (gr_drew (gr_refl _))
  refine sTake (i := 0) (v := ?_) rfl (by kernel_rfl) (fun _ _ _ h => h) (gLoad (by rfl) ?_) ?_
  rotate_left 1
  · intro W hW; (try dsimp only at hW); obtain ⟨os', q', hW'⟩ := hW; subst hW'; go_simp; all_goals with_reducible rfl
  try simp only [Act.put, zA, zB, zC]
  refine sTake (i := 1) (v := ?_) rfl (by kernel_rfl) (fun _ _ _ h => h) (gLoad (by rfl) ?_) ?_
  rotate_left 1
  · intro W hW; (try dsimp only at hW); obtain ⟨os', q', hW'⟩ := hW; subst hW'; go_simp; all_goals with_reducible rfl
  try simp only [Act.put, zA, zB, zC]
  refine sTake (i := 2) (v := ?_) rfl (by kernel_rfl) (fun _ _ _ h => h) (gLoad (by rfl) ?_) ?_
  rotate_left 1
  · intro W hW; (try dsimp only at hW); obtain ⟨os', q', hW'⟩ := hW; subst hW'; go_simp; all_goals with_reducible rfl
  try simp only [Act.put, zA, zB, zC]
  refine sTake (i := 3) (v := ?_) rfl (by kernel_rfl) (fun _ _ _ h => h) (gLoad (by rfl) ?_) ?_
  rotate_left 1
  · intro W hW; (try dsimp only at hW); obtain ⟨os', q', hW'⟩ := hW; subst hW'; go_simp; all_goals with_reducible rfl
  try simp only [Act.put, zA, zB, zC]
  refine sTake (i := 4) (v := ?_) rfl (by kernel_rfl) (fun _ _ _ h => h) (gLoad (by rfl) ?_) ?_
  rotate_left 1
  · intro W hW; (try dsimp only at hW); obtain ⟨os', q', hW'⟩ := hW; subst hW'; go_simp; all_goals with_reducible rfl
  try simp only [Act.put, zA, zB, zC]
  refine sTake (i := 5) (v := ?_) rfl (by kernel_rfl) (fun _ _ _ h => h) (gLoad (by rfl) ?_) ?_
  rotate_left 1
  · intro W hW; (try dsimp only at hW); obtain ⟨os', q', hW'⟩ := hW; subst hW'; go_simp; all_goals with_reducible rfl
  try simp only [Act.put, zA, zB, zC]
  refine sTake (i := 6) (v := ?_) rfl (by kernel_rfl) (fun _ _ _ h => h) (gLoad (by rfl) ?_) ?_
  rotate_left 1
  · intro W hW; (try dsimp only at hW); obtain ⟨os', q', hW'⟩ := hW; subst hW'; go_simp; all_goals with_reducible rfl
  try simp only [Act.put, zA, zB, zC]
  refine sTake (i := 7) (v := ?_) rfl (by kernel_rfl) (fun _ _ _ h => h) (gLoad (by rfl) ?_) ?_
  rotate_left 1
  · intro W hW; (try dsimp only at hW); obtain ⟨os', q', hW'⟩ := hW; subst hW'; go_simp; all_goals with_reducible rfl
  try simp only [Act.put, zA, zB, zC]
  refine sTake (i := 8) (v := ?_) rfl (by kernel_rfl) (fun _ _ _ h => h) (gLoad (by rfl) ?_) ?_
  rotate_left 1
  · intro W hW; (try dsimp only at hW); obtain ⟨os', q', hW'⟩ := hW; subst hW'; go_simp; all_goals with_reducible rfl
  try simp only [Act.put, zA, zB, zC]
  refine sTake (i := 9) (v := ?_) rfl (by kernel_rfl) (fun _ _ _ h => h) (gLoad (by rfl) ?_) ?_
  rotate_left 1
  · intro W hW; (try dsimp only at hW); obtain ⟨os', q', hW'⟩ := hW; subst hW'; go_simp; all_goals with_reducible rfl
  try simp only [Act.put, zA, zB, zC]
  refine sTake (i := 10) (v := ?_) rfl (by kernel_rfl) (fun _ _ _ h => h) (gLoad (by rfl) ?_) ?_
  rotate_left 1
  · intro W hW; (try dsimp only at hW); obtain ⟨os', q', hW'⟩ := hW; subst hW'; go_simp; all_goals with_reducible rfl
  try simp only [Act.put, zA, zB, zC]
  refine sTake (i := 11) (v := ?_) rfl (by kernel_rfl) (fun _ _ _ h => h) (gLoad (by rfl) ?_) ?_
  rotate_left 1
  · intro W hW; (try dsimp only at hW); obtain ⟨os', q', hW'⟩ := hW; subst hW'; go_simp; all_goals with_reducible rfl
  try simp only [Act.put, zA, zB, zC]
  refine sTake (i := 12) (v := ?_) rfl (by kernel_rfl) (fun _ _ _ h => h) (gLoad (by rfl) ?_) ?_
  rotate_left 1
  · intro W hW; (try dsimp only at hW); obtain ⟨os', q', hW'⟩ := hW; subst hW'; go_simp; all_goals with_reducible rfl
  try simp only [Act.put, zA, zB, zC]
  refine sTake (i := 13) (v := ?_) rfl (by kernel_rfl) (fun _ _ _ h => h) (gLoad (by rfl) ?_) ?_
  rotate_left 1
  · intro W hW; (try dsimp only at hW); obtain ⟨os', q', hW'⟩ := hW; subst hW'; go_simp; all_goals with_reducible rfl
  try simp only [Act.put, zA, zB, zC]
  refine sTake (i := 14) (v := ?_) rfl (by kernel_rfl) (fun _ _ _ h => h) (gLoad (by rfl) ?_) ?_
  rotate_left 1
  · intro W hW; (try dsimp only at hW); obtain ⟨os', q', hW'⟩ := hW; subst hW'; go_simp; all_goals with_reducible rfl
  try simp only [Act.put, zA, zB, zC]
  refine sRest (by kernel_rfl) ?_
  intro X hX
  obtain ⟨os4, q4, hX⟩ := hX
  obtain ⟨p5, p6, k3, hx⟩ := p5'.out
  have k4 := Kept.tr k3 (kept_grow hX)
  have q5 := (kept_grow hX).at p5 (by simp)
  have hx4 := (kept_grow hX).at hx (by simp)
  have hl4 := LagAt.kept st.out.2.1 k4 (by simp)
  have S1 := S X hl4
  clear c1 c10 g0 g1 lx l5 l6 t0 t1 t2 t3 t4 t5 t6 t7 t8 t9 t10 p5 p6 k3 hx S
  refine aCall (i := 15) rfl (by kernel_rfl) (by rfl) (by go_simp; first | done | rfl | exact ⟨rfl, rfl⟩) (S1.mono ?_)
  rintro e' Y ⟨rfl, kl, hl5⟩
  refine ⟨_, rfl, ?_⟩
  try simp only [Act.put, zA, zB, zC]
  refine wpAny_done (by kernel_rfl) ?_ _
  have n5 : z.la ≠ B5 := hl4.ne q5 (by decide)
  have nx : z.la ≠ z.x := hl4.ne hx4 (by decide)
  have q6 := kl.at q5 (by simp [Ne.symm n5])
  have hx6 := kl.at hx4 (by simp [Ne.symm nx])
  have k6 := Kept.tr0 k4 kl
  replace p5' := Lib.hid (And.intro k6 hl5)
  have S30 := slices30S (V := Y) (z := z) hx6 hm
  have t0 : Y.cell? ⟨B5, 0, none⟩ = some (.int .i64 id) := cell_of q6 0
  have t1 : Y.cell? ⟨B5, 1, none⟩ = some (.int .i64 e) := cell_of q6 1
  have t2 : Y.cell? ⟨B5, 2, none⟩ = some (.int .i64 p) := cell_of q6 2
  have t3 : Y.cell? ⟨B5, 3, none⟩ = some (.bool false) := cell_of q6 3
  have t4 : Y.cell? ⟨B5, 4, none⟩ = some (.bool false) := cell_of q6 4
  have t5 : Y.cell? ⟨B5, 5, none⟩ = some (.bool false) := cell_of q6 5
  have t6 : Y.cell? ⟨B5, 6, none⟩ = some (.bool true) := cell_of q6 6
  have t7 : Y.cell? ⟨B5, 7, none⟩ = some (.int .i64 rel) := cell_of q6 7
  have t8 : Y.cell? ⟨B5, 8, none⟩ = some (.int .i64 got) := cell_of q6 8
  have t9 : Y.cell? ⟨B5, 9, none⟩ = some (.bool false) := cell_of q6 9
  have t10 : Y.cell? ⟨B5, 10, none⟩ = some (.int .i64 cnt) := cell_of q6 10
  have c5 : Y.cell? ⟨z.x, 5, none⟩ = some (.int .i64 clock) := cell_of hx6 5
  have c17 : Y.cell? ⟨z.x, 17, none⟩ = some (.map (some z.wr)) := cell_of hx6 17
  have lx := heap_lt hx6
  have l5 := heap_lt q6
  have nw : z.wr ≠ z.la := by
    obtain ⟨b, c, hw⟩ := (st.out.2.2.kept k4 (by simp))
    obtain ⟨y, _, hy⟩ := hl4
    exact heap_ne hw hy (by simp)
  have LW := fun (X : World) (hX : ∃ os q, Go.Proofs.YtgfbfklnhmndfaaGreat.grow Y os q = X) => WrapAt.look (((st.out.2.2.kept k4 (by simp)).kept kl (by simp [nw])).kept (kept_grow hX.choose_spec.choose_spec) (by simp))
  clear hX k4 q5 hx4 hl4 S1 kl hl5 n5 nx q6 hx6 k6
  go_wp2_with fail
  refine sBegin (fun X => ∃ os q, Go.Proofs.YtgfbfklnhmndfaaGreat.grow Y os q = X) 27 (by kernel_rfl) (gr_drew (gr_refl _)) ?_
  refine sTake (i := 0) (v := ?_) rfl (by kernel_rfl) (fun _ _ _ h => h) (gLoad (by rfl) ?_) ?_
  rotate_left 1
  · intro W hW; (try dsimp only at hW); obtain ⟨os', q', hW'⟩ := hW; subst hW'; go_simp; all_goals with_reducible rfl
  try simp only [Act.put, zA, zB, zC]
  refine sTake (i := 1) rfl (by kernel_rfl) (fun _ _ _ h => h) (gCall (by rfl) ?_ (fun W hW => S30 W hW)) ?_
  · intro W hW; go_simp; all_goals with_reducible rfl
  try simp only [Act.put, zA, zB, zC]
  refine sTake (i := 2) (v := ?_) rfl (by kernel_rfl) (fun _ _ _ h => h) (gLoad (by rfl) ?_) ?_
  rotate_left 1
  · intro W hW; (try dsimp only at hW); obtain ⟨os', q', hW'⟩ := hW; subst hW'; go_simp; all_goals with_reducible rfl
  try simp only [Act.put, zA, zB, zC]
  refine sTake (i := 3) (v := ?_) rfl (by kernel_rfl) (fun _ _ _ h => h) (gLoad (by rfl) ?_) ?_
  rotate_left 1
  · intro W hW; (try dsimp only at hW); obtain ⟨os', q', hW'⟩ := hW; subst hW'; go_simp; all_goals with_reducible rfl
  try simp only [Act.put, zA, zB, zC]
  refine sTake (i := 4) (v := ?_) rfl (by kernel_rfl) (fun _ _ _ h => h) (gLoad (by rfl) ?_) ?_
  rotate_left 1
  · intro W hW; (try dsimp only at hW); obtain ⟨os', q', hW'⟩ := hW; subst hW'; go_simp; all_goals with_reducible rfl
  try simp only [Act.put, zA, zB, zC]
  refine sTake (i := 5) (v := ?_) rfl (by kernel_rfl) (fun _ _ _ h => h) (gLoad (by rfl) ?_) ?_
  rotate_left 1
  · intro W hW; (try dsimp only at hW); obtain ⟨os', q', hW'⟩ := hW; subst hW'; go_simp; all_goals with_reducible rfl
  try simp only [Act.put, zA, zB, zC]
  refine sTake (i := 6) (v := ?_) rfl (by kernel_rfl) (fun _ _ _ h => h) (gLoad (by rfl) ?_) ?_
  rotate_left 1
  · intro W hW; (try dsimp only at hW); obtain ⟨os', q', hW'⟩ := hW; subst hW'; go_simp; all_goals with_reducible rfl
  try simp only [Act.put, zA, zB, zC]
  refine sTake (i := 7) (v := ?_) rfl (by kernel_rfl) (fun _ _ _ h => h) (gLoad (by rfl) ?_) ?_
  rotate_left 1
  · intro W hW; (try dsimp only at hW); obtain ⟨os', q', hW'⟩ := hW; subst hW'; go_simp; all_goals with_reducible rfl
  try simp only [Act.put, zA, zB, zC]
  refine sTake (i := 8) (v := ?_) rfl (by kernel_rfl) (fun _ _ _ h => h) (gLoad (by rfl) ?_) ?_
  rotate_left 1
  · intro W hW; (try dsimp only at hW); obtain ⟨os', q', hW'⟩ := hW; subst hW'; go_simp; all_goals with_reducible rfl
  try simp only [Act.put, zA, zB, zC]
  refine sTake (i := 9) (v := ?_) rfl (by kernel_rfl) (fun _ _ _ h => h) (gLoad (by rfl) ?_) ?_
  rotate_left 1
  · intro W hW; (try dsimp only at hW); obtain ⟨os', q', hW'⟩ := hW; subst hW'; go_simp; all_goals with_reducible rfl
  try simp only [Act.put, zA, zB, zC]
  refine sTake (i := 10) (v := ?_) rfl (by kernel_rfl) (fun _ _ _ h => h) (gLoad (by rfl) ?_) ?_
  rotate_left 1
  · intro W hW; (try dsimp only at hW); obtain ⟨os', q', hW'⟩ := hW; subst hW'; go_simp; all_goals with_reducible rfl
  try simp only [Act.put, zA, zB, zC]
  refine sTake (i := 11) (v := ?_) rfl (by kernel_rfl) (fun _ _ _ h => h) (gLoad (by rfl) ?_) ?_
  rotate_left 1
  · intro W hW; (try dsimp only at hW); obtain ⟨os', q', hW'⟩ := hW; subst hW'; go_simp; all_goals with_reducible rfl
  try simp only [Act.put, zA, zB, zC]
  refine sTake (i := 12) (v := ?_) rfl (by kernel_rfl) (fun _ _ _ h => h) (gLoad (by rfl) ?_) ?_
  rotate_left 1
  · intro W hW; (try dsimp only at hW); obtain ⟨os', q', hW'⟩ := hW; subst hW'; go_simp; all_goals with_reducible rfl
  try simp only [Act.put, zA, zB, zC]
  refine sTake (i := 13) (v := ?_) rfl (by kernel_rfl) (fun _ _ _ h => h) (gLoad (by rfl) ?_) ?_
  rotate_left 1
  · intro W hW; (try dsimp only at hW); obtain ⟨os', q', hW'⟩ := hW; subst hW'; go_simp; all_goals with_reducible rfl
  try simp only [Act.put, zA, zB, zC]
  refine sTake (i := 14) (v := ?_) rfl (by kernel_rfl) (fun _ _ _ h => h) (gLoad (by rfl) ?_) ?_
  rotate_left 1
  · intro W hW; (try dsimp only at hW); obtain ⟨os', q', hW'⟩ := hW; subst hW'; go_simp; all_goals with_reducible rfl
  try simp only [Act.put, zA, zB, zC]
  refine sTake (i := 15) (v := ?_) rfl (by kernel_rfl) (fun _ _ _ h => h) (gLoad (by rfl) ?_) ?_
  rotate_left 1
  · intro W hW; (try dsimp only at hW); obtain ⟨os', q', hW'⟩ := hW; subst hW'; go_simp; all_goals with_reducible rfl
  try simp only [Act.put, zA, zB, zC]
  refine sTake (i := 16) (v := ?_) rfl (by kernel_rfl) (fun _ _ _ h => h) (gLoad (by rfl) ?_) ?_
  rotate_left 1
  · intro W hW; (try dsimp only at hW); obtain ⟨os', q', hW'⟩ := hW; subst hW'; go_simp; all_goals with_reducible rfl
  try simp only [Act.put, zA, zB, zC]
  refine sTake (i := 17) (v := ?_) rfl (by kernel_rfl) (fun _ _ _ h => h) (gLoad (by rfl) ?_) ?_
  rotate_left 1
  · intro W hW; (try dsimp only at hW); obtain ⟨os', q', hW'⟩ := hW; subst hW'; go_simp; all_goals with_reducible rfl
  try simp only [Act.put, zA, zB, zC]
  refine sTake (i := 18) (v := ?_) rfl (by kernel_rfl) (fun _ _ _ h => h) (gLoad (by rfl) ?_) ?_
  rotate_left 1
  · intro W hW; (try dsimp only at hW); obtain ⟨os', q', hW'⟩ := hW; subst hW'; go_simp; all_goals with_reducible rfl
  try simp only [Act.put, zA, zB, zC]
  refine sTake (i := 19) (v := ?_) rfl (by kernel_rfl) (fun _ _ _ h => h) (gLoad (by rfl) ?_) ?_
  rotate_left 1
  · intro W hW; (try dsimp only at hW); obtain ⟨os', q', hW'⟩ := hW; subst hW'; go_simp; all_goals with_reducible rfl
  try simp only [Act.put, zA, zB, zC]
  refine sTake (i := 20) (v := ?_) rfl (by kernel_rfl) (fun _ _ _ h => h) (gLoad (by rfl) ?_) ?_
  rotate_left 1
  · intro W hW; (try dsimp only at hW); obtain ⟨os', q', hW'⟩ := hW; subst hW'; go_simp; all_goals with_reducible rfl
  try simp only [Act.put, zA, zB, zC]
  refine sTake (i := 21) rfl (by kernel_rfl) (fun _ _ _ h => h) (gLoad (by rfl) (fun W hW => by have LX := LW W hW; go_simp; first | done | rfl)) ?_
  try simp only [Act.put, zA, zB, zC]
  refine sTake (i := 22) (v := ?_) rfl (by kernel_rfl) (fun _ _ _ h => h) (gLoad (by rfl) ?_) ?_
  rotate_left 1
  · intro W hW; (try dsimp only at hW); obtain ⟨os', q', hW'⟩ := hW; subst hW'; go_simp; all_goals with_reducible rfl
  try simp only [Act.put, zA, zB, zC]
  refine sTake (i := 23) (v := ?_) rfl (by kernel_rfl) (fun _ _ _ h => h) (gLoad (by rfl) ?_) ?_
  rotate_left 1
  · intro W hW; (try dsimp only at hW); obtain ⟨os', q', hW'⟩ := hW; subst hW'; go_simp; all_goals with_reducible rfl
  try simp only [Act.put, zA, zB, zC]
  refine sTake (i := 24) rfl (by kernel_rfl) (fun _ _ _ h => h) (gCall (by rfl) ?_ (fun W hW => (wholeS e) W hW)) ?_
  · intro W hW; go_simp; all_goals with_reducible rfl
  try simp only [Act.put, zA, zB, zC]
  refine sTake (i := 25) (v := ?_) rfl (by kernel_rfl) (fun _ _ _ h => h) (gLoad (by rfl) ?_) ?_
  rotate_left 1
  · intro W hW; (try dsimp only at hW); obtain ⟨os', q', hW'⟩ := hW; subst hW'; go_simp; all_goals with_reducible rfl
  try simp only [Act.put, zA, zB, zC]
  refine sTake (i := 26) (v := ?_) rfl (by kernel_rfl) (fun _ _ _ h => h) (gLoad (by rfl) ?_) ?_
  rotate_left 1
  · intro W hW; (try dsimp only at hW); obtain ⟨os', q', hW'⟩ := hW; subst hW'; go_simp; all_goals with_reducible rfl
  try simp only [Act.put, zA, zB, zC]
  refine sDone (by kernel_rfl) ?_
  intro X hX
  obtain ⟨os5, q5, hX⟩ := hX
  clear t0 t1 t2 t3 t4 t5 t6 t7 t8 t9 t10 c5 c17 lx l5 S30
  go_wp2_with fail
  rw [rounds_succ]
  go_wp2_with fail
  go_returns
  obtain ⟨k6, hl5⟩ := p5'.out
  exact ⟨rfl, Kept.tr k6 (kept_grow hX), hl5.kept (kept_grow hX) (by simp)⟩
end
end Go.Proofs.YtgfbfklnhmndfaaGreat
