/- The parts of the top that the law of early release walks through: part 30 of 52. -/
import Derived.Test.YtgfbfklnhmndfaaGreatA1
import Derived.Test.YtgfbfklnhmndfaaGreatA2
import Derived.Test.YtgfbfklnhmndfaaGreatA3
import Derived.Test.YtgfbfklnhmndfaaGreatA4
import Derived.Test.YtgfbfklnhmndfaaGreatA6
import Derived.Test.YtgfbfklnhmndfaaGreatA8
import Derived.Test.YtgfbfklnhmndfaaGreatA9
import Derived.Test.YtgfbfklnhmndfaaGreatA12
import Derived.Test.YtgfbfklnhmndfaaGreatA13
import Derived.Test.YtgfbfklnhmndfaaGreatA15
import Derived.Test.YtgfbfklnhmndfaaGreatA16
import Derived.Test.YtgfbfklnhmndfaaGreatA20
import Derived.Test.YtgfbfklnhmndfaaGreatA21
import Derived.Test.YtgfbfklnhmndfaaGreatA24
import Derived.Test.YtgfbfklnhmndfaaGreatA25
import Derived.Test.YtgfbfklnhmndfaaGreatA27
import Derived.Test.YtgfbfklnhmndfaaGreatA29
namespace Go.Proofs.YtgfbfklnhmndfaaGreat
open Go.RowKit
set_option linter.unusedSimpArgs false
set_option linter.unusedVariables false
section
attribute [local go_sem ↓] setCell_drewN alloc_drewN grow_cell grow_frozen setCell_grow grow_size cell_alloc_grow frozen_alloc_grow setCell_alloc_grow cell_grow_alloc_grow frozen_grow_alloc_grow setCell_grow_alloc_grow grow_grow
attribute [local go_sem] lt_len size_setCell
/-- Where the executive's parts lie. -/
structure Ad where
  x : Nat
  l : Nat
  j : Nat
  q : Nat
  s : Nat
  la : Nat
  bk : Nat
  rg : Nat
  m : Nat
  wr : Nat
  ls : Nat
abbrev pt (b : Nat) : Value := .pointer (some ⟨b, 0, none⟩)
/-- The executive's cells. -/
abbrev exC (a : Ad) (tasks mode ring clock idle given : Int) (all : Value) : Array Value :=
  #[.int .i64 1, .int .i64 tasks, .int .i64 mode, .int .i64 ring, .int .i64 0, .int .i64 clock, pt a.l, pt a.j, pt a.q, pt a.s, pt a.la, pt a.bk, pt a.rg, pt a.m, .int .i64 idle, .int .i64 1, .int .i64 given, .map (some a.wr), .map (some a.ls), all]
def XAt (w : World) (a : Ad) (tasks mode ring clock idle given : Int) (all : Value) : Prop := w.heap[a.x]? = some (.cells (exC a tasks mode ring clock idle given all) 80 (0, 0))
def LastE (v : Value) : Prop := ∃ tn td : Int, ∃ job there : Bool, v = .agg #[.int .i64 0, .int .i64 tn, .int .i64 td, .bool job, .bool there] ∧ (job = true → td = 1 ∧ 0 ≤ tn ∧ tn < 536870912 ∧ there = true)
def LastAt (w : World) (K : Nat) (id : Int) : Prop := ∃ es c, w.heap[K]? = some (.map es c) ∧ (es = #[] ∨ ∃ b v, es = #[{ key := .int .i64 id, val := v, born := b }] ∧ LastE v)
theorem LastAt.kept {S : List Nat} {w W : World} {K : Nat} {id : Int} (h : LastAt w K id) (hk : Kept S w W) (hn : K ∉ S) : LastAt W K id := by
  obtain ⟨es, c, h1, h2⟩ := h
  exact ⟨es, c, hk.at h1 hn, h2⟩
theorem LastAt.lt {w : World} {K : Nat} {id : Int} (h : LastAt w K id) : K < w.heap.size := by
  obtain ⟨es, c, h1, _⟩ := h
  exact heap_lt h1
theorem LastAt.ne {w : World} {K b : Nat} {id : Int} (h : LastAt w K id) {c : Array Value} {T : TypeId} {f : Nat × Nat} (hb : w.heap[b]? = some (.cells c T f)) : K ≠ b := by
  obtain ⟨es, cc, h1, _⟩ := h
  exact heap_ne h1 hb (by simp)
theorem look_last {w : World} {K : Nat} {id : Int} (h : LastAt w K id) : ∃ v, LastE v ∧ ∀ W : World, W.heap[K]? = w.heap[K]? → (Instr.lookup 77 (.map (some K)) (.int .i64 id) false).run Tryz.prog W = .ok v W := by
  obtain ⟨es, c, h1, rfl | ⟨b, v, rfl, hv⟩⟩ := h
  · refine ⟨.agg #[.int .i64 0, .int .i64 0, .int .i64 0, .bool false, .bool false], ⟨0, 0, false, false, rfl, by simp⟩, fun W hW => ?_⟩
    have := look_none Tryz.underlying77 Tryz.underlying3 (z := .agg #[.int .i64 0, .int .i64 0, .int .i64 0, .bool false, .bool false]) (w := W) (by kernel_rfl) (hW.trans h1) id false
    simpa using this
  · refine ⟨v, hv, fun W hW => ?_⟩
    have := look_one Tryz.underlying77 Tryz.underlying3 (w := W) (hW.trans h1) false
    simpa using this
theorem put_last {w : World} {K : Nat} {id : Int} (h : LastAt w K id) (v : Value) : ∃ b c, ∀ W : World, W.heap[K]? = w.heap[K]? → (Instr.mapUpdate 77 (.map (some K)) (.int .i64 id) v).run Tryz.prog W = .ok () (Go.ChangeMaps.setBlock W K (.map #[{ key := .int .i64 id, val := v, born := b }] c)) := by
  obtain ⟨es, c, h1, rfl | ⟨b, u, rfl, hv⟩⟩ := h
  · exact ⟨_, _, fun W hW => put_none Tryz.underlying77 Tryz.underlying3 (hW.trans h1) id v⟩
  · exact ⟨_, _, fun W hW => put_one Tryz.underlying77 Tryz.underlying3 (hW.trans h1) v⟩
/-- Counters; the fifth counts jobs. -/
def MeterAt (w : World) (m : Nat) (jobs : Int) : Prop := ∃ a b c d : Int, w.heap[m]? = some (.cells #[.int .i64 a, .int .i64 b, .int .i64 c, .int .i64 d, .int .i64 jobs] 119 (0, 0))
theorem MeterAt.kept {S : List Nat} {w W : World} {m : Nat} {n : Int} (h : MeterAt w m n) (hk : Kept S w W) (hn : m ∉ S) : MeterAt W m n := by
  obtain ⟨a, b, c, d, h⟩ := h
  exact ⟨a, b, c, d, hk.at h hn⟩
theorem meter_add {w : World} {m k : Nat} {n jobs : Int} (h : MeterAt w m jobs) (hk : k < 4) : Calls Tryz.prog 62 #[pt m, .int .i64 k, .int .i64 n] w fun e w' => (∃ y, e = .returned (.int .i64 y)) ∧ Kept [m] w w' ∧ MeterAt w' m jobs := by
  obtain ⟨a, b, c, d, h⟩ := h
  rcases (by omega : k = 0 ∨ k = 1 ∨ k = 2 ∨ k = 3) with rfl | rfl | rfl | rfl
  · exact (Add62 m 0 n a _ 119 w (by omega) h rfl).mono fun e w' h => ⟨h.1, h.2.1, _, _, _, _, h.2.2⟩
  · exact (Add62 m 1 n b _ 119 w (by omega) h rfl).mono fun e w' h => ⟨h.1, h.2.1, _, _, _, _, h.2.2⟩
  · exact (Add62 m 2 n c _ 119 w (by omega) h rfl).mono fun e w' h => ⟨h.1, h.2.1, _, _, _, _, h.2.2⟩
  · exact (Add62 m 3 n d _ 119 w (by omega) h rfl).mono fun e w' h => ⟨h.1, h.2.1, _, _, _, _, h.2.2⟩
theorem meter_job {w : World} {m : Nat} {jobs : Int} (h : MeterAt w m jobs) (h0 : 0 ≤ jobs) (h1 : jobs < 536870912) : Calls Tryz.prog 62 #[pt m, .int .i64 4, .int .i64 1] w fun e w' => (∃ y, e = .returned (.int .i64 y)) ∧ Kept [m] w w' ∧ MeterAt w' m (jobs + 1) := by
  obtain ⟨a, b, c, d, h⟩ := h
  refine (Add62 m 4 1 jobs _ 119 w (by omega) h rfl).mono fun e w' h => ⟨h.1, h.2.1, a, b, c, d, ?_⟩
  have := h.2.2
  rw [show wrap64 (jobs + 1) = jobs + 1 from by unfold wrap64; omega] at this
  exact this
theorem sub_int (a b : Int) : ((a : Rat) - (b : Rat)) = ((a - b : Int) : Rat) := by rw [Rat.intCast_sub]
theorem add_int (a b : Int) : ((a : Rat) + (b : Rat)) = ((a + b : Int) : Rat) := by rw [Rat.intCast_add]
abbrev wi (n : Int) : Value := .agg #[.int .i64 n, .int .i64 1]
theorem sm_int {n : Int} (h0 : 0 ≤ n) (h1 : n < 1073741824) : Sm30 (n : Rat) := (szd_int n).sm (by omega) (by omega)
theorem lessI (a b : Int) (ha : 0 ≤ a) (ha1 : a < 1073741824) (hb : 0 ≤ b) (hb1 : b < 1073741824) (w : World) : Calls Tryz.prog 60 #[wi a, wi b] w (RetG (wi (a - b)) w) := by
  have := less60 a b (sm_int ha ha1) (sm_int hb hb1) w
  rw [sub_int] at this
  exact this
theorem sumI (a b : Int) (ha : 0 ≤ a) (ha1 : a < 1073741824) (hb : 0 ≤ b) (hb1 : b < 1073741824) (w : World) : Calls Tryz.prog 59 #[wi a, wi b] w (RetG (wi (a + b)) w) := by
  have := sum59 a b (sm_int ha ha1) (sm_int hb hb1) w
  rw [add_int] at this
  exact this
theorem cmpRI (a b : Int) (ha : 0 ≤ a) (ha1 : a < 1073741824) (hb : 0 ≤ b) (hb1 : b < 1073741824) (w : World) : Calls Tryz.prog 97 #[wi a, wi b] w (RetG (.int .i64 (cmpR a b)) w) := Cmp97 a b (sm_int ha ha1) (sm_int hb hb1) w
theorem floorI (n : Nat) (hn : n < 1073741824) (w : World) : Calls Tryz.prog 99 #[wi n] w (RetG (.int .i64 n) w) := by
  have := Floor99' n 1 (fun W => May114 ((n : Int) : Rat) ⟨by show (n : Int).natAbs < _; omega, by show 1 < _; omega⟩ W) (by omega) (by omega) (by omega) w
  rw [Nat.div_one] at this
  exact this
end
section
attribute [local go_sem ↓] setCell_drewN alloc_drewN grow_cell grow_frozen setCell_grow grow_size cell_alloc_grow frozen_alloc_grow setCell_alloc_grow cell_grow_alloc_grow frozen_grow_alloc_grow setCell_grow_alloc_grow grow_grow
attribute [local go_sem] lt_len size_setCell
def countY (z : Ad) (i : Nat) (v : Value) (lo hi : Nat) (w : World) : Prop := match i with
  | 0 => v = .pointer (some ⟨z.x, 0, none⟩)
  | 1 => v = .pointer (some ⟨z.x, 0, none⟩)
  | 2 => v = .pointer (some ⟨z.x, 0, none⟩)
  | 3 => v = .pointer (some ⟨z.x, 0, none⟩)
  | 4 => v = .int .i64 1
  | 5 => v = wi 1
  | 6 => v = .pointer (some ⟨z.x, 0, none⟩)
  | 7 => v = .pointer (some ⟨z.x, 0, none⟩)
  | 8 => v = .pointer (some ⟨z.x, 0, none⟩)
  | 9 => v = .pointer (some ⟨z.x, 0, none⟩)
  | 10 => v = .int .i64 1
  | 11 => v = wi 1
  | 12 => ∃ b, lo ≤ b ∧ b < hi ∧ v = .pointer (some ⟨b, 0, none⟩) ∧ w.heap[b]? = some (.cells #[.int .i64 0, .int .i64 0] 39 (0, 0))
  | 13 => ∃ b, lo ≤ b ∧ b < hi ∧ v = .pointer (some ⟨b, 0, none⟩) ∧ w.heap[b]? = some (.cells #[.int .i64 0, .int .i64 0] 39 (0, 0))
  | _ => True
set_option maxHeartbeats 2000000 in
theorem count57_none (z : Ad) (tasks mode ring clock idle given : Int) (all : Value) (w : World) (hx : XAt w z tasks mode ring clock idle given all) (hb : w.heap[z.bk]? = some (.cells #[.slice none 0 0] 108 (0, 0))) (hi0 : 0 ≤ idle) (hi1 : idle < 536870912) (hg0 : 0 ≤ given) (hg1 : given < 536870912) :
    Calls Tryz.prog 57 #[pt z.x, .slice none 0 0] w fun e' w' => e' = .returned (.tuple #[]) ∧ XAt w' z tasks mode ring clock (idle + 1) given all ∧ w'.heap[z.bk]? = some (.cells #[.slice none 0 0] 108 (0, 0)) ∧ Kept [z.x, z.bk] w w' := by
  unfold XAt at *
  replace hb := Lib.hid hb
  have A83 := fun W => whole83 1 W
  go_enter Tryz.func57, Tryz.ntmps57
  go_wp2_with fail
  refine bornQ 14 [] [5, 4, 24, 23, 22, 21, 20, 19, 18, 17, 16, 15, 14, 13] (countY z) (by kernel_rfl) (by kernel_rfl) (by kernel_rfl) (fun _ _ d _ _ h => by cases d <;> exact h) ?_ ?_ ?_
  · intro i v lo hi w w' hY hw
    unfold countY at *
    split at hY <;> first
      | exact hY
      | (obtain ⟨b, h1, h2, h3, h4⟩ := hY; exact ⟨b, h1, h2, h3, by rw [hw b h1 h2]; exact h4⟩)
      | trivial
  · intro i hi o ho a W hr hd hk
    rcases i with _ | _ | _ | _ | _ | _ | _ | _ | _ | _ | _ | _ | _ | _ | i
    · cases ho
      have h0 : a.tmps.getD 0 undef = .pointer (some ⟨z.x, 0, none⟩) := (hr 0 (by kernel_rfl)).trans (by kernel_rfl)
      refine ⟨fun h => absurd h (by decide), fun _ => ?_⟩
      clear hr hd hk A83
      exact born_value _ (by go_simp; try rfl) rfl
    · cases ho
      obtain ⟨_, _, h13⟩ := hd 0 13 (by kernel_rfl) (by kernel_rfl)
      have h13 : a.tmps.getD 13 undef = .pointer (some ⟨z.x, 0, none⟩) := h13
      refine ⟨fun h => absurd h (by decide), fun _ => ?_⟩
      clear hr hd hk A83
      exact born_value _ (by go_simp; try rfl) rfl
    · cases ho
      obtain ⟨_, _, h14⟩ := hd 1 14 (by kernel_rfl) (by kernel_rfl)
      have h14 : a.tmps.getD 14 undef = .pointer (some ⟨z.x, 0, none⟩) := h14
      refine ⟨fun h => absurd h (by decide), fun _ => ?_⟩
      clear hr hd hk A83
      exact born_value _ (by go_simp; try rfl) rfl
    · cases ho
      obtain ⟨_, _, h15⟩ := hd 2 15 (by kernel_rfl) (by kernel_rfl)
      have h15 : a.tmps.getD 15 undef = .pointer (some ⟨z.x, 0, none⟩) := h15
      refine ⟨fun h => absurd h (by decide), fun _ => ?_⟩
      clear hr hd hk A83
      exact born_value _ (by go_simp; try rfl) rfl
    · cases ho
      obtain ⟨_, _, h16⟩ := hd 3 16 (by kernel_rfl) (by kernel_rfl)
      have h16 : a.tmps.getD 16 undef = .pointer (some ⟨z.x, 0, none⟩) := h16
      refine ⟨fun h => absurd h (by decide), fun _ => ?_⟩
      have c0 : W.cell? ⟨z.x, 0, none⟩ = some (.int .i64 1) := cell_of (hk.at hx (by simp)) 0
      have ll := hk.lt (heap_lt hx)
      clear hr hd hk A83
      exact born_value _ (by go_simp; try rfl) rfl
    · cases ho
      obtain ⟨_, _, h17⟩ := hd 4 17 (by kernel_rfl) (by kernel_rfl)
      have h17 : a.tmps.getD 17 undef = .int .i64 1 := h17
      refine ⟨fun h => absurd h (by decide), fun _ => ?_⟩
      clear hr hd hk
      refine Or.inr ⟨_, _, W, by go_simp; first | done | rfl | exact ⟨rfl, rfl⟩, (A83 W).mono ?_⟩
      rintro e' w' ⟨rfl, os, q, rfl⟩
      exact ⟨_, rfl, (Kept.refl _ _).grow _ _, rfl⟩
    · cases ho
      have h0 : a.tmps.getD 0 undef = .pointer (some ⟨z.x, 0, none⟩) := (hr 0 (by kernel_rfl)).trans (by kernel_rfl)
      refine ⟨fun h => absurd h (by decide), fun _ => ?_⟩
      clear hr hd hk A83
      exact born_value _ (by go_simp; try rfl) rfl
    · cases ho
      obtain ⟨_, _, h19⟩ := hd 6 19 (by kernel_rfl) (by kernel_rfl)
      have h19 : a.tmps.getD 19 undef = .pointer (some ⟨z.x, 0, none⟩) := h19
      refine ⟨fun h => absurd h (by decide), fun _ => ?_⟩
      clear hr hd hk A83
      exact born_value _ (by go_simp; try rfl) rfl
    · cases ho
      obtain ⟨_, _, h20⟩ := hd 7 20 (by kernel_rfl) (by kernel_rfl)
      have h20 : a.tmps.getD 20 undef = .pointer (some ⟨z.x, 0, none⟩) := h20
      refine ⟨fun h => absurd h (by decide), fun _ => ?_⟩
      clear hr hd hk A83
      exact born_value _ (by go_simp; try rfl) rfl
    · cases ho
      obtain ⟨_, _, h21⟩ := hd 8 21 (by kernel_rfl) (by kernel_rfl)
      have h21 : a.tmps.getD 21 undef = .pointer (some ⟨z.x, 0, none⟩) := h21
      refine ⟨fun h => absurd h (by decide), fun _ => ?_⟩
      clear hr hd hk A83
      exact born_value _ (by go_simp; try rfl) rfl
    · cases ho
      obtain ⟨_, _, h22⟩ := hd 9 22 (by kernel_rfl) (by kernel_rfl)
      have h22 : a.tmps.getD 22 undef = .pointer (some ⟨z.x, 0, none⟩) := h22
      refine ⟨fun h => absurd h (by decide), fun _ => ?_⟩
      have c0 : W.cell? ⟨z.x, 0, none⟩ = some (.int .i64 1) := cell_of (hk.at hx (by simp)) 0
      have ll := hk.lt (heap_lt hx)
      clear hr hd hk A83
      exact born_value _ (by go_simp; try rfl) rfl
    · cases ho
      obtain ⟨_, _, h23⟩ := hd 10 23 (by kernel_rfl) (by kernel_rfl)
      have h23 : a.tmps.getD 23 undef = .int .i64 1 := h23
      refine ⟨fun h => absurd h (by decide), fun _ => ?_⟩
      clear hr hd hk
      refine Or.inr ⟨_, _, W, by go_simp; first | done | rfl | exact ⟨rfl, rfl⟩, (A83 W).mono ?_⟩
      rintro e' w' ⟨rfl, os, q, rfl⟩
      exact ⟨_, rfl, (Kept.refl _ _).grow _ _, rfl⟩
    · cases ho
      refine ⟨fun h => absurd h (by decide), fun _ => ?_⟩
      clear hr hd hk
      refine born_alloc _ _ (by go_simp; first | done | rfl | exact ⟨rfl, rfl⟩) ⟨W.heap.size, by omega, by omega, rfl, heap_alloc_new⟩
    · cases ho
      refine ⟨fun h => absurd h (by decide), fun _ => ?_⟩
      clear hr hd hk
      refine born_alloc _ _ (by go_simp; first | done | rfl | exact ⟨rfl, rfl⟩) ⟨W.heap.size, by omega, by omega, rfl, heap_alloc_new⟩
    · omega
  · intro vs lo hi W hK h1 h2
    have yy0 : vs 0 = .pointer (some ⟨z.x, 0, none⟩) := (h1 0 (by omega)).2.2.2
    have yy1 : vs 1 = .pointer (some ⟨z.x, 0, none⟩) := (h1 1 (by omega)).2.2.2
    have yy2 : vs 2 = .pointer (some ⟨z.x, 0, none⟩) := (h1 2 (by omega)).2.2.2
    have yy3 : vs 3 = .pointer (some ⟨z.x, 0, none⟩) := (h1 3 (by omega)).2.2.2
    have yy4 : vs 4 = .int .i64 1 := (h1 4 (by omega)).2.2.2
    have yy5 : vs 5 = wi 1 := (h1 5 (by omega)).2.2.2
    have yy6 : vs 6 = .pointer (some ⟨z.x, 0, none⟩) := (h1 6 (by omega)).2.2.2
    have yy7 : vs 7 = .pointer (some ⟨z.x, 0, none⟩) := (h1 7 (by omega)).2.2.2
    have yy8 : vs 8 = .pointer (some ⟨z.x, 0, none⟩) := (h1 8 (by omega)).2.2.2
    have yy9 : vs 9 = .pointer (some ⟨z.x, 0, none⟩) := (h1 9 (by omega)).2.2.2
    have yy10 : vs 10 = .int .i64 1 := (h1 10 (by omega)).2.2.2
    have yy11 : vs 11 = wi 1 := (h1 11 (by omega)).2.2.2
    obtain ⟨p12, q12, r12, b12, t12, u12, yy12, z12⟩ := h1 12 (by omega)
    obtain ⟨p13, q13, r13, b13, t13, u13, yy13, z13⟩ := h1 13 (by omega)
    simp only [fillR, List.length_cons, List.length_nil, Nat.reduceAdd, List.setIfInBounds_toArray, List.set_cons_succ, List.set_cons_zero]
    rw [yy0, yy1, yy2, yy3, yy4, yy5, yy6, yy7, yy8, yy9, yy10, yy11, yy12, yy13]
    show wpAny _ _ _ _ 2 _ _ _
    have ap := h2 12 13 (by omega) (by omega) (by omega)
    have nb : b12 ≠ b13 := by
      rintro rfl
      omega
    have g4 : w.heap.size ≤ b12 := Nat.le_trans p12 t12
    have g5 : w.heap.size ≤ b13 := Nat.le_trans p13 t13
    have f40 : W.frozen? ⟨b12, 0, none⟩ = false := frozen_of z12 0
    have f41 : W.frozen? ⟨b12, 1, none⟩ = false := frozen_of z12 1
    have e40 : W.cell? ⟨b12, 0, none⟩ = some (.int .i64 0) := cell_of z12 0
    have e41 : W.cell? ⟨b12, 1, none⟩ = some (.int .i64 0) := cell_of z12 1
    have l4 := heap_lt z12
    have hB4 : ((W.setCell ⟨b12, 0, none⟩ (.int .i64 1)).setCell ⟨b12, 1, none⟩ (.int .i64 1)).heap[b12]? = some (.cells #[.int .i64 1, .int .i64 1] 39 (0, 0)) := heap_setCell (heap_setCell z12)
    have hB5 : ((W.setCell ⟨b12, 0, none⟩ (.int .i64 1)).setCell ⟨b12, 1, none⟩ (.int .i64 1)).heap[b13]? = _ := (heap_setCell_ne nb).trans ((heap_setCell_ne nb).trans z13)
    have kW : Kept [] w ((W.setCell ⟨b12, 0, none⟩ (.int .i64 1)).setCell ⟨b12, 1, none⟩ (.int .i64 1)) := (hK.setCell _ _ (Or.inr g4)).setCell _ _ (Or.inr g4)
    replace hx := Lib.hid hx
    clear h1 h2 p12 q12 r12 t12 u12 p13 q13 r13 t13 u13 ap yy0 yy1 yy2 yy3 yy4 yy5 yy6 yy7 yy8 yy9 yy10 yy11 yy12 yy13 z12 z13 hK A83
    refine aSkip (i := 14) (w' := ?_) rfl (by kernel_rfl) (by rfl) ?_ ?_
    rotate_left 1
    · go_simp; all_goals with_reducible rfl
    try simp only [Act.put, zA, zB, zC]
    obtain ⟨W2, hW2⟩ : ∃ W2, ((W.setCell ⟨b12, 0, none⟩ (.int .i64 1)).setCell ⟨b12, 1, none⟩ (.int .i64 1)) = W2 := ⟨_, rfl⟩
    rw [hW2] at hB4 hB5 kW ⊢
    clear hW2 f40 f41 e40 e41 l4
    have f50 : W2.frozen? ⟨b13, 0, none⟩ = false := frozen_of hB5 0
    have f51 : W2.frozen? ⟨b13, 1, none⟩ = false := frozen_of hB5 1
    have e50 : W2.cell? ⟨b13, 0, none⟩ = some (.int .i64 0) := cell_of hB5 0
    have e51 : W2.cell? ⟨b13, 1, none⟩ = some (.int .i64 0) := cell_of hB5 1
    have l5 := heap_lt hB5
    have hC5 : ((W2.setCell ⟨b13, 0, none⟩ (.int .i64 1)).setCell ⟨b13, 1, none⟩ (.int .i64 1)).heap[b13]? = some (.cells #[.int .i64 1, .int .i64 1] 39 (0, 0)) := heap_setCell (heap_setCell hB5)
    have hC4 : ((W2.setCell ⟨b13, 0, none⟩ (.int .i64 1)).setCell ⟨b13, 1, none⟩ (.int .i64 1)).heap[b12]? = _ := (heap_setCell_ne (Ne.symm nb)).trans ((heap_setCell_ne (Ne.symm nb)).trans hB4)
    have kC : Kept [] w ((W2.setCell ⟨b13, 0, none⟩ (.int .i64 1)).setCell ⟨b13, 1, none⟩ (.int .i64 1)) := (kW.setCell _ _ (Or.inr g5)).setCell _ _ (Or.inr g5)
    obtain ⟨W3, hW3⟩ : ∃ W3, ((W2.setCell ⟨b13, 0, none⟩ (.int .i64 1)).setCell ⟨b13, 1, none⟩ (.int .i64 1)) = W3 := ⟨_, rfl⟩
    have st := Lib.hid (And.intro (hW3 ▸ kC) (And.intro (hW3 ▸ hC4) (And.intro (hW3 ▸ hC5) (And.intro g4 (And.intro g5 nb)))))
    clear hB4 hB5 kW hC5 hC4 kC g4 g5 nb
    refine aSkip (i := 15) (w' := ?_) rfl (by kernel_rfl) (by rfl) ?_ ?_
    rotate_left 1
    · go_simp; all_goals with_reducible rfl
    try simp only [Act.put, zA, zB, zC]
    refine wpAny_done (by kernel_rfl) ?_ _
    try rw [hW3]
    clear hW3 f50 f51 e50 e51 l5
    have C := fun W => Clone93_none W
    have O := fun W => Stable94 none (.func (.func 95) #[] #[]) 0 0 (by omega) W
    go_wp2_with fail
    refine (C _).mono ?_
    rintro e' w1 ⟨rfl, os, q, rfl⟩
    go_wp2_with fail
    refine (O _).mono ?_
    rintro e' w1 ⟨rfl, os1, q1, hV⟩
    obtain ⟨k3, h4, h5, g4, g5, nb⟩ := st.out
    have kv : Kept [] W3 w1 := Kept.tr ((Kept.refl _ _).grow _ _) (kept_grow hV)
    have kV := (Kept.tr k3 kv).mono (U := [z.x, z.bk]) (by simp)
    have hxV := (Kept.tr k3 kv).at hx.out (by simp)
    have hbV := (Kept.tr k3 kv).at hb.out (by simp)
    replace h4 := kv.at h4 (by simp)
    replace h5 := kv.at h5 (by simp)
    replace st := Lib.hid (And.intro kV (And.intro hxV (And.intro h4 (And.intro hbV (And.intro g4 g5)))))
    clear k3 g4 g5 nb kv hV C O
    obtain ⟨V, hV⟩ : ∃ V, w1 = V := ⟨_, rfl⟩
    subst hV
    have hV' := Lib.hid (And.intro hxV (And.intro h4 (And.intro h5 (And.intro kV hbV))))
    clear hxV h4 h5 kV hbV
    go_wp2_with fail
    refine wp_loop_rounds 1 ?_
    rw [rounds_succ]
    go_wp2_with fail
    obtain ⟨hxV, h4, h5, kV, hbV⟩ := hV'.out
    clear hV'
    -- the idle time
    have cA : w1.cell? ⟨z.x, 14, none⟩ = some (.int .i64 idle) := cell_of hxV 14
    have cB : w1.cell? ⟨z.x, 15, none⟩ = some (.int .i64 1) := cell_of hxV 15
    have cC : w1.cell? ⟨b13, 0, none⟩ = some (.int .i64 1) := cell_of h5 0
    have cD : w1.cell? ⟨b13, 1, none⟩ = some (.int .i64 1) := cell_of h5 1
    have lx := heap_lt hxV
    have l5 := heap_lt h5
    have S59 := fun W => sumI idle 1 hi0 (by omega) (by omega) (by omega) W
    clear h4 h5 hxV kV hbV
    refine wp_region_any (by kernel_rfl) ?_
    rw [List.size_toArray]
    refine wpAnyS_any (S := fun X => ∃ os q, Go.Proofs.YtgfbfklnhmndfaaGreat.grow w1 os q = X) (k := 7) _ _ _ ?_ _ (gr_drew (gr_refl _))
    refine sTake (i := 0) (v := ?_) rfl (by kernel_rfl) (fun _ _ _ h => h) (gLoad (by rfl) ?_) ?_
    rotate_left 1
    · intro W hW; (try dsimp only at hW); obtain ⟨os', q', hW'⟩ := hW; subst hW'; go_simp; all_goals with_reducible rfl
    try simp only [Act.put, zA, zB, zC]
    refine sTake (i := 1) (v := ?_) rfl (by kernel_rfl) (fun _ _ _ h => h) (gLoad (by rfl) ?_) ?_
    rotate_left 1
    · intro W hW; (try dsimp only at hW); obtain ⟨os', q', hW'⟩ := hW; subst hW'; go_simp; all_goals with_reducible rfl
    try simp only [Act.put, zA, zB, zC]
    refine sTake (i := 2) (v := ?_) rfl (by kernel_rfl) (fun _ _ _ h => h) (gLoad (by rfl) ?_) ?_
    rotate_left 1
    · intro W hW; (try dsimp only at hW); obtain ⟨os', q', hW'⟩ := hW; subst hW'; go_simp; all_goals with_reducible rfl
    try simp only [Act.put, zA, zB, zC]
    refine sTake (i := 3) (v := ?_) rfl (by kernel_rfl) (fun _ _ _ h => h) (gLoad (by rfl) ?_) ?_
    rotate_left 1
    · intro W hW; (try dsimp only at hW); obtain ⟨os', q', hW'⟩ := hW; subst hW'; go_simp; all_goals with_reducible rfl
    try simp only [Act.put, zA, zB, zC]
    refine sTake (i := 4) (v := ?_) rfl (by kernel_rfl) (fun _ _ _ h => h) (gLoad (by rfl) ?_) ?_
    rotate_left 1
    · intro W hW; (try dsimp only at hW); obtain ⟨os', q', hW'⟩ := hW; subst hW'; go_simp; all_goals with_reducible rfl
    try simp only [Act.put, zA, zB, zC]
    refine sTake (i := 5) (v := ?_) rfl (by kernel_rfl) (fun _ _ _ h => h) (gLoad (by rfl) ?_) ?_
    rotate_left 1
    · intro W hW; (try dsimp only at hW); obtain ⟨os', q', hW'⟩ := hW; subst hW'; go_simp; all_goals with_reducible rfl
    try simp only [Act.put, zA, zB, zC]
    refine sTake (i := 6) rfl (by kernel_rfl) (fun _ _ _ h => h) (gCall (by rfl) ?_ (fun W hW => RetG.into S59 hW)) ?_
    · intro W hW; go_simp; all_goals with_reducible rfl
    try simp only [Act.put, zA, zB, zC]
    refine sRest (by kernel_rfl) ?_
    intro X hX
    obtain ⟨os3, q3, hX⟩ := hX
    obtain ⟨kV, hxV, h4, hbV, g4, g5⟩ := st.out
    have kG := kept_grow hX
    have hx1 := kG.at hxV (by simp)
    have h41 := kG.at h4 (by simp)
    have hb1 := kG.at hbV (by simp)
    have k1 := Kept.tr kV kG
    have f14 : X.frozen? ⟨z.x, 14, none⟩ = false := frozen_of hx1 14
    have f15 : X.frozen? ⟨z.x, 15, none⟩ = false := frozen_of hx1 15
    have c14 : X.cell? ⟨z.x, 14, none⟩ = some (.int .i64 idle) := cell_of hx1 14
    have c15 : X.cell? ⟨z.x, 15, none⟩ = some (.int .i64 1) := cell_of hx1 15
    have lx1 := heap_lt hx1
    have hx2 : ((X.setCell ⟨z.x, 14, none⟩ (.int .i64 (idle + 1))).setCell ⟨z.x, 15, none⟩ (.int .i64 1)).heap[z.x]? = some (.cells (exC z tasks mode ring clock (idle + 1) given all) 80 (0, 0)) := heap_setCell (heap_setCell hx1)
    have n4 : z.x ≠ b12 := by have := heap_lt hx.out; omega
    have nbk : z.x ≠ z.bk := heap_ne hxV hbV (by simp)
    have h42 : ((X.setCell ⟨z.x, 14, none⟩ (.int .i64 (idle + 1))).setCell ⟨z.x, 15, none⟩ (.int .i64 1)).heap[b12]? = _ := (heap_setCell_ne n4).trans ((heap_setCell_ne n4).trans h41)
    have hb2 : ((X.setCell ⟨z.x, 14, none⟩ (.int .i64 (idle + 1))).setCell ⟨z.x, 15, none⟩ (.int .i64 1)).heap[z.bk]? = _ := (heap_setCell_ne nbk).trans ((heap_setCell_ne nbk).trans hb1)
    have k2 := (k1.setCell ⟨z.x, 14, none⟩ (.int .i64 (idle + 1)) (Or.inl (by simp))).setCell ⟨z.x, 15, none⟩ (.int .i64 1) (Or.inl (by simp))
    obtain ⟨V2, hV2⟩ : ∃ V2, ((X.setCell ⟨z.x, 14, none⟩ (.int .i64 (idle + 1))).setCell ⟨z.x, 15, none⟩ (.int .i64 1)) = V2 := ⟨_, rfl⟩
    rw [hV2] at hx2 h42 hb2 k2
    have st := Lib.hid (And.intro k2 (And.intro hx2 (And.intro h42 (And.intro hb2 (And.intro n4 nbk)))))
    clear kV hxV h4 hbV g4 g5 hX kG hx1 h41 hb1 k1 cA cB cC cD lx l5 S59
    clear hx2 h42 hb2 k2 n4 nbk
    refine aVal (i := 7) (v := ?_) rfl (by kernel_rfl) (by rfl) ?_ ?_
    rotate_left 1
    · go_simp; all_goals with_reducible rfl
    try simp only [Act.put, zA, zB, zC]
    refine aVal (i := 8) (v := ?_) rfl (by kernel_rfl) (by rfl) ?_ ?_
    rotate_left 1
    · go_simp; all_goals with_reducible rfl
    try simp only [Act.put, zA, zB, zC]
    refine aSkip (i := 9) (w' := ?_) rfl (by kernel_rfl) (by rfl) ?_ ?_
    rotate_left 1
    · go_simp; all_goals with_reducible rfl
    try simp only [Act.put, zA, zB, zC]
    refine wpAny_done (by kernel_rfl) ?_ _
    try rw [hV2]
    clear hV2 f14 f15 c14 c15 lx1
    obtain ⟨k2, hx2, h42, hb2, n4, nbk⟩ := st.out
    have c11 : V2.cell? ⟨z.x, 11, none⟩ = some (.pointer (some ⟨z.bk, 0, none⟩)) := cell_of hx2 11
    have c40 : V2.cell? ⟨b12, 0, none⟩ = some (.int .i64 ((1 : Nat) : Int)) := cell_of h42 0
    have c41 : V2.cell? ⟨b12, 1, none⟩ = some (.int .i64 1) := cell_of h42 1
    have lx := heap_lt hx2
    have l4 := heap_lt h42
    have F := fun W => floorI 1 (by omega) W
    clear k2 hx2 h42 hb2 n4 nbk
    go_wp2_with fail
    refine wp_region_any (by kernel_rfl) ?_
    rw [List.size_toArray]
    refine wpAnyS_any (S := fun X => ∃ os q, Go.Proofs.YtgfbfklnhmndfaaGreat.grow V2 os q = X) (k := 6) _ _ _ ?_ _ (gr_drew (gr_refl _))
    refine sTake (i := 0) (v := ?_) rfl (by kernel_rfl) (fun _ _ _ h => h) (gLoad (by rfl) ?_) ?_
    rotate_left 1
    · intro W hW; (try dsimp only at hW); obtain ⟨os', q', hW'⟩ := hW; subst hW'; go_simp; all_goals with_reducible rfl
    try simp only [Act.put, zA, zB, zC]
    refine sTake (i := 1) (v := ?_) rfl (by kernel_rfl) (fun _ _ _ h => h) (gLoad (by rfl) ?_) ?_
    rotate_left 1
    · intro W hW; (try dsimp only at hW); obtain ⟨os', q', hW'⟩ := hW; subst hW'; go_simp; all_goals with_reducible rfl
    try simp only [Act.put, zA, zB, zC]
    refine sTake (i := 2) (v := ?_) rfl (by kernel_rfl) (fun _ _ _ h => h) (gLoad (by rfl) ?_) ?_
    rotate_left 1
    · intro W hW; (try dsimp only at hW); obtain ⟨os', q', hW'⟩ := hW; subst hW'; go_simp; all_goals with_reducible rfl
    try simp only [Act.put, zA, zB, zC]
    refine sTake (i := 3) (v := ?_) rfl (by kernel_rfl) (fun _ _ _ h => h) (gLoad (by rfl) ?_) ?_
    rotate_left 1
    · intro W hW; (try dsimp only at hW); obtain ⟨os', q', hW'⟩ := hW; subst hW'; go_simp; all_goals with_reducible rfl
    try simp only [Act.put, zA, zB, zC]
    refine sTake (i := 4) (v := ?_) rfl (by kernel_rfl) (fun _ _ _ h => h) (gLoad (by rfl) ?_) ?_
    rotate_left 1
    · intro W hW; (try dsimp only at hW); obtain ⟨os', q', hW'⟩ := hW; subst hW'; go_simp; all_goals with_reducible rfl
    try simp only [Act.put, zA, zB, zC]
    refine sTake (i := 5) rfl (by kernel_rfl) (fun _ _ _ h => h) (gCall (by rfl) ?_ (fun W hW => RetG.into F hW)) ?_
    · intro W hW; go_simp; all_goals with_reducible rfl
    try simp only [Act.put, zA, zB, zC]
    refine sRest (by kernel_rfl) ?_
    intro X2 hX
    obtain ⟨os4, q4, hX⟩ := hX
    obtain ⟨k2, hx2, h42, hb2, n4, nbk⟩ := st.out
    have kG := kept_grow hX
    have hx3 := kG.at hx2 (by simp)
    have hb3 := kG.at hb2 (by simp)
    have k3 := Kept.tr k2 kG
    have G := Give98 z.bk 1 X2 hb3
    clear k2 hx2 h42 hb2 n4 hX kG c11 c40 c41 lx l4 F
    refine aCall (i := 6) rfl (by kernel_rfl) (by rfl) (by go_simp; first | done | rfl | exact ⟨rfl, rfl⟩) (G.mono ?_)
    rintro e' w5 ⟨rfl, k4, hb4⟩
    refine ⟨_, rfl, ?_⟩
    try simp only [Act.put, zA, zB, zC]
    have hx4 := k4.at hx3 (by simp [nbk])
    have k5 := Kept.trans k3 k4 (U := [z.x, z.bk]) (fun x h => h) (fun x h => Or.inl (by simp at h; simp [h]))
    clear hx3 hb3 k3 G k4
    refine aVal (i := 7) (v := ?_) rfl (by kernel_rfl) (by rfl) ?_ ?_
    rotate_left 1
    · go_simp; all_goals with_reducible rfl
    try simp only [Act.put, zA, zB, zC]
    refine yTake (i := 8) rfl (by kernel_rfl) (fun _ _ _ h => h) (by rfl) (fun _ => by go_simp; first | done | rfl) ?_
    try simp only [Act.put, zA, zB, zC]
    refine yTake (i := 9) rfl (by kernel_rfl) (fun _ _ _ h => h) (by rfl) (fun _ => by go_simp; first | done | rfl) ?_
    try simp only [Act.put, zA, zB, zC]
    refine aVal (i := 10) (v := ?_) rfl (by kernel_rfl) (by rfl) ?_ ?_
    rotate_left 1
    · go_simp; all_goals with_reducible rfl
    try simp only [Act.put, zA, zB, zC]
    refine aVal (i := 11) (v := ?_) rfl (by kernel_rfl) (by rfl) ?_ ?_
    rotate_left 1
    · go_simp; all_goals with_reducible rfl
    try simp only [Act.put, zA, zB, zC]
    refine wpAny_done (by kernel_rfl) ?_ _
    have c16 : w5.cell? ⟨z.x, 16, none⟩ = some (.int .i64 given) := cell_of hx4 16
    have f16 : w5.frozen? ⟨z.x, 16, none⟩ = false := frozen_of hx4 16
    have lx := heap_lt hx4
    have hw16 : IntKind.i64.wrap (given + 0) = given := by rw [Int.add_zero]; exact IntWalk.i64_in _ (by omega)
    have hx5 : (w5.setCell ⟨z.x, 16, none⟩ (.int .i64 given)).heap[z.x]? = some (.cells (exC z tasks mode ring clock (idle + 1) given all) 80 (0, 0)) := heap_setCell hx4
    have hb5 := (heap_setCell_ne (v := .int .i64 given) (a := ⟨z.x, 16, none⟩) nbk).trans hb4
    have k6 := k5.setCell ⟨z.x, 16, none⟩ (.int .i64 given) (Or.inl (by simp))
    have st := Lib.hid (And.intro hx5 (And.intro hb5 k6))
    clear hx4 hb4 k5 hx5 hb5 k6
    go_wp2_with fail
    go_returns
    exact ⟨rfl, st.out.1, st.out.2.1, st.out.2.2⟩
end
section
attribute [local go_sem ↓] setCell_drewN alloc_drewN grow_cell grow_frozen setCell_grow grow_size cell_alloc_grow frozen_alloc_grow setCell_alloc_grow cell_grow_alloc_grow frozen_grow_alloc_grow setCell_grow_alloc_grow grow_grow
attribute [local go_sem] lt_len size_setCell
/-- What stands while pieces are counted. -/
structure CS (z : Ad) (w W : World) (tasks mode ring clock idle given jobs id : Int) (all : Value) (b4 b5 : Nat) (fr idl : Int) : Prop where
  k : Kept [z.x, z.bk, z.m, z.ls] w W
  hx : XAt W z tasks mode ring clock idle given all
  h4 : W.heap[b4]? = some (.cells #[.int .i64 fr, .int .i64 1] 39 (0, 0))
  h5 : W.heap[b5]? = some (.cells #[.int .i64 idl, .int .i64 1] 39 (0, 0))
  hb : W.heap[z.bk]? = some (.cells #[.slice none 0 0] 108 (0, 0))
  hm : MeterAt W z.m jobs
  hl : LastAt W z.ls id
  g4 : w.heap.size ≤ b4
  g5 : w.heap.size ≤ b5
  nb : b4 ≠ b5
section
variable {z : Ad} {w W V : World} {tasks mode ring clock idle given jobs id : Int} {all : Value} {b4 b5 : Nat} {fr idl : Int}
theorem CS.kept0 (h : CS z w W tasks mode ring clock idle given jobs id all b4 b5 fr idl) (hk : Kept [] W V) : CS z w V tasks mode ring clock idle given jobs id all b4 b5 fr idl :=
  ⟨Kept.tr h.k hk, hk.at h.hx (by simp), hk.at h.h4 (by simp), hk.at h.h5 (by simp), hk.at h.hb (by simp), h.hm.kept hk (by simp), h.hl.kept hk (by simp), h.g4, h.g5, h.nb⟩
theorem CS.set4 (h : CS z w W tasks mode ring clock idle given jobs id all b4 b5 fr idl) (n : Int) : CS z w ((W.setCell ⟨b4, 0, none⟩ (.int .i64 n)).setCell ⟨b4, 1, none⟩ (.int .i64 1)) tasks mode ring clock idle given jobs id all b4 b5 n idl := by
  have hk : Kept [b4] W ((W.setCell ⟨b4, 0, none⟩ (.int .i64 n)).setCell ⟨b4, 1, none⟩ (.int .i64 1)) := ((Kept.refl _ _).setCell _ _ (Or.inl (by simp))).setCell _ _ (Or.inl (by simp))
  obtain ⟨k, hx, h4, h5, hb, ⟨ma, mb, mc, md, hm⟩, hl, g4, g5, nb⟩ := h
  have n1 : z.x ≠ b4 := heap_ne hx h4 (by simp)
  have n2 : z.bk ≠ b4 := heap_ne hb h4 (by simp)
  have n3 : z.m ≠ b4 := heap_ne hm h4 (by simp)
  have n4 : z.ls ≠ b4 := hl.ne h4
  exact ⟨(k.setCell _ _ (Or.inr g4)).setCell _ _ (Or.inr g4), hk.at hx (by simp [n1]), heap_setCell (heap_setCell h4), hk.at h5 (by simp [Ne.symm nb]), hk.at hb (by simp [n2]), ⟨ma, mb, mc, md, hk.at hm (by simp [n3])⟩, hl.kept hk (by simp [n4]), g4, g5, nb⟩
theorem CS.set5 (h : CS z w W tasks mode ring clock idle given jobs id all b4 b5 fr idl) (n : Int) : CS z w ((W.setCell ⟨b5, 0, none⟩ (.int .i64 n)).setCell ⟨b5, 1, none⟩ (.int .i64 1)) tasks mode ring clock idle given jobs id all b4 b5 fr n := by
  have hk : Kept [b5] W ((W.setCell ⟨b5, 0, none⟩ (.int .i64 n)).setCell ⟨b5, 1, none⟩ (.int .i64 1)) := ((Kept.refl _ _).setCell _ _ (Or.inl (by simp))).setCell _ _ (Or.inl (by simp))
  obtain ⟨k, hx, h4, h5, hb, ⟨ma, mb, mc, md, hm⟩, hl, g4, g5, nb⟩ := h
  have n1 : z.x ≠ b5 := heap_ne hx h5 (by simp)
  have n2 : z.bk ≠ b5 := heap_ne hb h5 (by simp)
  have n3 : z.m ≠ b5 := heap_ne hm h5 (by simp)
  have n4 : z.ls ≠ b5 := hl.ne h5
  exact ⟨(k.setCell _ _ (Or.inr g5)).setCell _ _ (Or.inr g5), hk.at hx (by simp [n1]), hk.at h4 (by simp [nb]), heap_setCell (heap_setCell h5), hk.at hb (by simp [n2]), ⟨ma, mb, mc, md, hk.at hm (by simp [n3])⟩, hl.kept hk (by simp [n4]), g4, g5, nb⟩
theorem CS.meter (h : CS z w W tasks mode ring clock idle given jobs id all b4 b5 fr idl) (hk : Kept [z.m] W V) (hm' : MeterAt V z.m jobs) : CS z w V tasks mode ring clock idle given jobs id all b4 b5 fr idl := by
  obtain ⟨k, hx, h4, h5, hb, ⟨ma, mb, mc, md, hm⟩, hl, g4, g5, nb⟩ := h
  have n1 : z.x ≠ z.m := heap_ne hx hm (by simp)
  have n2 : z.bk ≠ z.m := heap_ne hb hm (by simp)
  have n3 : b4 ≠ z.m := heap_ne h4 hm (by simp)
  have n5 : b5 ≠ z.m := heap_ne h5 hm (by simp)
  have n4 : z.ls ≠ z.m := hl.ne hm
  exact ⟨Kept.trans k hk (fun x h => h) (fun x h => Or.inl (by simp at h; simp [h])), hk.at hx (by simp [n1]), hk.at h4 (by simp [n3]), hk.at h5 (by simp [n5]), hk.at hb (by simp [n2]), hm', hl.kept hk (by simp [n4]), g4, g5, nb⟩
theorem CS.last (h : CS z w W tasks mode ring clock idle given jobs id all b4 b5 fr idl) {b c : Nat} {v : Value} (hv : LastE v) : CS z w (Go.ChangeMaps.setBlock W z.ls (.map #[{ key := .int .i64 id, val := v, born := b }] c)) tasks mode ring clock idle given jobs id all b4 b5 fr idl := by
  have hk : Kept [z.ls] W (Go.ChangeMaps.setBlock W z.ls (.map #[{ key := .int .i64 id, val := v, born := b }] c)) := (Kept.refl _ _).setBlock _ _ (Or.inl (by simp))
  obtain ⟨k, hx, h4, h5, hb, ⟨ma, mb, mc, md, hm⟩, hl, g4, g5, nb⟩ := h
  have n1 : z.ls ≠ z.x := hl.ne hx
  have n2 : z.ls ≠ z.bk := hl.ne hb
  have n3 : z.ls ≠ b4 := hl.ne h4
  have n5 : z.ls ≠ b5 := hl.ne h5
  have n4 : z.ls ≠ z.m := hl.ne hm
  exact ⟨Kept.trans k hk (fun x h => h) (fun x h => Or.inl (by simp at h; simp [h])), hk.at hx (by simp [Ne.symm n1]), hk.at h4 (by simp [Ne.symm n3]), hk.at h5 (by simp [Ne.symm n5]), hk.at hb (by simp [Ne.symm n2]), ⟨ma, mb, mc, md, hk.at hm (by simp [Ne.symm n4])⟩, ⟨_, _, heap_setBlock hl.lt, Or.inr ⟨_, _, rfl, hv⟩⟩, g4, g5, nb⟩
end
end
end Go.Proofs.YtgfbfklnhmndfaaGreat
