/- The parts of the top that the law of early release walks through: part 21 of 52. -/
import Derived.RangeFuncBox
import Derived.RangeFuncLeaves
import Derived.OwnWalkIn
import Derived.TacticsInMore
import Derived.LoopNIn
import Derived.LoopIn
import Derived.Test.YtgfbfklnhmndfaaGreatA1
import Derived.Test.YtgfbfklnhmndfaaGreatA3
import Derived.Test.YtgfbfklnhmndfaaGreatA4
import Derived.Test.YtgfbfklnhmndfaaGreatA9
import Derived.Test.YtgfbfklnhmndfaaGreatA12
import Derived.Test.YtgfbfklnhmndfaaGreatA13
import Derived.Test.YtgfbfklnhmndfaaGreatA14
import Derived.Test.YtgfbfklnhmndfaaGreatA15
import Derived.Test.YtgfbfklnhmndfaaGreatA16
import Derived.Test.YtgfbfklnhmndfaaGreatA18
import Derived.Test.YtgfbfklnhmndfaaGreatA20
namespace Go.Proofs.YtgfbfklnhmndfaaGreat
open Go.RowKit
set_option linter.unusedSimpArgs false
set_option linter.unusedVariables false
section
open Go.RowKit Go.Shelf Go.Maps Go.Sort
attribute [local go_sem ↓] setCell_drewN alloc_drewN grow_cell grow_frozen setCell_grow grow_size cell_alloc_grow frozen_alloc_grow setCell_alloc_grow cell_grow_alloc_grow frozen_grow_alloc_grow setCell_grow_alloc_grow grow_grow
attribute [local go_sem] lt_len size_setCell
attribute [local go_sem] Oper.semAt_some
set_option maxRecDepth 100000 in
set_option maxHeartbeats 1000000 in
theorem values173_one (l Bs b cap : Nat) (x : Int) (J : List Int → World → Prop)
    (hY : ∀ pre x W1, J pre W1 → pre.length < 1 → YieldAt Fence.wide 0 Tryz.prog l #[encZ x] W1 fun e W' => e = .returned (.bool true) ∧ J (pre ++ [x]) W' ∧ KeepsWalks W1 W')
    (W : World) (hBs : W.cell? ⟨Bs, 0, none⟩ = some (.slice (some ⟨b, 0, none⟩) 1 cap)) (hx : W.cell? ⟨b, 0, none⟩ = some (.int .i64 x)) (h0 : J [] W) :
    CallsIn Fence.wide 1 Tryz.prog 173 #[.func (.yield l) #[] #[], .pointer (some ⟨Bs, 0, none⟩)] W fun e W' => (∃ v, e = .returned v) ∧ ∃ ss : List Int, ss = [x] ∧ J ss W' := by
  refine callsIn_of_wp Tryz.func173 rfl trivial ?_ rfl
  simp only [Tryz.ntmps173, List.size_toArray, List.length_cons, List.length_nil, Nat.reduceAdd, Nat.reduceSub, Array.replicate_succ, Array.replicate_zero, List.push_toArray, List.append_toArray, List.nil_append, List.cons_append]
  gi_wp2
  gi_loopw [7] (fun i wr => (i = .int .i64 0 ∧ wr = W) ∨ (i = .int .i64 1 ∧ J [x] wr)) (fun i _ => 1 - (iv i).toNat)
  case atStart => exact Or.inl ⟨rfl, rfl⟩
  case round =>
    rcases hrel with ⟨rfl, rfl⟩ | ⟨rfl, hJ⟩
    · obtain ⟨fn, tmps, assign, body, hy, hR⟩ := hY [] x wr h0 (by simp)
      have e0 : encZ x = .int .i64 x := rfl
      rw [e0] at hy
      gi_wp2
      refine hR.mono ?_
      rintro e W3 ⟨rfl, hJ3, hk3⟩
      gi_wp2
      go_roundw
      case rel => exact Or.inr ⟨rfl, hJ3⟩
      case measure => simp [iv]
    · gi_wp2
      go_end0
      exact ⟨⟨_, rfl⟩, _, rfl, hJ⟩
theorem values_gives (Bs b cap : Nat) (x : Int) (w : World) (hBs : w.heap[Bs]? = some (.cells #[.slice (some ⟨b, 0, none⟩) 1 cap] 83 (0, 0))) (hx : w.cell? ⟨b, 0, none⟩ = some (.int .i64 x)) (hb : b < w.heap.size) :
    SeqGives Fence.wide 1 Tryz.prog 173 #[.pointer (some ⟨Bs, 0, none⟩)] encZ (fun ss => ss = [x]) 1 w := fun l J W hW hJ hY h0 =>
  values173_one l Bs b cap x J hY W ((hW.cell (p := ⟨Bs, 0, none⟩) (heap_lt hBs)).trans (cell_of hBs 0)) ((hW.cell (p := ⟨b, 0, none⟩) hb).trans hx) h0
set_option maxRecDepth 100000 in
set_option maxHeartbeats 1000000 in
theorem values_none (Bs : Nat) (w : World) (hBs : w.heap[Bs]? = some (.cells #[.slice none 0 0] 83 (0, 0))) :
    SeqGives Fence.wide 1 Tryz.prog 173 #[.pointer (some ⟨Bs, 0, none⟩)] encZ (fun ss => ss = []) 1 w := fun l J W hW hJ hY h0 => by
  have hc : W.cell? ⟨Bs, 0, none⟩ = some (.slice none 0 0) := (hW.cell (p := ⟨Bs, 0, none⟩) (heap_lt hBs)).trans (cell_of hBs 0)
  clear hW hJ hY hBs
  refine callsIn_of_wp Tryz.func173 rfl trivial ?_ rfl
  simp only [Tryz.ntmps173, List.size_toArray, List.length_cons, List.length_nil, Nat.reduceAdd, Nat.reduceSub, Array.replicate_succ, Array.replicate_zero, List.push_toArray, List.append_toArray, List.nil_append, List.cons_append]
  gi_wp2
  gi_loopw [7] (fun i wr => i = .int .i64 0 ∧ J [] wr) (fun _ _ => 0)
  case atStart => exact ⟨rfl, h0⟩
  case round =>
    obtain ⟨rfl, hJ⟩ := hrel
    gi_wp2
    go_end0
    exact ⟨⟨_, rfl⟩, _, rfl, hJ⟩
theorem Values129 (g : Option Addr) (n c : Nat) (w : World) : Calls Tryz.prog 129 #[.slice g n c] w fun e w' => e = .returned (.func (.func 173) #[] #[.pointer (some ⟨w.heap.size, 0, none⟩)]) ∧ w' = w.alloc (.cells #[.slice g n c] 83) := by
  go_enter Tryz.func129, Tryz.ntmps129
  go_wp2_with fail
  go_returns
  exact ⟨rfl, rfl⟩
/-- What an iterator gives that gives none, sorted. -/
theorem Sorted64_none (f : Nat) (lb : Array Value) (eg : ∀ args w, (callFunc f args).run Tryz.prog w = .ok (.enter f args) w) (w : World) (hseq : SeqGives Fence.wide 1 Tryz.prog f lb encZ (fun ss => ss = []) 1 w) :
    Calls Tryz.prog 64 #[.func (.func f) #[] lb] w fun e w' => e = .returned (.slice none 0 0) ∧ Kept [] w w' := by
  have C := fun w => Collect107 f lb eg (fun ss => ss = []) 1 (by omega) w
  have S := fun w => Sort108 none 0 0 (by omega) w
  go_enter Tryz.func64, Tryz.ntmps64
  go_wp2_with fail
  refine (C _ hseq).mono ?_
  rintro e w1 ⟨v, ss, rfl, rfl, hrow, hv, hb⟩
  obtain rfl := hv.2 rfl
  have hS := Lib.hid (kept_of_below hb)
  clear hrow hb C hseq hv
  go_wp2_with fail
  refine (S _).mono ?_
  rintro e w2 ⟨rfl, os, q, rfl⟩
  go_wp2_with fail
  go_returns
  exact ⟨rfl, hS.out.grow os q⟩
theorem twice130_none (w : World) : Calls Tryz.prog 130 #[.slice none 0 0] w (RetG (.bool false) w) := by
  unfold RetG
  go_enter Tryz.func130, Tryz.ntmps130
  go_wp2_with fail
  refine wp_loop_rounds 1 ?_
  rw [rounds_succ]
  go_wp2_with fail
  go_returns
  exact ⟨rfl, by repeat (first | exact gr_refl _ | apply gr_alloc | apply gr_grow | apply gr_drewN | apply gr_drew)⟩
theorem twice130_one (g : Option Addr) (c : Nat) (w : World) : Calls Tryz.prog 130 #[.slice g 1 c] w (RetG (.bool false) w) := by
  unfold RetG
  go_enter Tryz.func130, Tryz.ntmps130
  go_wp2_with fail
  refine wp_loop_rounds 2 ?_
  rw [rounds_succ]
  go_wp2_with fail
  go_quiet (fail)
  go_wp2_with fail
  rw [rounds_succ]
  go_wp2_with fail
  go_returns
  exact ⟨rfl, by repeat (first | exact gr_refl _ | apply gr_alloc | apply gr_grow | apply gr_drewN | apply gr_drew)⟩
theorem Index131 (T : Nat) (w : World) (hT : w.heap[T]? = some (.cells #[.bool false] 4 (0, 0))) : Calls Tryz.prog 131 #[.slice (some ⟨T, 0, none⟩) 1 1, .bool false] w fun e w' => e = .returned (.int .i64 0) ∧ w = w' := by
  have c0 : w.cell? ⟨T, 0, none⟩ = some (.bool false) := cell_of hT 0
  have hl := heap_lt hT
  clear hT
  go_enter Tryz.func131, Tryz.ntmps131
  go_wp2_with fail
  refine wp_loop_rounds 2 ?_
  rw [rounds_succ]
  go_wp2_with fail
  go_returns
  exact ⟨rfl, rfl⟩
/-- A map that holds nothing, or nought for one key. -/
def Half (w : World) (M : Nat) (id : Int) : Prop := ∃ es c, w.heap[M]? = some (.map es c) ∧ (es = #[] ∨ ∃ b, es = #[{ key := .int .i64 id, val := .int .i64 0, born := b }])
theorem Half.of {w W : World} {M : Nat} {id : Int} (h : Half w M id) (e : W.heap[M]? = w.heap[M]?) : Half W M id := by
  obtain ⟨es, c, h1, h2⟩ := h
  exact ⟨es, c, e.trans h1, h2⟩
theorem Half.lt {w : World} {M : Nat} {id : Int} (h : Half w M id) : M < w.heap.size := by
  obtain ⟨es, c, h1, h2⟩ := h
  exact heap_lt h1
theorem Half.kept {S : List Nat} {w W : World} {M : Nat} {id : Int} (h : Half w M id) (hk : Kept S w W) (hn : M ∉ S) : Half W M id := h.of (hk.2 M h.lt hn)
theorem look_half {w : World} {M : Nat} {id : Int} (h : Half w M id) : ∃ ok : Bool, ∀ W : World, W.heap[M]? = w.heap[M]? → (Instr.lookup 90 (.map (some M)) (.int .i64 id) true).run Tryz.prog W = .ok (.tuple #[.int .i64 0, .bool ok]) W := by
  obtain ⟨es, c, h1, rfl | ⟨b, rfl⟩⟩ := h
  · exact ⟨false, fun W hW => look_none Tryz.underlying90 Tryz.underlying3 (by kernel_rfl) (hW.trans h1) id true⟩
  · exact ⟨true, fun W hW => look_one Tryz.underlying90 Tryz.underlying3 (hW.trans h1) true⟩
theorem put_half {w : World} {M : Nat} {id : Int} (h : Half w M id) : ∃ b c, ∀ W : World, W.heap[M]? = w.heap[M]? → (Instr.mapUpdate 90 (.map (some M)) (.int .i64 id) (.int .i64 0)).run Tryz.prog W = .ok () (Go.ChangeMaps.setBlock W M (.map #[{ key := .int .i64 id, val := .int .i64 0, born := b }] c)) := by
  obtain ⟨es, c, h1, rfl | ⟨b, rfl⟩⟩ := h
  · exact ⟨c, c + 1, fun W hW => put_none Tryz.underlying90 Tryz.underlying3 (hW.trans h1) id (.int .i64 0)⟩
  · exact ⟨b, c, fun W hW => put_one Tryz.underlying90 Tryz.underlying3 (hW.trans h1) (.int .i64 0)⟩
end
section
open Go.RowKit Go.Maps
attribute [local go_sem ↓] setCell_drewN alloc_drewN grow_cell grow_frozen setCell_grow grow_size cell_alloc_grow frozen_alloc_grow setCell_alloc_grow cell_grow_alloc_grow frozen_grow_alloc_grow setCell_grow_alloc_grow grow_grow
attribute [local go_sem] lt_len size_setCell
set_option maxHeartbeats 2000000 in
theorem Sit87_none (s N L : Nat) (w : World) (hs : w.heap[s]? = some (.cells #[.int .i64 1, .map (some N), .map (some L)] 136 (0, 0))) :
    Calls Tryz.prog 87 #[.pointer (some ⟨s, 0, none⟩), .slice none 0 0] w fun e w' => e = .returned (.tuple #[.slice none 0 0, .int .i64 0]) ∧ Kept [s] w w' ∧ ∃ N', w.heap.size ≤ N' ∧ w'.heap[s]? = some (.cells #[.int .i64 1, .map (some N'), .map (some L)] 136 (0, 0)) ∧ w'.heap[N']? = some (.map #[] 0) := by
  have V := Values129 none 0 0 w
  have k1 : Kept [] w (w.alloc (.cells #[.slice none 0 0] 83)) := (Kept.refl _ _).alloc _
  have S := Sorted64_none 173 _ (enters_of Tryz.func173 (by kernel_rfl) rfl) _ (values_none w.heap.size (w.alloc (.cells #[.slice none 0 0] 83)) heap_alloc_new)
  have T := fun w => twice130_none w
  have hM := fun w => run_makeMap (P := Tryz.prog) 90 w
  have hB := fun w => mkBools1 w
  replace hs := Lib.hid hs
  go_enter Tryz.func87, Tryz.ntmps87
  go_wp2_with fail
  refine V.mono ?_
  rintro e w1 ⟨rfl, rfl⟩
  go_wp2_with fail
  refine S.mono ?_
  rintro e w1 ⟨rfl, k2⟩
  have k3 : Kept [] w w1 := Kept.trans k1 k2 (by simp) (by simp)
  have s1 := k3.at hs.out (by simp)
  have c0 : w1.cell? ⟨s, 0, none⟩ = some (.int .i64 1) := cell_of s1 0
  have l1 := heap_lt s1
  replace k3 := Lib.hid (And.intro k3 s1)
  clear k1 k2 s1 S V
  go_wp2_with fail
  refine (T _).mono ?_
  rintro e w2 ⟨rfl, os, q, rfl⟩
  obtain ⟨W, hW⟩ : ∃ W, ((Go.Proofs.YtgfbfklnhmndfaaGreat.grow w1 os q).alloc (.cells #[.bool false] 4)).alloc (.map #[] 0) = W := ⟨_, rfl⟩
  go_wp2_with fail
  obtain ⟨k3, s1⟩ := k3.out
  have kW : Kept [] w1 W := by rw [← hW]; exact (((Kept.refl [] w1).grow os q).alloc _).alloc _
  have sW := kW.at s1 (by simp)
  have nW : W.heap[w1.heap.size + os.length + 1]? = some (.map #[] 0) := by
    rw [← hW]
    have := heap_alloc_two (Go.Proofs.YtgfbfklnhmndfaaGreat.grow w1 os q) (.cells #[.bool false] 4) (.map #[] 0)
    rwa [grow_size] at this
  obtain ⟨TB, hTB⟩ : ∃ TB, w1.heap.size + os.length = TB := ⟨_, rfl⟩
  rw [hTB] at nW ⊢
  have hn : s < w1.heap.size := heap_lt s1
  have hk1 := k3.1
  have nes : TB + 1 ≠ s := by omega
  have geN : w.heap.size ≤ TB + 1 := by omega
  obtain ⟨NB, hNB⟩ : ∃ NB, TB + 1 = NB := ⟨_, rfl⟩
  rw [hNB] at nW nes geN ⊢
  have c1 : W.cell? ⟨s, 1, none⟩ = some (.map (some N)) := cell_of sW 1
  have c2 : W.cell? ⟨s, 2, none⟩ = some (.map (some L)) := cell_of sW 2
  have lW := heap_lt sW
  have st := Lib.hid (And.intro (Kept.trans k3 kW (U := []) (by simp) (by simp)) (And.intro sW (And.intro nW (And.intro nes geN))))
  clear k3 s1 kW sW nW hn hk1 nes geN hNB hTB hW c0 l1 hM hB T
  refine wp_region_any (by kernel_rfl) ?_
  rw [List.size_toArray]
  refine yTake (i := 10) rfl (by kernel_rfl) (fun _ _ _ h => h) (by rfl) (fun _ => by go_simp; first | done | rfl) ?_
  try simp only [Act.put, zA, zB, zC]
  refine wpAnyS_any (S := fun X => X = W.drew) (k := 8) _ _ _ ?_ _ rfl
  refine sTake (i := 0) rfl (by kernel_rfl) (fun _ _ _ h => h) (gLoad (by rfl) (fun W hW => by (try dsimp only at hW); subst hW; go_simp; first | done | rfl)) ?_
  try simp only [Act.put, zA, zB, zC]
  refine sTake (i := 1) rfl (by kernel_rfl) (fun _ _ _ h => h) (gLoad (by rfl) (fun W hW => by (try dsimp only at hW); subst hW; go_simp; first | done | rfl)) ?_
  try simp only [Act.put, zA, zB, zC]
  refine sTake (i := 2) rfl (by kernel_rfl) (fun _ _ _ h => h) (gLoad (by rfl) (fun W hW => by (try dsimp only at hW); subst hW; go_simp; first | done | rfl)) ?_
  try simp only [Act.put, zA, zB, zC]
  refine sTake (i := 3) rfl (by kernel_rfl) (fun _ _ _ h => h) (gLoad (by rfl) (fun W hW => by (try dsimp only at hW); subst hW; go_simp; first | done | rfl)) ?_
  try simp only [Act.put, zA, zB, zC]
  refine sTake (i := 4) rfl (by kernel_rfl) (fun _ _ _ h => h) (gLoad (by rfl) (fun W hW => by (try dsimp only at hW); subst hW; go_simp; first | done | rfl)) ?_
  try simp only [Act.put, zA, zB, zC]
  refine sTake (i := 5) rfl (by kernel_rfl) (fun _ _ _ h => h) (gLoad (by rfl) (fun W hW => by (try dsimp only at hW); subst hW; go_simp; first | done | rfl)) ?_
  try simp only [Act.put, zA, zB, zC]
  refine sTake (i := 6) rfl (by kernel_rfl) (fun _ _ _ h => h) (gLoad (by rfl) (fun W hW => by (try dsimp only at hW); subst hW; go_simp; first | done | rfl)) ?_
  try simp only [Act.put, zA, zB, zC]
  refine sTake (i := 7) rfl (by kernel_rfl) (fun _ _ _ h => h) (gLoad (by rfl) (fun W hW => by (try dsimp only at hW); subst hW; go_simp; first | done | rfl)) ?_
  try simp only [Act.put, zA, zB, zC]
  refine sRest (by kernel_rfl) ?_
  rintro X rfl
  refine aValW (i := 8) (v := .slice (some ⟨W.heap.size, 0, none⟩) 2 2) (w' := W.drew.alloc (.cells #[.map (some N), .map (some L)] 90)) rfl (by kernel_rfl) (by rfl) (by kernel_rfl) ?_
  try simp only [Act.put, zA, zB, zC]
  refine aVal (i := 9) (v := ?_) rfl (by kernel_rfl) (by rfl) ?_ ?_
  rotate_left 1
  · go_simp; all_goals with_reducible rfl
  try simp only [Act.put, zA, zB, zC]
  refine wpAny_done (by kernel_rfl) ?_ _
  go_wp2_with fail
  obtain ⟨k, s1, n1, nes, geN⟩ := st.out
  have kX : Kept [] w (W.drew.alloc (.cells #[.map (some N), .map (some L)] 90)) := (k.drew).alloc _
  have pX : (W.drew.alloc (.cells #[.map (some N), .map (some L)] 90)).heap[W.heap.size]? = some (.cells #[.map (some N), .map (some L)] 90 (0, 0)) := heap_alloc_new (w := W.drew)
  have sX : (W.drew.alloc (.cells #[.map (some N), .map (some L)] 90)).heap[s]? = _ := (heap_alloc (w := W.drew) (heap_lt s1)).trans s1
  have nX : (W.drew.alloc (.cells #[.map (some N), .map (some L)] 90)).heap[NB]? = _ := (heap_alloc (w := W.drew) (heap_lt n1)).trans n1
  generalize (W.drew.alloc (.cells #[.map (some N), .map (some L)] 90)) = X at *
  obtain ⟨P, hP⟩ : ∃ P, W.heap.size = P := ⟨_, rfl⟩
  rw [hP] at pX ⊢
  have p0 : X.cell? ⟨P, 0, none⟩ = some (.map (some N)) := cell_of pX 0
  have p1 : X.cell? ⟨P, 1, none⟩ = some (.map (some L)) := cell_of pX 1
  have q1 : X.cell? ⟨s, 1, none⟩ = some (.map (some N)) := cell_of sX 1
  have f1 : X.frozen? ⟨s, 1, none⟩ = false := frozen_of sX 1
  have lP := heap_lt pX
  have lX := heap_lt sX
  replace st := Lib.hid (And.intro kX (And.intro sX (And.intro nX (And.intro nes geN))))
  clear kX pX sX nX hP k s1 n1 nes geN c1 c2 lW
  refine wp_loop_rounds 3 ?_
  rw [rounds_succ]
  go_wp2_with fail
  refine wp_loop_rounds 1 ?_
  rw [rounds_succ]
  go_wp2_with fail
  rw [rounds_succ]
  go_wp2_with fail
  refine wp_loop_rounds 1 ?_
  rw [rounds_succ]
  go_wp2_with fail
  rw [rounds_succ]
  go_wp2_with fail
  refine wp_loop_rounds 1 ?_
  rw [rounds_succ]
  go_wp2_with fail
  refine wp_loop_rounds 1 ?_
  rw [rounds_succ]
  go_wp2_with fail
  go_returns
  obtain ⟨k, s1, n1, nes, geN⟩ := st.out
  refine ⟨rfl, (k.mono (by simp)).setCell _ _ (Or.inl (by simp)), NB, geN, ?_, (heap_setCell_ne (Ne.symm nes)).trans n1⟩
  rw [heap_setCell s1]
  simp
end
end Go.Proofs.YtgfbfklnhmndfaaGreat
