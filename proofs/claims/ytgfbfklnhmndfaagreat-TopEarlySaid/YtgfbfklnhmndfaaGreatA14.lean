/- The parts of the top that the law of early release walks through: part 14 of 52. -/
import Derived.Shelf.SlIterI.Sorted
import Derived.Test.YtgfbfklnhmndfaaGreatA1
import Derived.Test.YtgfbfklnhmndfaaGreatA3
import Derived.Test.YtgfbfklnhmndfaaGreatA4
import Derived.Test.YtgfbfklnhmndfaaGreatA9
import Derived.Test.YtgfbfklnhmndfaaGreatA10
namespace Go.Proofs.YtgfbfklnhmndfaaGreat
open Go.RowKit
set_option linter.unusedSimpArgs false
set_option linter.unusedVariables false
section
open Go.RowKit Go.Shelf Go.Maps Go.Sort
attribute [local go_sem ↓] setCell_drewN alloc_drewN grow_cell grow_frozen setCell_grow grow_size cell_alloc_grow frozen_alloc_grow setCell_alloc_grow cell_grow_alloc_grow frozen_grow_alloc_grow setCell_grow_alloc_grow grow_grow
attribute [local go_sem] lt_len
/-- The shelf's numbers at this program. -/
def ren : Ren := ⟨fun n => match n with | 6 => 64 | 7 => 65 | 8 => 107 | 9 => 108 | 10 => 109 | 11 => 145 | n => n, fun n => match n with | 0 => 0 | 3 => 3 | 4 => 4 | 23 => 90 | 24 => 83 | 26 => 3 | 27 => 159 | 28 => 160 | 33 => 162 | n => n, fun n => n⟩
theorem lays10 : SlLaysZI.n10 Tryz.prog ren := { mixed := by kernel_rfl, f10 := ⟨"maps.Keys[map[int]int,int,int]$1", by kernel_rfl, by kernel_rfl⟩, t0 := Tryz.underlying0, a0 := fun _ => by kernel_rfl, z0 := fun _ => by kernel_rfl, v0 := fun _ => by kernel_rfl, t4 := Tryz.underlying4, a4 := fun _ => by kernel_rfl, z4 := fun _ => by kernel_rfl, v4 := fun _ => by kernel_rfl, t23 := Tryz.underlying90, a23 := fun _ => by kernel_rfl, z23 := fun _ => by kernel_rfl, v23 := fun _ => by kernel_rfl, t26 := Tryz.underlying3, a26 := fun _ => by kernel_rfl, z26 := fun _ => by kernel_rfl, v26 := fun _ => by kernel_rfl, t33 := Tryz.underlying162, a33 := fun _ => by kernel_rfl, z33 := fun _ => by kernel_rfl, v33 := fun _ => by kernel_rfl }
theorem lays8 : SlLaysZI.n8 Tryz.prog ren := { mixed := by kernel_rfl, f8 := ⟨"slices.Collect[int]", by kernel_rfl, by kernel_rfl⟩, f11 := ⟨"slices.AppendSeq[[]int,int]", by kernel_rfl, by kernel_rfl⟩, t0 := Tryz.underlying0, a0 := fun _ => by kernel_rfl, z0 := fun _ => by kernel_rfl, v0 := fun _ => by kernel_rfl, t24 := Tryz.underlying83, a24 := fun _ => by kernel_rfl, z24 := fun _ => by kernel_rfl, v24 := fun _ => by kernel_rfl, t26 := Tryz.underlying3, a26 := fun _ => by kernel_rfl, z26 := fun _ => by kernel_rfl, v26 := fun _ => by kernel_rfl, t28 := Tryz.underlying160, a28 := fun _ => by kernel_rfl, z28 := fun _ => by kernel_rfl, v28 := fun _ => by kernel_rfl, i26 := by kernel_rfl }
/-- Collect, over an iterator that gives what S says. -/
theorem Collect107 (g : Nat) (lb : Array Value) (eg : ∀ args w, (callFunc g args).run Tryz.prog w = .ok (.enter g args) w) (S : List Int → Prop) (N : Nat) (hN : N ≤ 1000) (w : World) (hseq : SeqGives Fence.wide 1 Tryz.prog g lb encZ S N w) :
    Calls Tryz.prog 107 #[.func (.func g) #[] lb] w fun e w' => ∃ (v : Value) (ss : List Int), e = .returned v ∧ S ss ∧ w'.ownsRow w.heap.size 3 1 v ss.length (ss.map encZ) ∧ (v = .slice none 0 0 ↔ ss = []) ∧ Below w.heap.size w w' :=
  callsIn_wide.1 (AnyZI.collect_in lays8 Fence.wide 3 trivial trivial rfl (Nat.le_refl _) g lb trivial eg S N (Nat.le_trans hN (by unfold maxLen; decide)) (by omega) w hseq)
/-- A reading that reads nothing. -/
def blank : Value → Option (DataW Unit × List MemPlace) := fun _ => some (.lit (.bool true), [])
/-- A map of one entry, as the kit's laws have it. -/
theorem owns_one {w : World} {M : Nat} {x : Int} {v : Value} {b : Nat} {c : Nat} (hx : (Lit.int .i64 x).wf = true) (hbc : b < c) (hM : w.heap[M]? = some (.map #[{ key := .int .i64 x, val := v, born := b }] c)) :
    w.ownsMap (H := Unit) Tryz.prog 3 blank M 1 (.map [(.int .i64 x, .lit (.bool true))]) := by
  have hk := keyOf_int_mk Tryz.underlying3 hx
  refine ⟨_, _, hM, ⟨by unfold maxLen; simp, ?_, ?_⟩, Nat.le_refl _, ?_⟩
  · simp [Go.MapKept.Stamped, hbc]
  · intro y hy
    simp at hy
    subst hy
    simp [WideElems.rd, hk, blank]
  · simp [WideElems.rg, WideElems.rd, hk, blank, DataW.insert]
/-- Sorting what has at most one element. -/
theorem Sort191 (v : Value) (n : Nat) (hn : n < 2) (w : World) : Calls Tryz.prog 191 #[v, .int .i64 0, .int .i64 n] w (RetG (.tuple #[]) w) := by
  have hd : decide (1 < (n : Int)) = false := by simp; omega
  clear hn
  unfold RetG
  go_enter Tryz.func191, Tryz.ntmps191
  go_wp2_with fail
  go_loopw [6] (fun i wr => i = .int .i64 1 ∧ wr = w) (fun _ _ => 0)
  case atStart => exact ⟨rfl, rfl⟩
  case round =>
    obtain ⟨rfl, rfl⟩ := hrel
    go_wp2_with fail
    go_returns
    exact ⟨rfl, by repeat (first | exact gr_refl _ | apply gr_alloc | apply gr_grow | apply gr_drewN | apply gr_drew)⟩
theorem Sort146 (v : Value) (n : Nat) (k : Int) (hn : n < 2) (w : World) : Calls Tryz.prog 146 #[v, .int .i64 0, .int .i64 n, .int .i64 k] w (RetG (.tuple #[]) w) := by
  have S := fun w => Sort191 v n hn w
  have hd : decide ((n : Int) ≤ 12) = true := by simp; omega
  have hw : IntKind.i64.wrap (n : Int) = n := IntWalk.i64_in _ (by omega)
  clear hn
  unfold RetG
  go_enter Tryz.func146, Tryz.ntmps146
  go_wp2_with fail
  go_loopw [1, 2, 3, 8, 9] (fun a b c d e wr => a = .int .i64 0 ∧ b = .int .i64 n ∧ c = .int .i64 k ∧ d = .bool true ∧ e = .bool true ∧ wr = w) (fun _ _ _ _ _ _ => 0)
  case atStart => exact ⟨rfl, rfl, rfl, rfl, rfl, rfl⟩
  case round =>
    obtain ⟨rfl, rfl, rfl, rfl, rfl, rfl⟩ := hrel
    go_wp2_with fail
    refine (S _).mono ?_
    rintro e w1 ⟨rfl, os, q, rfl⟩
    go_wp2_with fail
    go_returns
    exact ⟨rfl, by repeat (first | exact gr_refl _ | apply gr_alloc | apply gr_grow | apply gr_drewN | apply gr_drew)⟩
set_option maxRecDepth 50000 in
theorem Len183_0 (w : World) : Calls Tryz.prog 183 #[.int .u64 0] w fun e w' => ∃ k : Int, e = .returned (.int .i64 k) ∧ ∃ os q, Go.Proofs.YtgfbfklnhmndfaaGreat.grow w os q = w' := by
  go_enter Tryz.func183, Tryz.ntmps183
  go_wp2_with fail
  go_returns
  exact ⟨_, rfl, by repeat (first | exact gr_refl _ | apply gr_alloc | apply gr_grow | apply gr_drewN | apply gr_drew)⟩
set_option maxRecDepth 50000 in
theorem Len183_1 (w : World) : Calls Tryz.prog 183 #[.int .u64 1] w fun e w' => ∃ k : Int, e = .returned (.int .i64 k) ∧ ∃ os q, Go.Proofs.YtgfbfklnhmndfaaGreat.grow w os q = w' := by
  go_enter Tryz.func183, Tryz.ntmps183
  go_wp2_with fail
  go_returns
  exact ⟨_, rfl, by repeat (first | exact gr_refl _ | apply gr_alloc | apply gr_grow | apply gr_drewN | apply gr_drew)⟩
theorem Len133 (n : Nat) (hn : n < 2) (w : World) : Calls Tryz.prog 133 #[.int .u64 n] w fun e w' => ∃ k : Int, e = .returned (.int .i64 k) ∧ ∃ os q, Go.Proofs.YtgfbfklnhmndfaaGreat.grow w os q = w' := by
  have L : ∀ w, Calls Tryz.prog 183 #[.int .u64 n] w fun e w' => ∃ k : Int, e = .returned (.int .i64 k) ∧ ∃ os q, Go.Proofs.YtgfbfklnhmndfaaGreat.grow w os q = w' := by
    rcases (by omega : n = 0 ∨ n = 1) with rfl | rfl
    · exact Len183_0
    · exact Len183_1
  clear hn
  go_enter Tryz.func133, Tryz.ntmps133
  go_wp2_with fail
  refine (L _).mono ?_
  rintro e w1 ⟨k, rfl, os, q, rfl⟩
  go_wp2_with fail
  go_returns
  exact ⟨_, rfl, by repeat (first | exact gr_refl _ | apply gr_alloc | apply gr_grow | apply gr_drewN | apply gr_drew)⟩
theorem Sort108 (g : Option Addr) (n c : Nat) (hn : n < 2) (w : World) : Calls Tryz.prog 108 #[.slice g n c] w (RetG (.tuple #[]) w) := by
  have L := fun w => Len133 n hn w
  have S := fun k w => Sort146 (.slice g n c) n k hn w
  have hw : IntKind.u64.wrap (n : Int) = n := IntWalk.u64_in _ (by omega)
  clear hn
  unfold RetG
  go_enter Tryz.func108, Tryz.ntmps108
  go_wp2_with fail
  refine (L _).mono ?_
  rintro e w1 ⟨k, rfl, os, q, rfl⟩
  go_wp2_with fail
  refine (RetG.grow (S k)).mono ?_
  rintro e w1 ⟨rfl, os2, q2, rfl⟩
  go_wp2_with fail
  go_returns
  exact ⟨rfl, by repeat (first | exact gr_refl _ | apply gr_alloc | apply gr_grow | apply gr_drewN | apply gr_drew)⟩
theorem kept_of_below {a b : World} (h : Below a.heap.size a b) : Kept [] a b := ⟨h.size, fun x hx _ => h.block x hx, h.os, h.tape, h.output⟩
/-- What an iterator gives that gives one number, sorted. -/
theorem Sorted64 (f : Nat) (lb : Array Value) (eg : ∀ args w, (callFunc f args).run Tryz.prog w = .ok (.enter f args) w) (x : Int) (w : World) (hseq : SeqGives Fence.wide 1 Tryz.prog f lb encZ (fun ss => ss = [x]) 1 w) :
    Calls Tryz.prog 64 #[.func (.func f) #[] lb] w fun e w' => ∃ g cap, e = .returned (.slice (some ⟨g, 0, none⟩) 1 cap) ∧ w.heap.size ≤ g ∧ w'.heap.size > g ∧ w'.cell? ⟨g, 0, none⟩ = some (.int .i64 x) ∧ Kept [] w w' := by
  have C := fun w => Collect107 f lb eg (fun ss => ss = [x]) 1 (by omega) w
  go_enter Tryz.func64, Tryz.ntmps64
  go_wp2_with fail
  refine (C _ hseq).mono ?_
  rintro e w1 ⟨v, ss, rfl, rfl, hrow, _, hb⟩
  obtain ⟨g, cap, rfl, hc1, hc2, hcell, hfr, hlt⟩ := row_elem hrow (by simp)
  have hg : w.heap.size ≤ g := by
    obtain ⟨_, h2⟩ := hrow
    rcases h2 with ⟨h2, _⟩ | ⟨g', _, _, h2, hb, _⟩
    · cases h2
    · cases h2; exact hb
  have c0 := hcell 0 (by simp)
  have S := fun w => Sort108 (some ⟨g, 0, none⟩) 1 cap (by omega) w
  have hS := Lib.hid (And.intro hg (And.intro hlt (And.intro c0 (kept_of_below hb))))
  clear hrow hb hc1 hc2 hcell hfr hg hlt c0 C hseq
  go_wp2_with fail
  refine (S _).mono ?_
  rintro e w2 ⟨rfl, os, q, rfl⟩
  go_wp2_with fail
  go_returns
  obtain ⟨h1, h2, h3, h4⟩ := hS.out
  exact ⟨g, cap, rfl, h1, by rw [grow_size]; omega, by rw [grow_cell _ _ _ _ _ h2, h3]; rfl, h4.grow os q⟩
/-- The keys of a map of one entry, sorted. -/
theorem IDs42 (s M c b : Nat) (p q r v : Value) (id : Int) (hid : (Lit.int .i64 id).wf = true) (hbc : b < c) (w : World) (hs : w.heap[s]? = some (.cells #[p, q, .map (some M), r] 133 (0, 0))) (hM : w.heap[M]? = some (.map #[{ key := .int .i64 id, val := v, born := b }] c)) :
    Calls Tryz.prog 42 #[.pointer (some ⟨s, 0, none⟩)] w fun e w' => ∃ g cap, e = .returned (.slice (some ⟨g, 0, none⟩) 1 cap) ∧ w.heap.size ≤ g ∧ w'.heap.size > g ∧ w'.cell? ⟨g, 0, none⟩ = some (.int .i64 id) ∧ Kept [] w w' := by
  have c2 : w.cell? ⟨s, 2, none⟩ = some (.map (some M)) := cell_of hs 2
  have hl := heap_lt hs
  have hMl := heap_lt hM
  have K : Calls Tryz.prog 65 #[.map (some M)] w fun e w' => e = .returned (.func (.func 109) #[] #[.pointer (some ⟨w.heap.size, 0, none⟩)]) ∧ w' = w.alloc (.cells #[.map (some M)] 90) := by
    clear c2 hs hl hM hMl
    go_enter Tryz.func65, Tryz.ntmps65
    go_wp2_with fail
    go_returns
    exact ⟨rfl, rfl⟩
  have hG : SeqGives Fence.wide 1 Tryz.prog 109 #[.pointer (some ⟨w.heap.size, 0, none⟩)] encZ (fun ss => ss = [id]) 1 (w.alloc (.cells #[.map (some M)] 90)) := by
    have h := AnyZI.keys_gives lays10 Fence.wide 1 trivial rfl (Nat.le_refl _) w.heap.size M 1 _ (w.alloc (.cells #[.map (some M)] 90)) (by simp) (cell_of heap_alloc_new 0) (owns_one hid hbc (by rw [heap_alloc hMl]; exact hM))
    intro l J W hW hJ hY h0
    refine (h l J W hW hJ hY h0).mono ?_
    rintro e W' ⟨h1, ss, h2, h3⟩
    refine ⟨h1, ss, ?_, h3⟩
    have : (intKeys (H := Unit) (.map [(.int .i64 id, .lit (.bool true))])) = [id] := rfl
    rw [this] at h2
    exact List.perm_singleton.1 h2
  have T := Sorted64 109 _ (enters_of Tryz.func109 (by kernel_rfl) rfl) id _ hG
  clear hs hM hMl hG
  go_enter Tryz.func42, Tryz.ntmps42
  go_wp2_with fail
  refine K.mono ?_
  rintro e w1 ⟨rfl, rfl⟩
  go_wp2_with fail
  refine T.mono ?_
  rintro e w1 ⟨g, cap, rfl, h1, h2, h3, h4⟩
  have hS := Lib.hid (And.intro h1 (And.intro h2 (And.intro h3 h4)))
  clear h1 h2 h3 h4
  go_wp2_with fail
  go_returns
  obtain ⟨h1, h2, h3, h4⟩ := hS.out
  exact ⟨g, cap, rfl, by simp at h1; omega, h2, h3, Kept.trans ((Kept.refl [] w).alloc _) h4 (by simp) (by simp)⟩
end
end Go.Proofs.YtgfbfklnhmndfaaGreat
