/- The parts of the top that the law of early release walks through: part 33 of 52. -/
import Derived.Test.YtgfbfklnhmndfaaGreatA1
import Derived.Test.YtgfbfklnhmndfaaGreatA3
import Derived.Test.YtgfbfklnhmndfaaGreatA9
import Derived.Test.YtgfbfklnhmndfaaGreatA10
import Derived.Test.YtgfbfklnhmndfaaGreatA15
import Derived.Test.YtgfbfklnhmndfaaGreatA20
import Derived.Test.YtgfbfklnhmndfaaGreatA21
import Derived.Test.YtgfbfklnhmndfaaGreatA24
import Derived.Test.YtgfbfklnhmndfaaGreatA29
import Derived.Test.YtgfbfklnhmndfaaGreatA30
import Derived.Test.YtgfbfklnhmndfaaGreatA32
namespace Go.Proofs.YtgfbfklnhmndfaaGreat
open Go.RowKit
set_option linter.unusedSimpArgs false
set_option linter.unusedVariables false
section
attribute [local go_sem ↓] setCell_drewN alloc_drewN grow_cell grow_frozen setCell_grow grow_size cell_alloc_grow frozen_alloc_grow setCell_alloc_grow cell_grow_alloc_grow frozen_grow_alloc_grow setCell_grow_alloc_grow grow_grow
attribute [local go_sem] lt_len size_setCell
/-- What stays of an executive with one task. -/
structure Pm where
  z : Ad
  s : Nat
  M : Nat
  L : Nat
  n : Nat
  sp : Nat
  T : Nat
  rb : Nat
  rk : Nat
  id : Int
  e : Int
  p : Int
  tasks : Int
  mode : Int
  ring : Int
  early : Bool
/-- What changes. -/
structure Dy where
  N : Nat
  act : Bool
  rel : Int
  got : Int
  cnt : Int
  clock : Int
  idle : Int
  given : Int
  jobs : Int
  seq : Int
  rest : List Value
  all : Value
  k : Nat
  xs : List Value
def RingAt (w : World) (rg rb rk : Nat) (seq : Int) : Prop := w.heap[rg]? = some (.cells #[.slice (some ⟨rb, 0, none⟩) rk rk, .int .i64 seq] 116 (0, 0)) ∧ ∃ cs, w.heap[rb]? = some (.cells cs 204 (0, 0)) ∧ cs.size = rk * 10
theorem RingAt.kept {S : List Nat} {w W : World} {rg rb rk : Nat} {seq : Int} (h : RingAt w rg rb rk seq) (hk : Kept S w W) (h1 : rg ∉ S) (h2 : rb ∉ S) : RingAt W rg rb rk seq := by
  obtain ⟨a, cs, b, d⟩ := h
  exact ⟨hk.at a h1, cs, hk.at b h2, d⟩
def WrAny (w : World) (K : Nat) (id : Int) : Prop := ∃ es c, w.heap[K]? = some (.map es c) ∧ (es = #[] ∨ ∃ b v, es = #[{ key := .int .i64 id, val := v, born := b }])
theorem WrAny.kept {S : List Nat} {w W : World} {K : Nat} {id : Int} (h : WrAny w K id) (hk : Kept S w W) (hn : K ∉ S) : WrAny W K id := by
  obtain ⟨es, c, h1, h2⟩ := h
  exact ⟨es, c, hk.at h1 hn, h2⟩
structure EX (w : World) (c : Pm) (d : Dy) : Prop where
  hx : XAt w c.z c.tasks c.mode c.ring d.clock d.idle d.given d.all
  hJ : JobsAt w c.z.j c.s c.M c.L c.n c.id c.e c.p d.act d.rel d.got d.cnt d.rest
  hQ : QuantAt w c.z.q c.sp d.N c.T c.early c.id
  hla : LagAt w c.z.la
  hb : w.heap[c.z.bk]? = some (.cells #[.slice none 0 0] 108 (0, 0))
  hm : MeterAt w c.z.m d.jobs
  hl : LastAt w c.z.ls c.id
  hr : RingAt w c.z.rg c.rb c.rk d.seq
  hw : WrAny w c.z.wr c.id
  ha : w.ownsRow 0 184 4 d.all d.k d.xs
  hd : [c.M, c.T, d.N, c.z.wr, c.z.ls].Nodup
def tgOf : Option Obj → Nat
  | some (.cells _ T _) => T + 1
  | _ => 0
abbrev tgW (w : World) (b : Nat) : Nat := tgOf w.heap[b]?
theorem tg_cells {w : World} {b : Nat} {cs : Array Value} {T : TypeId} {f : Nat × Nat} (h : w.heap[b]? = some (.cells cs T f)) : tgW w b = T + 1 := by
  unfold tgW
  rw [h]
  rfl
theorem tg_map {w : World} {b : Nat} {es : Array MapEntry} {c : Nat} (h : w.heap[b]? = some (.map es c)) : tgW w b = 0 := by
  unfold tgW
  rw [h]
  rfl
theorem tg_half {w : World} {b : Nat} {id : Int} (h : Half w b id) : tgW w b = 0 := by
  obtain ⟨es, c, h, _⟩ := h
  exact tg_map h
def blocks (c : Pm) (d : Dy) : List Nat := [c.z.x, c.z.j, c.s, c.L, c.z.q, c.sp, c.z.la, c.z.bk, c.z.rg, c.rb, c.z.m, c.M, c.T, d.N, c.z.wr, c.z.ls]
section
variable {w : World} {c : Pm} {d : Dy}
theorem EX.tgx (h : EX w c d) : tgW w c.z.x = 81 := tg_cells h.hx
theorem EX.tgj (h : EX w c d) : tgW w c.z.j = 98 := tg_cells h.hJ.hj
theorem EX.tgs (h : EX w c d) : tgW w c.s = 134 := (by obtain ⟨a, b, e, hs⟩ := h.hJ.hs; exact tg_cells hs)
theorem EX.tgL (h : EX w c d) : tgW w c.L = 144 := tg_cells h.hJ.hL
theorem EX.tgq (h : EX w c d) : tgW w c.z.q = 102 := tg_cells h.hQ.hq
theorem EX.tgsp (h : EX w c d) : tgW w c.sp = 137 := tg_cells h.hQ.hs
theorem EX.tgla (h : EX w c d) : tgW w c.z.la = 106 := (by obtain ⟨y, _, hs⟩ := h.hla; exact tg_cells hs)
theorem EX.tgbk (h : EX w c d) : tgW w c.z.bk = 109 := tg_cells h.hb
theorem EX.tgrg (h : EX w c d) : tgW w c.z.rg = 117 := tg_cells h.hr.1
theorem EX.tgrb (h : EX w c d) : tgW w c.rb = 205 := (by obtain ⟨_, cs, hs, _⟩ := h.hr; exact tg_cells hs)
theorem EX.tgm (h : EX w c d) : tgW w c.z.m = 120 := (by obtain ⟨_, _, _, _, hs⟩ := h.hm; exact tg_cells hs)
theorem EX.tgM (h : EX w c d) : tgW w c.M = 0 := tg_map h.hJ.hM
theorem EX.tgT (h : EX w c d) : tgW w c.T = 0 := tg_half h.hQ.hL
theorem EX.tgN (h : EX w c d) : tgW w d.N = 0 := tg_half h.hQ.hN
theorem EX.tgwr (h : EX w c d) : tgW w c.z.wr = 0 := (by obtain ⟨_, _, hs, _⟩ := h.hw; exact tg_map hs)
theorem EX.tgls (h : EX w c d) : tgW w c.z.ls = 0 := (by obtain ⟨_, _, hs, _⟩ := h.hl; exact tg_map hs)
theorem EX.nodup (h : EX w c d) : (blocks c d).Nodup := by
  show ([c.z.x, c.z.j, c.s, c.L, c.z.q, c.sp, c.z.la, c.z.bk, c.z.rg, c.rb, c.z.m] ++ [c.M, c.T, d.N, c.z.wr, c.z.ls]).Nodup
  refine List.nodup_append.2 ⟨?_, h.hd, ?_⟩
  · refine List.Pairwise.of_map (tgW w) (S := (· ≠ ·)) (fun a b hab => fun e => hab (by rw [e])) ?_
    simp only [List.map_cons, List.map_nil, h.tgx, h.tgj, h.tgs, h.tgL, h.tgq, h.tgsp, h.tgla, h.tgbk, h.tgrg, h.tgrb, h.tgm]
    decide
  · intro a ha b hb hab
    subst hab
    have h0 : tgW w a = 0 := by
      simp only [List.mem_cons, List.not_mem_nil, or_false] at hb
      rcases hb with rfl | rfl | rfl | rfl | rfl
      · exact h.tgM
      · exact h.tgT
      · exact h.tgN
      · exact h.tgwr
      · exact h.tgls
    simp only [List.mem_cons, List.not_mem_nil, or_false] at ha
    rcases ha with rfl | rfl | rfl | rfl | rfl | rfl | rfl | rfl | rfl | rfl | rfl
    · rw [h.tgx] at h0; cases h0
    · rw [h.tgj] at h0; cases h0
    · rw [h.tgs] at h0; cases h0
    · rw [h.tgL] at h0; cases h0
    · rw [h.tgq] at h0; cases h0
    · rw [h.tgsp] at h0; cases h0
    · rw [h.tgla] at h0; cases h0
    · rw [h.tgbk] at h0; cases h0
    · rw [h.tgrg] at h0; cases h0
    · rw [h.tgrb] at h0; cases h0
    · rw [h.tgm] at h0; cases h0
theorem ndn {l : List Nat} (h : l.Nodup) {i j : Nat} {a b : Nat} (hi : l[i]? = some a) (hj : l[j]? = some b) (hne : i ≠ j) : ¬ a = b := by
  intro e
  subst e
  exact hne ((List.getElem?_inj (List.getElem?_eq_some_iff.1 hi).1 h).1 (hi.trans hj.symm))
theorem row_tg {w : World} {v : Value} {k : Nat} {xs : List Value} (h : w.ownsRow 0 184 4 v k xs) {g : Nat} (hg : v.ownBlock = some g) : tgW w g = 185 := by
  obtain ⟨r1, r2⟩ := h
  rcases r2 with ⟨rfl, _⟩ | ⟨g', cap, cur, rfl, _, r4, _⟩
  · cases hg
  · cases hg
    exact tg_cells r4
theorem EX.keepAll (h : EX w c d) {S : List Nat} {W : World} (hk : Kept S w W) (hS : ∀ b ∈ S, tgW w b ≠ 185) : W.ownsRow 0 184 4 d.all d.k d.xs := by
  refine row_of_heap h.ha fun g hg => ?_
  have ht := row_tg h.ha hg
  have hlt : g < w.heap.size := by
    rcases Nat.lt_or_ge g w.heap.size with h' | h'
    · exact h'
    · unfold tgW at ht
      rw [Array.getElem?_eq_none h'] at ht
      cases ht
  exact hk.2 g hlt fun hin => hS g hin ht
/-- Whatever leaves an executive's blocks as they were leaves it as it was. -/
theorem EX.kept (h : EX w c d) {S : List Nat} {W : World} (hk : Kept S w W) (hS : ∀ b ∈ blocks c d, b ∉ S) (hA : ∀ g, d.all.ownBlock = some g → g ∉ S) : EX W c d := by
  have n := fun (b : Nat) (i : Nat) (hi : (blocks c d)[i]? = some b) => hS b (List.mem_of_getElem? hi)
  refine ⟨hk.at h.hx (n _ 0 rfl), h.hJ.kept hk (n _ 1 rfl) (n _ 2 rfl) (n _ 11 rfl) (n _ 3 rfl), h.hQ.kept hk (n _ 4 rfl) (n _ 5 rfl) (n _ 13 rfl) (n _ 12 rfl), h.hla.kept hk (n _ 6 rfl), hk.at h.hb (n _ 7 rfl), h.hm.kept hk (n _ 10 rfl), h.hl.kept hk (n _ 15 rfl), h.hr.kept hk (n _ 8 rfl) (n _ 9 rfl), h.hw.kept hk (n _ 14 rfl), ?_, h.hd⟩
  refine row_of_heap h.ha fun g hg => ?_
  have ht := row_tg h.ha hg
  have hlt : g < w.heap.size := by
    rcases Nat.lt_or_ge g w.heap.size with h' | h'
    · exact h'
    · unfold tgW at ht
      rw [Array.getElem?_eq_none h'] at ht
      cases ht
  exact hk.2 g hlt (hA g hg)
theorem EX.kept0 (h : EX w c d) {W : World} (hk : Kept [] w W) : EX W c d := h.kept hk (fun _ _ => by simp) (fun _ _ => by simp)
theorem EX.jobs (h : EX w c d) {W : World} (hk : Kept [c.L] w W) {act : Bool} {rel got cnt : Int} (hn : W.heap[c.L]? = some (.cells (taskL c.id c.e c.p act rel got cnt d.rest).toArray 143 (0, 0))) : EX W c { d with act := act, rel := rel, got := got, cnt := cnt } :=
  ⟨(hk.at h.hx (by simp [(ndn h.nodup (i := 0) (j := 3) rfl rfl (by decide))])),
   ⟨hk.at h.hJ.hj (by simp [(ndn h.nodup (i := 1) (j := 3) rfl rfl (by decide))]), by obtain ⟨a, b, e, hs⟩ := h.hJ.hs; exact ⟨a, b, e, hk.at hs (by simp [(ndn h.nodup (i := 2) (j := 3) rfl rfl (by decide))])⟩, hk.at h.hJ.hM (by simp [(ndn h.nodup (i := 11) (j := 3) rfl rfl (by decide))]), hn, h.hJ.hn, h.hJ.hid⟩,
   (h.hQ.kept hk (by simp [(ndn h.nodup (i := 4) (j := 3) rfl rfl (by decide))]) (by simp [(ndn h.nodup (i := 5) (j := 3) rfl rfl (by decide))]) (by simp [(ndn h.nodup (i := 13) (j := 3) rfl rfl (by decide))]) (by simp [(ndn h.nodup (i := 12) (j := 3) rfl rfl (by decide))])),
   (h.hla.kept hk (by simp [(ndn h.nodup (i := 6) (j := 3) rfl rfl (by decide))])),
   (hk.at h.hb (by simp [(ndn h.nodup (i := 7) (j := 3) rfl rfl (by decide))])),
   (h.hm.kept hk (by simp [(ndn h.nodup (i := 10) (j := 3) rfl rfl (by decide))])),
   (h.hl.kept hk (by simp [(ndn h.nodup (i := 15) (j := 3) rfl rfl (by decide))])),
   (h.hr.kept hk (by simp [(ndn h.nodup (i := 8) (j := 3) rfl rfl (by decide))]) (by simp [(ndn h.nodup (i := 9) (j := 3) rfl rfl (by decide))])),
   (h.hw.kept hk (by simp [(ndn h.nodup (i := 14) (j := 3) rfl rfl (by decide))])),
   h.keepAll hk (fun b hb => by
      simp only [List.mem_cons, List.not_mem_nil, or_false] at hb
      subst hb
      · rw [h.tgL]; decide
      ),
   h.hd⟩
theorem EX.meter (h : EX w c d) {W : World} (hk : Kept [c.z.m] w W) {jobs : Int} (hn : MeterAt W c.z.m jobs) : EX W c { d with jobs := jobs } :=
  ⟨(hk.at h.hx (by simp [(ndn h.nodup (i := 0) (j := 10) rfl rfl (by decide))])),
   (h.hJ.kept hk (by simp [(ndn h.nodup (i := 1) (j := 10) rfl rfl (by decide))]) (by simp [(ndn h.nodup (i := 2) (j := 10) rfl rfl (by decide))]) (by simp [(ndn h.nodup (i := 11) (j := 10) rfl rfl (by decide))]) (by simp [(ndn h.nodup (i := 3) (j := 10) rfl rfl (by decide))])),
   (h.hQ.kept hk (by simp [(ndn h.nodup (i := 4) (j := 10) rfl rfl (by decide))]) (by simp [(ndn h.nodup (i := 5) (j := 10) rfl rfl (by decide))]) (by simp [(ndn h.nodup (i := 13) (j := 10) rfl rfl (by decide))]) (by simp [(ndn h.nodup (i := 12) (j := 10) rfl rfl (by decide))])),
   (h.hla.kept hk (by simp [(ndn h.nodup (i := 6) (j := 10) rfl rfl (by decide))])),
   (hk.at h.hb (by simp [(ndn h.nodup (i := 7) (j := 10) rfl rfl (by decide))])),
   hn,
   (h.hl.kept hk (by simp [(ndn h.nodup (i := 15) (j := 10) rfl rfl (by decide))])),
   (h.hr.kept hk (by simp [(ndn h.nodup (i := 8) (j := 10) rfl rfl (by decide))]) (by simp [(ndn h.nodup (i := 9) (j := 10) rfl rfl (by decide))])),
   (h.hw.kept hk (by simp [(ndn h.nodup (i := 14) (j := 10) rfl rfl (by decide))])),
   h.keepAll hk (fun b hb => by
      simp only [List.mem_cons, List.not_mem_nil, or_false] at hb
      subst hb
      · rw [h.tgm]; decide
      ),
   h.hd⟩
theorem EX.lag (h : EX w c d) {W : World} (hk : Kept [c.z.la] w W) (hn : LagAt W c.z.la) : EX W c d :=
  ⟨(hk.at h.hx (by simp [(ndn h.nodup (i := 0) (j := 6) rfl rfl (by decide))])),
   (h.hJ.kept hk (by simp [(ndn h.nodup (i := 1) (j := 6) rfl rfl (by decide))]) (by simp [(ndn h.nodup (i := 2) (j := 6) rfl rfl (by decide))]) (by simp [(ndn h.nodup (i := 11) (j := 6) rfl rfl (by decide))]) (by simp [(ndn h.nodup (i := 3) (j := 6) rfl rfl (by decide))])),
   (h.hQ.kept hk (by simp [(ndn h.nodup (i := 4) (j := 6) rfl rfl (by decide))]) (by simp [(ndn h.nodup (i := 5) (j := 6) rfl rfl (by decide))]) (by simp [(ndn h.nodup (i := 13) (j := 6) rfl rfl (by decide))]) (by simp [(ndn h.nodup (i := 12) (j := 6) rfl rfl (by decide))])),
   hn,
   (hk.at h.hb (by simp [(ndn h.nodup (i := 7) (j := 6) rfl rfl (by decide))])),
   (h.hm.kept hk (by simp [(ndn h.nodup (i := 10) (j := 6) rfl rfl (by decide))])),
   (h.hl.kept hk (by simp [(ndn h.nodup (i := 15) (j := 6) rfl rfl (by decide))])),
   (h.hr.kept hk (by simp [(ndn h.nodup (i := 8) (j := 6) rfl rfl (by decide))]) (by simp [(ndn h.nodup (i := 9) (j := 6) rfl rfl (by decide))])),
   (h.hw.kept hk (by simp [(ndn h.nodup (i := 14) (j := 6) rfl rfl (by decide))])),
   h.keepAll hk (fun b hb => by
      simp only [List.mem_cons, List.not_mem_nil, or_false] at hb
      subst hb
      · rw [h.tgla]; decide
      ),
   h.hd⟩
theorem EX.last (h : EX w c d) {W : World} (hk : Kept [c.z.ls] w W) (hn : LastAt W c.z.ls c.id) : EX W c d :=
  ⟨(hk.at h.hx (by simp [(ndn h.nodup (i := 0) (j := 15) rfl rfl (by decide))])),
   (h.hJ.kept hk (by simp [(ndn h.nodup (i := 1) (j := 15) rfl rfl (by decide))]) (by simp [(ndn h.nodup (i := 2) (j := 15) rfl rfl (by decide))]) (by simp [(ndn h.nodup (i := 11) (j := 15) rfl rfl (by decide))]) (by simp [(ndn h.nodup (i := 3) (j := 15) rfl rfl (by decide))])),
   (h.hQ.kept hk (by simp [(ndn h.nodup (i := 4) (j := 15) rfl rfl (by decide))]) (by simp [(ndn h.nodup (i := 5) (j := 15) rfl rfl (by decide))]) (by simp [(ndn h.nodup (i := 13) (j := 15) rfl rfl (by decide))]) (by simp [(ndn h.nodup (i := 12) (j := 15) rfl rfl (by decide))])),
   (h.hla.kept hk (by simp [(ndn h.nodup (i := 6) (j := 15) rfl rfl (by decide))])),
   (hk.at h.hb (by simp [(ndn h.nodup (i := 7) (j := 15) rfl rfl (by decide))])),
   (h.hm.kept hk (by simp [(ndn h.nodup (i := 10) (j := 15) rfl rfl (by decide))])),
   hn,
   (h.hr.kept hk (by simp [(ndn h.nodup (i := 8) (j := 15) rfl rfl (by decide))]) (by simp [(ndn h.nodup (i := 9) (j := 15) rfl rfl (by decide))])),
   (h.hw.kept hk (by simp [(ndn h.nodup (i := 14) (j := 15) rfl rfl (by decide))])),
   h.keepAll hk (fun b hb => by
      simp only [List.mem_cons, List.not_mem_nil, or_false] at hb
      subst hb
      · rw [h.tgls]; decide
      ),
   h.hd⟩
theorem EX.wrap (h : EX w c d) {W : World} (hk : Kept [c.z.wr] w W) (hn : WrAny W c.z.wr c.id) : EX W c d :=
  ⟨(hk.at h.hx (by simp [(ndn h.nodup (i := 0) (j := 14) rfl rfl (by decide))])),
   (h.hJ.kept hk (by simp [(ndn h.nodup (i := 1) (j := 14) rfl rfl (by decide))]) (by simp [(ndn h.nodup (i := 2) (j := 14) rfl rfl (by decide))]) (by simp [(ndn h.nodup (i := 11) (j := 14) rfl rfl (by decide))]) (by simp [(ndn h.nodup (i := 3) (j := 14) rfl rfl (by decide))])),
   (h.hQ.kept hk (by simp [(ndn h.nodup (i := 4) (j := 14) rfl rfl (by decide))]) (by simp [(ndn h.nodup (i := 5) (j := 14) rfl rfl (by decide))]) (by simp [(ndn h.nodup (i := 13) (j := 14) rfl rfl (by decide))]) (by simp [(ndn h.nodup (i := 12) (j := 14) rfl rfl (by decide))])),
   (h.hla.kept hk (by simp [(ndn h.nodup (i := 6) (j := 14) rfl rfl (by decide))])),
   (hk.at h.hb (by simp [(ndn h.nodup (i := 7) (j := 14) rfl rfl (by decide))])),
   (h.hm.kept hk (by simp [(ndn h.nodup (i := 10) (j := 14) rfl rfl (by decide))])),
   (h.hl.kept hk (by simp [(ndn h.nodup (i := 15) (j := 14) rfl rfl (by decide))])),
   (h.hr.kept hk (by simp [(ndn h.nodup (i := 8) (j := 14) rfl rfl (by decide))]) (by simp [(ndn h.nodup (i := 9) (j := 14) rfl rfl (by decide))])),
   hn,
   h.keepAll hk (fun b hb => by
      simp only [List.mem_cons, List.not_mem_nil, or_false] at hb
      subst hb
      · rw [h.tgwr]; decide
      ),
   h.hd⟩
theorem EX.ringed (h : EX w c d) {W : World} (hk : Kept [c.z.rg, c.rb] w W) {seq : Int} (hn : RingAt W c.z.rg c.rb c.rk seq) : EX W c { d with seq := seq } :=
  ⟨(hk.at h.hx (by simp [(ndn h.nodup (i := 0) (j := 8) rfl rfl (by decide)), (ndn h.nodup (i := 0) (j := 9) rfl rfl (by decide))])),
   (h.hJ.kept hk (by simp [(ndn h.nodup (i := 1) (j := 8) rfl rfl (by decide)), (ndn h.nodup (i := 1) (j := 9) rfl rfl (by decide))]) (by simp [(ndn h.nodup (i := 2) (j := 8) rfl rfl (by decide)), (ndn h.nodup (i := 2) (j := 9) rfl rfl (by decide))]) (by simp [(ndn h.nodup (i := 11) (j := 8) rfl rfl (by decide)), (ndn h.nodup (i := 11) (j := 9) rfl rfl (by decide))]) (by simp [(ndn h.nodup (i := 3) (j := 8) rfl rfl (by decide)), (ndn h.nodup (i := 3) (j := 9) rfl rfl (by decide))])),
   (h.hQ.kept hk (by simp [(ndn h.nodup (i := 4) (j := 8) rfl rfl (by decide)), (ndn h.nodup (i := 4) (j := 9) rfl rfl (by decide))]) (by simp [(ndn h.nodup (i := 5) (j := 8) rfl rfl (by decide)), (ndn h.nodup (i := 5) (j := 9) rfl rfl (by decide))]) (by simp [(ndn h.nodup (i := 13) (j := 8) rfl rfl (by decide)), (ndn h.nodup (i := 13) (j := 9) rfl rfl (by decide))]) (by simp [(ndn h.nodup (i := 12) (j := 8) rfl rfl (by decide)), (ndn h.nodup (i := 12) (j := 9) rfl rfl (by decide))])),
   (h.hla.kept hk (by simp [(ndn h.nodup (i := 6) (j := 8) rfl rfl (by decide)), (ndn h.nodup (i := 6) (j := 9) rfl rfl (by decide))])),
   (hk.at h.hb (by simp [(ndn h.nodup (i := 7) (j := 8) rfl rfl (by decide)), (ndn h.nodup (i := 7) (j := 9) rfl rfl (by decide))])),
   (h.hm.kept hk (by simp [(ndn h.nodup (i := 10) (j := 8) rfl rfl (by decide)), (ndn h.nodup (i := 10) (j := 9) rfl rfl (by decide))])),
   (h.hl.kept hk (by simp [(ndn h.nodup (i := 15) (j := 8) rfl rfl (by decide)), (ndn h.nodup (i := 15) (j := 9) rfl rfl (by decide))])),
   hn,
   (h.hw.kept hk (by simp [(ndn h.nodup (i := 14) (j := 8) rfl rfl (by decide)), (ndn h.nodup (i := 14) (j := 9) rfl rfl (by decide))])),
   h.keepAll hk (fun b hb => by
      simp only [List.mem_cons, List.not_mem_nil, or_false] at hb
      rcases hb with rfl | rfl
      · rw [h.tgrg]; decide
      · rw [h.tgrb]; decide
      ),
   h.hd⟩
theorem EX.clocked (h : EX w c d) {W : World} (hk : Kept [c.z.x] w W) {clock : Int} (hn : XAt W c.z c.tasks c.mode c.ring clock d.idle d.given d.all) : EX W c { d with clock := clock } :=
  ⟨hn,
   (h.hJ.kept hk (by simp [(ndn h.nodup (i := 1) (j := 0) rfl rfl (by decide))]) (by simp [(ndn h.nodup (i := 2) (j := 0) rfl rfl (by decide))]) (by simp [(ndn h.nodup (i := 11) (j := 0) rfl rfl (by decide))]) (by simp [(ndn h.nodup (i := 3) (j := 0) rfl rfl (by decide))])),
   (h.hQ.kept hk (by simp [(ndn h.nodup (i := 4) (j := 0) rfl rfl (by decide))]) (by simp [(ndn h.nodup (i := 5) (j := 0) rfl rfl (by decide))]) (by simp [(ndn h.nodup (i := 13) (j := 0) rfl rfl (by decide))]) (by simp [(ndn h.nodup (i := 12) (j := 0) rfl rfl (by decide))])),
   (h.hla.kept hk (by simp [(ndn h.nodup (i := 6) (j := 0) rfl rfl (by decide))])),
   (hk.at h.hb (by simp [(ndn h.nodup (i := 7) (j := 0) rfl rfl (by decide))])),
   (h.hm.kept hk (by simp [(ndn h.nodup (i := 10) (j := 0) rfl rfl (by decide))])),
   (h.hl.kept hk (by simp [(ndn h.nodup (i := 15) (j := 0) rfl rfl (by decide))])),
   (h.hr.kept hk (by simp [(ndn h.nodup (i := 8) (j := 0) rfl rfl (by decide))]) (by simp [(ndn h.nodup (i := 9) (j := 0) rfl rfl (by decide))])),
   (h.hw.kept hk (by simp [(ndn h.nodup (i := 14) (j := 0) rfl rfl (by decide))])),
   h.keepAll hk (fun b hb => by
      simp only [List.mem_cons, List.not_mem_nil, or_false] at hb
      subst hb
      · rw [h.tgx]; decide
      ),
   h.hd⟩
theorem EX.counted (h : EX w c d) {W : World} (hk : Kept [c.z.x, c.z.bk, c.z.m, c.z.ls] w W) {idle given jobs : Int} (h1 : XAt W c.z c.tasks c.mode c.ring d.clock idle given d.all) (h2 : W.heap[c.z.bk]? = some (.cells #[.slice none 0 0] 108 (0, 0))) (h3 : MeterAt W c.z.m jobs) (h4 : LastAt W c.z.ls c.id) : EX W c { d with idle := idle, given := given, jobs := jobs } :=
  ⟨h1,
   (h.hJ.kept hk (by simp [(ndn h.nodup (i := 1) (j := 0) rfl rfl (by decide)), (ndn h.nodup (i := 1) (j := 7) rfl rfl (by decide)), (ndn h.nodup (i := 1) (j := 10) rfl rfl (by decide)), (ndn h.nodup (i := 1) (j := 15) rfl rfl (by decide))]) (by simp [(ndn h.nodup (i := 2) (j := 0) rfl rfl (by decide)), (ndn h.nodup (i := 2) (j := 7) rfl rfl (by decide)), (ndn h.nodup (i := 2) (j := 10) rfl rfl (by decide)), (ndn h.nodup (i := 2) (j := 15) rfl rfl (by decide))]) (by simp [(ndn h.nodup (i := 11) (j := 0) rfl rfl (by decide)), (ndn h.nodup (i := 11) (j := 7) rfl rfl (by decide)), (ndn h.nodup (i := 11) (j := 10) rfl rfl (by decide)), (ndn h.nodup (i := 11) (j := 15) rfl rfl (by decide))]) (by simp [(ndn h.nodup (i := 3) (j := 0) rfl rfl (by decide)), (ndn h.nodup (i := 3) (j := 7) rfl rfl (by decide)), (ndn h.nodup (i := 3) (j := 10) rfl rfl (by decide)), (ndn h.nodup (i := 3) (j := 15) rfl rfl (by decide))])),
   (h.hQ.kept hk (by simp [(ndn h.nodup (i := 4) (j := 0) rfl rfl (by decide)), (ndn h.nodup (i := 4) (j := 7) rfl rfl (by decide)), (ndn h.nodup (i := 4) (j := 10) rfl rfl (by decide)), (ndn h.nodup (i := 4) (j := 15) rfl rfl (by decide))]) (by simp [(ndn h.nodup (i := 5) (j := 0) rfl rfl (by decide)), (ndn h.nodup (i := 5) (j := 7) rfl rfl (by decide)), (ndn h.nodup (i := 5) (j := 10) rfl rfl (by decide)), (ndn h.nodup (i := 5) (j := 15) rfl rfl (by decide))]) (by simp [(ndn h.nodup (i := 13) (j := 0) rfl rfl (by decide)), (ndn h.nodup (i := 13) (j := 7) rfl rfl (by decide)), (ndn h.nodup (i := 13) (j := 10) rfl rfl (by decide)), (ndn h.nodup (i := 13) (j := 15) rfl rfl (by decide))]) (by simp [(ndn h.nodup (i := 12) (j := 0) rfl rfl (by decide)), (ndn h.nodup (i := 12) (j := 7) rfl rfl (by decide)), (ndn h.nodup (i := 12) (j := 10) rfl rfl (by decide)), (ndn h.nodup (i := 12) (j := 15) rfl rfl (by decide))])),
   (h.hla.kept hk (by simp [(ndn h.nodup (i := 6) (j := 0) rfl rfl (by decide)), (ndn h.nodup (i := 6) (j := 7) rfl rfl (by decide)), (ndn h.nodup (i := 6) (j := 10) rfl rfl (by decide)), (ndn h.nodup (i := 6) (j := 15) rfl rfl (by decide))])),
   h2,
   h3,
   h4,
   (h.hr.kept hk (by simp [(ndn h.nodup (i := 8) (j := 0) rfl rfl (by decide)), (ndn h.nodup (i := 8) (j := 7) rfl rfl (by decide)), (ndn h.nodup (i := 8) (j := 10) rfl rfl (by decide)), (ndn h.nodup (i := 8) (j := 15) rfl rfl (by decide))]) (by simp [(ndn h.nodup (i := 9) (j := 0) rfl rfl (by decide)), (ndn h.nodup (i := 9) (j := 7) rfl rfl (by decide)), (ndn h.nodup (i := 9) (j := 10) rfl rfl (by decide)), (ndn h.nodup (i := 9) (j := 15) rfl rfl (by decide))])),
   (h.hw.kept hk (by simp [(ndn h.nodup (i := 14) (j := 0) rfl rfl (by decide)), (ndn h.nodup (i := 14) (j := 7) rfl rfl (by decide)), (ndn h.nodup (i := 14) (j := 10) rfl rfl (by decide)), (ndn h.nodup (i := 14) (j := 15) rfl rfl (by decide))])),
   h.keepAll hk (fun b hb => by
      simp only [List.mem_cons, List.not_mem_nil, or_false] at hb
      rcases hb with rfl | rfl | rfl | rfl
      · rw [h.tgx]; decide
      · rw [h.tgbk]; decide
      · rw [h.tgm]; decide
      · rw [h.tgls]; decide
      ),
   h.hd⟩
end
end
end Go.Proofs.YtgfbfklnhmndfaaGreat
