/- The parts of the top that the law of early release walks through: part 36 of 52. -/
import Derived.Test.YtgfbfklnhmndfaaGreatA1
import Derived.Test.YtgfbfklnhmndfaaGreatA3
import Derived.Test.YtgfbfklnhmndfaaGreatA4
import Derived.Test.YtgfbfklnhmndfaaGreatA10
import Derived.Test.YtgfbfklnhmndfaaGreatA11
import Derived.Test.YtgfbfklnhmndfaaGreatA15
import Derived.Test.YtgfbfklnhmndfaaGreatA16
import Derived.Test.YtgfbfklnhmndfaaGreatA20
import Derived.Test.YtgfbfklnhmndfaaGreatA21
import Derived.Test.YtgfbfklnhmndfaaGreatA23
import Derived.Test.YtgfbfklnhmndfaaGreatA24
import Derived.Test.YtgfbfklnhmndfaaGreatA25
import Derived.Test.YtgfbfklnhmndfaaGreatA29
import Derived.Test.YtgfbfklnhmndfaaGreatA30
import Derived.Test.YtgfbfklnhmndfaaGreatA31
import Derived.Test.YtgfbfklnhmndfaaGreatA32
import Derived.Test.YtgfbfklnhmndfaaGreatA33
import Derived.Test.YtgfbfklnhmndfaaGreatA34
import Derived.Test.YtgfbfklnhmndfaaGreatA35
namespace Go.Proofs.YtgfbfklnhmndfaaGreat
open Go.RowKit
set_option linter.unusedSimpArgs false
set_option linter.unusedVariables false
section
attribute [local go_sem ↓] setCell_drewN alloc_drewN grow_cell grow_frozen setCell_grow grow_size cell_alloc_grow frozen_alloc_grow setCell_alloc_grow cell_grow_alloc_grow frozen_grow_alloc_grow setCell_grow_alloc_grow grow_grow
attribute [local go_sem] lt_len size_setCell
section
variable {w : World} {c : Pm} {d : Dy}
theorem EX.slotY (h : EX w c d) {W : World} (hk : Kept [c.L, c.sp, c.T] w W) {N : Nat} (hN : w.heap.size ≤ N) (hL : W.heap[c.L]? = some (.cells (taskL c.id c.e c.p d.act d.rel (d.got + 1) d.cnt d.rest).toArray 143 (0, 0))) (hq : QuantAt W c.z.q c.sp N c.T c.early c.id) : EX W c { d with N := N, got := d.got + 1 } :=
  ⟨(hk.at h.hx (by simp [(ndn h.nodup (i := 0) (j := 3) rfl rfl (by decide)), (ndn h.nodup (i := 0) (j := 5) rfl rfl (by decide)), (ndn h.nodup (i := 0) (j := 12) rfl rfl (by decide))])),
   ⟨hk.at h.hJ.hj (by simp [(ndn h.nodup (i := 1) (j := 3) rfl rfl (by decide)), (ndn h.nodup (i := 1) (j := 5) rfl rfl (by decide)), (ndn h.nodup (i := 1) (j := 12) rfl rfl (by decide))]), by obtain ⟨a, b, e, hs⟩ := h.hJ.hs; exact ⟨a, b, e, hk.at hs (by simp [(ndn h.nodup (i := 2) (j := 3) rfl rfl (by decide)), (ndn h.nodup (i := 2) (j := 5) rfl rfl (by decide)), (ndn h.nodup (i := 2) (j := 12) rfl rfl (by decide))])⟩, hk.at h.hJ.hM (by simp [(ndn h.nodup (i := 11) (j := 3) rfl rfl (by decide)), (ndn h.nodup (i := 11) (j := 5) rfl rfl (by decide)), (ndn h.nodup (i := 11) (j := 12) rfl rfl (by decide))]), hL, h.hJ.hn, h.hJ.hid⟩,
   hq,
   (h.hla.kept hk (by simp [(ndn h.nodup (i := 6) (j := 3) rfl rfl (by decide)), (ndn h.nodup (i := 6) (j := 5) rfl rfl (by decide)), (ndn h.nodup (i := 6) (j := 12) rfl rfl (by decide))])),
   (hk.at h.hb (by simp [(ndn h.nodup (i := 7) (j := 3) rfl rfl (by decide)), (ndn h.nodup (i := 7) (j := 5) rfl rfl (by decide)), (ndn h.nodup (i := 7) (j := 12) rfl rfl (by decide))])),
   (h.hm.kept hk (by simp [(ndn h.nodup (i := 10) (j := 3) rfl rfl (by decide)), (ndn h.nodup (i := 10) (j := 5) rfl rfl (by decide)), (ndn h.nodup (i := 10) (j := 12) rfl rfl (by decide))])),
   (h.hl.kept hk (by simp [(ndn h.nodup (i := 15) (j := 3) rfl rfl (by decide)), (ndn h.nodup (i := 15) (j := 5) rfl rfl (by decide)), (ndn h.nodup (i := 15) (j := 12) rfl rfl (by decide))])),
   (h.hr.kept hk (by simp [(ndn h.nodup (i := 8) (j := 3) rfl rfl (by decide)), (ndn h.nodup (i := 8) (j := 5) rfl rfl (by decide)), (ndn h.nodup (i := 8) (j := 12) rfl rfl (by decide))]) (by simp [(ndn h.nodup (i := 9) (j := 3) rfl rfl (by decide)), (ndn h.nodup (i := 9) (j := 5) rfl rfl (by decide)), (ndn h.nodup (i := 9) (j := 12) rfl rfl (by decide))])),
   (h.hw.kept hk (by simp [(ndn h.nodup (i := 14) (j := 3) rfl rfl (by decide)), (ndn h.nodup (i := 14) (j := 5) rfl rfl (by decide)), (ndn h.nodup (i := 14) (j := 12) rfl rfl (by decide))])),
   h.keepAll hk (fun b hb => by
      simp only [List.mem_cons, List.not_mem_nil, or_false] at hb
      rcases hb with rfl | rfl | rfl
      · rw [h.tgL]; decide
      · rw [h.tgsp]; decide
      · rw [h.tgT]; decide
      ),
   (by
    have h0 := h.hd
    have l1 := h.lt (b := c.M) (by simp [blocks])
    have l2 := h.lt (b := c.T) (by simp [blocks])
    have l3 := h.lt (b := c.z.wr) (by simp [blocks])
    have l4 := h.lt (b := c.z.ls) (by simp [blocks])
    simp only [List.nodup_cons, List.mem_cons, List.not_mem_nil, or_false, not_or] at h0 ⊢
    obtain ⟨⟨a1, a2, a3, a4⟩, ⟨b1, b2, b3⟩, ⟨c1, c2⟩, c3⟩ := h0
    exact ⟨⟨a1, Nat.ne_of_lt (Nat.lt_of_lt_of_le l1 hN), a3, a4⟩, ⟨Nat.ne_of_lt (Nat.lt_of_lt_of_le l2 hN), b2, b3⟩, ⟨Nat.ne_of_gt (Nat.lt_of_lt_of_le l3 hN), Nat.ne_of_gt (Nat.lt_of_lt_of_le l4 hN)⟩, c3⟩)⟩
theorem EX.slotN (h : EX w c d) {W : World} (hk : Kept [c.sp] w W) {N : Nat} (hN : w.heap.size ≤ N) (hq : QuantAt W c.z.q c.sp N c.T c.early c.id) : EX W c { d with N := N } :=
  ⟨(hk.at h.hx (by simp [(ndn h.nodup (i := 0) (j := 5) rfl rfl (by decide))])),
   (h.hJ.kept hk (by simp [(ndn h.nodup (i := 1) (j := 5) rfl rfl (by decide))]) (by simp [(ndn h.nodup (i := 2) (j := 5) rfl rfl (by decide))]) (by simp [(ndn h.nodup (i := 11) (j := 5) rfl rfl (by decide))]) (by simp [(ndn h.nodup (i := 3) (j := 5) rfl rfl (by decide))])),
   hq,
   (h.hla.kept hk (by simp [(ndn h.nodup (i := 6) (j := 5) rfl rfl (by decide))])),
   (hk.at h.hb (by simp [(ndn h.nodup (i := 7) (j := 5) rfl rfl (by decide))])),
   (h.hm.kept hk (by simp [(ndn h.nodup (i := 10) (j := 5) rfl rfl (by decide))])),
   (h.hl.kept hk (by simp [(ndn h.nodup (i := 15) (j := 5) rfl rfl (by decide))])),
   (h.hr.kept hk (by simp [(ndn h.nodup (i := 8) (j := 5) rfl rfl (by decide))]) (by simp [(ndn h.nodup (i := 9) (j := 5) rfl rfl (by decide))])),
   (h.hw.kept hk (by simp [(ndn h.nodup (i := 14) (j := 5) rfl rfl (by decide))])),
   h.keepAll hk (fun b hb => by
      simp only [List.mem_cons, List.not_mem_nil, or_false] at hb
      subst hb
      · rw [h.tgsp]; decide
      ),
   (by
    have h0 := h.hd
    have l1 := h.lt (b := c.M) (by simp [blocks])
    have l2 := h.lt (b := c.T) (by simp [blocks])
    have l3 := h.lt (b := c.z.wr) (by simp [blocks])
    have l4 := h.lt (b := c.z.ls) (by simp [blocks])
    simp only [List.nodup_cons, List.mem_cons, List.not_mem_nil, or_false, not_or] at h0 ⊢
    obtain ⟨⟨a1, a2, a3, a4⟩, ⟨b1, b2, b3⟩, ⟨c1, c2⟩, c3⟩ := h0
    exact ⟨⟨a1, Nat.ne_of_lt (Nat.lt_of_lt_of_le l1 hN), a3, a4⟩, ⟨Nat.ne_of_lt (Nat.lt_of_lt_of_le l2 hN), b2, b3⟩, ⟨Nat.ne_of_gt (Nat.lt_of_lt_of_le l3 hN), Nat.ne_of_gt (Nat.lt_of_lt_of_le l4 hN)⟩, c3⟩)⟩
/-- All blocks of an executive. -/
def feet (c : Pm) (d : Dy) : List Nat := blocks c d ++ d.all.ownBlock.toList
theorem EX.feet_lt (h : EX w c d) {b : Nat} (hb : b ∈ feet c d) : b < w.heap.size := by
  rcases List.mem_append.1 hb with hb | hb
  · exact h.lt hb
  · exact row_lt h.ha (by simpa using hb)
theorem EX.frame (h : EX w c d) {S : List Nat} {W : World} (k : Kept S w W) (hd : ∀ b ∈ feet c d, b ∉ S) : EX W c d :=
  h.kept k (fun b hb => hd b (List.mem_append_left _ hb)) (fun g hg => hd g (List.mem_append_right _ (by simp [hg])))
end
/-- A step touches its executive's blocks only; new ones are fresh. -/
structure Fr (c : Pm) (d : Dy) (w : World) (d' : Dy) (W : World) : Prop where
  k : Kept (feet c d) w W
  f : ∀ b ∈ feet c d', b ∈ feet c d ∨ w.heap.size ≤ b
section
variable {c : Pm} {d d' d'' : Dy} {w W V : World}
theorem Fr.refl (c : Pm) (d : Dy) (w : World) : Fr c d w d w := ⟨Kept.refl _ _, fun b hb => Or.inl hb⟩
theorem Fr.trans (h : Fr c d w d' W) (g : Fr c d' W d'' V) : Fr c d w d'' V :=
  ⟨Kept.trans h.k g.k (fun _ h => h) (fun x hx => h.f x hx), fun b hb => by
    rcases g.f b hb with h1 | h1
    · exact h.f b h1
    · exact Or.inr (Nat.le_trans h.k.1 h1)⟩
theorem Fr.of {S : List Nat} (hk : Kept S w W) (hS : ∀ b ∈ S, b ∈ feet c d ∨ w.heap.size ≤ b) (hN : d'.N = d.N ∨ w.heap.size ≤ d'.N) (hall : ∀ g, d'.all.ownBlock = some g → d.all.ownBlock = some g ∨ w.heap.size ≤ g) : Fr c d w d' W := by
  refine ⟨hk.mono hS, fun b hb => ?_⟩
  rcases List.mem_append.1 hb with hb | hb
  · simp only [blocks, List.mem_cons, List.not_mem_nil, or_false] at hb
    rcases hb with rfl | rfl | rfl | rfl | rfl | rfl | rfl | rfl | rfl | rfl | rfl | rfl | rfl | rfl | rfl | rfl
    · exact Or.inl (by simp [feet, blocks])
    · exact Or.inl (by simp [feet, blocks])
    · exact Or.inl (by simp [feet, blocks])
    · exact Or.inl (by simp [feet, blocks])
    · exact Or.inl (by simp [feet, blocks])
    · exact Or.inl (by simp [feet, blocks])
    · exact Or.inl (by simp [feet, blocks])
    · exact Or.inl (by simp [feet, blocks])
    · exact Or.inl (by simp [feet, blocks])
    · exact Or.inl (by simp [feet, blocks])
    · exact Or.inl (by simp [feet, blocks])
    · exact Or.inl (by simp [feet, blocks])
    · exact Or.inl (by simp [feet, blocks])
    · rcases hN with hN | hN
      · rw [hN]; exact Or.inl (by simp [feet, blocks])
      · exact Or.inr hN
    · exact Or.inl (by simp [feet, blocks])
    · exact Or.inl (by simp [feet, blocks])
  · have hb : d'.all.ownBlock = some b := by simpa using hb
    rcases hall b hb with h1 | h1
    · exact Or.inl (List.mem_append_right _ (by simp [h1]))
    · exact Or.inr h1
/-- Executives that share no block. -/
def Apart (c : Pm) (d : Dy) (c' : Pm) (d' : Dy) : Prop := ∀ b ∈ feet c d, b ∉ feet c' d'
theorem Apart.symm {c' : Pm} (h : Apart c d c' d') : Apart c' d' c d := fun b h1 h2 => h b h2 h1
theorem Apart.step {c' : Pm} (h : Apart c d c' d') (f : Fr c d w d'' W) (e : EX w c' d') : Apart c d'' c' d' := fun b hb hb' => by
  rcases f.f b hb with h1 | h1
  · exact h b h1 hb'
  · have := e.feet_lt hb'
    omega
theorem EX.other {c' : Pm} (e : EX w c' d') (h : Apart c d c' d') (f : Fr c d w d'' W) : EX W c' d' := e.frame f.k (h.symm)
end
set_option maxHeartbeats 1000000 in
theorem Can125_slow' (id e p rel got : Int) (he : 1 ≤ e) (hep : e ≤ p) (hp : p ≤ 1048575) (hg0 : 0 ≤ got) (hge : got < e) (clock : Int) (hc : rel ≤ clock) : ∃ b, ∀ (cnt : Int) (w : World), Calls Tryz.prog 125 #[taskV id e p true rel got cnt, .int .i64 clock, .bool false] w (RetG (.bool b) w) := by
  have T := fun cnt w => there166_yes id e p rel got cnt he hep hp hg0 hge w
  obtain ⟨k, R⟩ := Release167k e p (got + 1) he hep hp (by omega) (by omega)
  have h1 : decide (rel > clock) = false := by simp; omega
  have hw : IntKind.i64.wrap (got + 1) = got + 1 := IntWalk.i64_in _ (by omega)
  clear he hep hp hg0 hge hc
  refine ⟨decide (IntKind.i64.wrap (rel + k) ≤ clock), fun cnt w => ?_⟩
  go_enter Tryz.func125, Tryz.ntmps125
  go_wp2_with fail
  refine (T cnt _).mono ?_
  rintro e' w1 ⟨rfl, os, q, rfl⟩
  go_wp2_with fail
  refine sBegin (fun W => ∃ os q, grow (w.alloc (.cells #[.int .i64 id, .int .i64 e, .int .i64 p, .bool false, .bool false, .bool false, .bool true, .int .i64 rel, .int .i64 got, .bool false, .int .i64 cnt] 143)) os q = W) 17 (by kernel_rfl) ⟨os, q + 1, (grow_drewN ..).symm⟩ ?_
  refine sTake (i := 0) (v := ?_) rfl (by kernel_rfl) (fun _ _ _ h => h) (gLoad (by rfl) ?_) ?_
  rotate_left 1
  · intro W hW; (try dsimp only at hW); obtain ⟨os', q', hW'⟩ := hW; subst hW'; go_simp; all_goals with_reducible rfl
  try simp only [Act.put, zA, zB, zC]
  refine sTake (i := 1) (v := ?_) rfl (by kernel_rfl) (fun _ _ _ h => h) (gLoad (by rfl) ?_) ?_
  rotate_left 1
  · intro W hW; (try dsimp only at hW); obtain ⟨os', q', hW'⟩ := hW; subst hW'; go_simp; all_goals with_reducible rfl
  try simp only [Act.put, zA, zB, zC]
  refine sTake (i := 2) (v := ?_) rfl (by kernel_rfl) (fun _ _ _ h => h) (gLoad (by rfl) ?_) ?_
  rotate_left 1
  · intro W hW; (try dsimp only at hW); obtain ⟨os', q', hW'⟩ := hW; subst hW'; go_simp; all_goals with_reducible rfl
  try simp only [Act.put, zA, zB, zC]
  refine sTake (i := 3) (v := ?_) rfl (by kernel_rfl) (fun _ _ _ h => h) (gLoad (by rfl) ?_) ?_
  rotate_left 1
  · intro W hW; (try dsimp only at hW); obtain ⟨os', q', hW'⟩ := hW; subst hW'; go_simp; all_goals with_reducible rfl
  try simp only [Act.put, zA, zB, zC]
  refine sTake (i := 4) (v := ?_) rfl (by kernel_rfl) (fun _ _ _ h => h) (gLoad (by rfl) ?_) ?_
  rotate_left 1
  · intro W hW; (try dsimp only at hW); obtain ⟨os', q', hW'⟩ := hW; subst hW'; go_simp; all_goals with_reducible rfl
  try simp only [Act.put, zA, zB, zC]
  refine sTake (i := 5) (v := ?_) rfl (by kernel_rfl) (fun _ _ _ h => h) (gLoad (by rfl) ?_) ?_
  rotate_left 1
  · intro W hW; (try dsimp only at hW); obtain ⟨os', q', hW'⟩ := hW; subst hW'; go_simp; all_goals with_reducible rfl
  try simp only [Act.put, zA, zB, zC]
  refine sTake (i := 6) (v := ?_) rfl (by kernel_rfl) (fun _ _ _ h => h) (gLoad (by rfl) ?_) ?_
  rotate_left 1
  · intro W hW; (try dsimp only at hW); obtain ⟨os', q', hW'⟩ := hW; subst hW'; go_simp; all_goals with_reducible rfl
  try simp only [Act.put, zA, zB, zC]
  refine sTake (i := 7) (v := ?_) rfl (by kernel_rfl) (fun _ _ _ h => h) (gLoad (by rfl) ?_) ?_
  rotate_left 1
  · intro W hW; (try dsimp only at hW); obtain ⟨os', q', hW'⟩ := hW; subst hW'; go_simp; all_goals with_reducible rfl
  try simp only [Act.put, zA, zB, zC]
  refine sTake (i := 8) (v := ?_) rfl (by kernel_rfl) (fun _ _ _ h => h) (gLoad (by rfl) ?_) ?_
  rotate_left 1
  · intro W hW; (try dsimp only at hW); obtain ⟨os', q', hW'⟩ := hW; subst hW'; go_simp; all_goals with_reducible rfl
  try simp only [Act.put, zA, zB, zC]
  refine sTake (i := 9) (v := ?_) rfl (by kernel_rfl) (fun _ _ _ h => h) (gLoad (by rfl) ?_) ?_
  rotate_left 1
  · intro W hW; (try dsimp only at hW); obtain ⟨os', q', hW'⟩ := hW; subst hW'; go_simp; all_goals with_reducible rfl
  try simp only [Act.put, zA, zB, zC]
  refine sTake (i := 10) (v := ?_) rfl (by kernel_rfl) (fun _ _ _ h => h) (gLoad (by rfl) ?_) ?_
  rotate_left 1
  · intro W hW; (try dsimp only at hW); obtain ⟨os', q', hW'⟩ := hW; subst hW'; go_simp; all_goals with_reducible rfl
  try simp only [Act.put, zA, zB, zC]
  refine sTake (i := 11) rfl (by kernel_rfl) (fun _ _ _ h => h) (gCall (by rfl) ?_ (fun W hW => RetG.into R hW)) ?_
  · intro W hW; go_simp; all_goals with_reducible rfl
  try simp only [Act.put, zA, zB, zC]
  refine sTake (i := 12) (v := ?_) rfl (by kernel_rfl) (fun _ _ _ h => h) (gLoad (by rfl) ?_) ?_
  rotate_left 1
  · intro W hW; (try dsimp only at hW); obtain ⟨os', q', hW'⟩ := hW; subst hW'; go_simp; all_goals with_reducible rfl
  try simp only [Act.put, zA, zB, zC]
  refine sTake (i := 13) (v := ?_) rfl (by kernel_rfl) (fun _ _ _ h => h) (gLoad (by rfl) ?_) ?_
  rotate_left 1
  · intro W hW; (try dsimp only at hW); obtain ⟨os', q', hW'⟩ := hW; subst hW'; go_simp; all_goals with_reducible rfl
  try simp only [Act.put, zA, zB, zC]
  refine sTake (i := 14) (v := ?_) rfl (by kernel_rfl) (fun _ _ _ h => h) (gLoad (by rfl) ?_) ?_
  rotate_left 1
  · intro W hW; (try dsimp only at hW); obtain ⟨os', q', hW'⟩ := hW; subst hW'; go_simp; all_goals with_reducible rfl
  try simp only [Act.put, zA, zB, zC]
  refine sTake (i := 15) (v := ?_) rfl (by kernel_rfl) (fun _ _ _ h => h) (gLoad (by rfl) ?_) ?_
  rotate_left 1
  · intro W hW; (try dsimp only at hW); obtain ⟨os', q', hW'⟩ := hW; subst hW'; go_simp; all_goals with_reducible rfl
  try simp only [Act.put, zA, zB, zC]
  refine sTake (i := 16) (v := ?_) rfl (by kernel_rfl) (fun _ _ _ h => h) (gLoad (by rfl) ?_) ?_
  rotate_left 1
  · intro W hW; (try dsimp only at hW); obtain ⟨os', q', hW'⟩ := hW; subst hW'; go_simp; all_goals with_reducible rfl
  try simp only [Act.put, zA, zB, zC]
  refine sDone (by kernel_rfl) ?_
  intro W hW
  obtain ⟨os3, q3, rfl⟩ := hW
  go_wp2_with fail
  go_returns
  exact ⟨rfl, by repeat (first | exact gr_refl _ | apply gr_alloc | apply gr_grow | apply gr_drewN | apply gr_drew)⟩
end
section
attribute [local go_sem ↓] setCell_drewN alloc_drewN grow_cell grow_frozen setCell_grow grow_size cell_alloc_grow frozen_alloc_grow setCell_alloc_grow cell_grow_alloc_grow frozen_grow_alloc_grow setCell_grow_alloc_grow grow_grow
attribute [local go_sem] lt_len size_setCell
/-- An executive of one task, as a law sees it: m bounds what grows. -/
structure Inv (w : World) (c : Pm) (d : Dy) (act : Bool) (rel got clock m i : Int) : Prop where
  ex : EX w c d
  act : d.act = act
  rel : d.rel = rel
  got : d.got = got
  clk : d.clock = clock
  idle0 : 0 ≤ d.idle
  idle1 : d.idle ≤ i
  given : d.given = 0
  cnt0 : 0 ≤ d.cnt
  cnt1 : d.cnt ≤ m
  jobs0 : 0 ≤ d.jobs
  jobs1 : d.jobs ≤ m
  k1 : (d.k : Int) ≤ m
/-- What is fixed. -/
structure Fix (c : Pm) (sl : Bool) : Prop where
  mode : ModeIs c.mode sl
  e1 : 1 ≤ c.e
  ep : c.e ≤ c.p
  p1 : c.p ≤ 1024
section
variable {w : World} {c : Pm} {d : Dy} {rel got t m i : Int}
theorem rel_no (h : Inv w c d true rel got t m i) (hf : Fix c false) :
    Calls Tryz.prog 54 #[pt c.z.x] w fun e' W => e' = .returned (.tuple #[]) ∧ ∃ d', Inv W c d' true rel got t (m + 1) i ∧ Fr c d w d' W := by
  refine (release54_idle h.ex h.act hf.mode).mono ?_
  rintro e' W ⟨rfl, k⟩
  refine ⟨rfl, d, ⟨h.ex.kept0 k, h.act, h.rel, h.got, h.clk, h.idle0, ?_, h.given, h.cnt0, ?_, h.jobs0, ?_, ?_⟩, Fr.of k (by simp) (Or.inl rfl) (fun g hg => Or.inl hg)⟩
  · have := h.idle1; omega
  · have := h.cnt1; omega
  · have := h.jobs1; omega
  · have := h.k1; omega
theorem rel_go (h : Inv w c d false rel got t m i) (hf : Fix c false) (hm : m ≤ 65536) :
    Calls Tryz.prog 54 #[pt c.z.x] w fun e' W => e' = .returned (.tuple #[]) ∧ ∃ d', Inv W c d' true t 0 t (m + 1) i ∧ Fr c d w d' W := by
  have := h.cnt1
  have := h.jobs1
  have := h.k1
  have := h.idle1
  refine (release54_go h.ex h.act hf.mode h.cnt0 (by omega) h.jobs0 (by omega) (by omega)).mono ?_
  rintro e' W ⟨rfl, all, ex, k, ha, hw⟩
  have hc0 := h.cnt0
  have hj0 := h.jobs0
  refine ⟨rfl, _, ⟨ex, rfl, h.clk, rfl, h.clk, h.idle0, ?_, h.given, ?_, ?_, ?_, ?_, ?_⟩, Fr.of k ?_ (Or.inl rfl) ha⟩
  · simp only; omega
  · simp only; omega
  · simp only; omega
  · simp only; omega
  · simp only; omega
  · show ((d.k + 1 : Nat) : Int) ≤ m + 1; omega
  · intro b hb
    rcases List.mem_append.1 hb with hb | hb
    · simp only [List.mem_cons, List.not_mem_nil, or_false] at hb
      rcases hb with rfl | rfl | rfl | rfl | rfl <;> exact Or.inl (by simp [feet, blocks])
    · exact Or.inl (List.mem_append_right _ (by simp [own_sub_block hb]))
theorem end_yes (h : Inv w c d true rel got t m i) (hf : Fix c false) (hr0 : 0 ≤ rel) (hrc : rel ≤ t) (hc : t ≤ 65536) (hg0 : 0 ≤ got) (hg : got ≤ 1024) (hdue : rel + c.p ≤ t) :
    Calls Tryz.prog 63 #[pt c.z.x] w fun e' W => e' = .returned (.tuple #[]) ∧ ∃ d', Inv W c d' false 0 0 t m i ∧ Fr c d w d' W := by
  obtain ⟨ex, act, rfl, rfl, rfl, i0, i1, gv, n0, n1, j0, j1, k1⟩ := h
  refine (settle63_due ex act hf.mode hf.e1 hf.ep hf.p1 hr0 hrc hc hg0 hg hdue).mono ?_
  rintro e' W ⟨rfl, ex', k⟩
  refine ⟨rfl, _, ⟨ex', rfl, rfl, rfl, rfl, i0, i1, gv, n0, n1, j0, j1, k1⟩, Fr.of k ?_ (Or.inl rfl) (fun g hg => Or.inl hg)⟩
  intro b hb
  simp only [List.mem_cons, List.not_mem_nil, or_false] at hb
  rcases hb with rfl | rfl | rfl <;> exact Or.inl (by simp [feet, blocks])
theorem end_no (h : Inv w c d true rel got t m i) (hf : Fix c false) (hr0 : 0 ≤ rel) (hrc : rel ≤ t) (hc : t ≤ 65536) (hg0 : 0 ≤ got) (hg : got ≤ 1024) (hdue : ¬ rel + c.p ≤ t) :
    Calls Tryz.prog 63 #[pt c.z.x] w fun e' W => e' = .returned (.tuple #[]) ∧ ∃ d', Inv W c d' true rel got t m i ∧ Fr c d w d' W := by
  obtain ⟨ex, act, rfl, rfl, rfl, i0, i1, gv, n0, n1, j0, j1, k1⟩ := h
  refine (settle63_not ex act hf.mode hf.e1 hf.ep hf.p1 hr0 hrc hc hg0 hg hdue).mono ?_
  rintro e' W ⟨rfl, ex', k⟩
  refine ⟨rfl, _, ⟨ex', act, rfl, rfl, rfl, i0, i1, gv, n0, n1, j0, j1, k1⟩, Fr.of k ?_ (Or.inl rfl) (fun g hg => Or.inl hg)⟩
  intro b hb
  simp only [List.mem_cons, List.not_mem_nil, or_false] at hb
  rcases hb with rfl | rfl | rfl <;> exact Or.inl (by simp [feet, blocks])
end
end
section
attribute [local go_sem ↓] setCell_drewN alloc_drewN grow_cell grow_frozen setCell_grow grow_size cell_alloc_grow frozen_alloc_grow setCell_alloc_grow cell_grow_alloc_grow frozen_grow_alloc_grow setCell_grow_alloc_grow grow_grow
attribute [local go_sem] lt_len size_setCell
section
variable {w : World} {c : Pm} {d : Dy} {act sl : Bool} {rel got t m i : Int}
theorem Inv.x (h : Inv w c d act rel got t m i) : w.heap[c.z.x]? = some (.cells (exC c.z c.tasks c.mode c.ring t d.idle d.given d.all) 80 (0, 0)) := by
  have := h.ex.hx
  unfold XAt at this
  rw [h.clk] at this
  exact this
theorem Inv.kept0 (h : Inv w c d act rel got t m i) {W : World} (k : Kept [] w W) : Inv W c d act rel got t m i :=
  ⟨h.ex.kept0 k, h.act, h.rel, h.got, h.clk, h.idle0, h.idle1, h.given, h.cnt0, h.cnt1, h.jobs0, h.jobs1, h.k1⟩
theorem Fr.kept0 {d' : Dy} {W V : World} (h : Fr c d w d' W) (k : Kept [] W V) : Fr c d w d' V := h.trans (Fr.of k (by simp) (Or.inl rfl) (fun g hg => Or.inl hg))
theorem EX.feet_tg (h : EX w c d) {b : Nat} (hb : b ∈ feet c d) : tgW w b ≠ 54 := by
  rcases List.mem_append.1 hb with hb | hb
  · simp only [blocks, List.mem_cons, List.not_mem_nil, or_false] at hb
    rcases hb with rfl | rfl | rfl | rfl | rfl | rfl | rfl | rfl | rfl | rfl | rfl | rfl | rfl | rfl | rfl | rfl
    · rw [h.tgx]; decide
    · rw [h.tgj]; decide
    · rw [h.tgs]; decide
    · rw [h.tgL]; decide
    · rw [h.tgq]; decide
    · rw [h.tgsp]; decide
    · rw [h.tgla]; decide
    · rw [h.tgbk]; decide
    · rw [h.tgrg]; decide
    · rw [h.tgrb]; decide
    · rw [h.tgm]; decide
    · rw [h.tgM]; decide
    · rw [h.tgT]; decide
    · rw [h.tgN]; decide
    · rw [h.tgwr]; decide
    · rw [h.tgls]; decide
  · have hb : d.all.ownBlock = some b := by simpa using hb
    rw [row_tg h.ha hb]
    decide
theorem EX.feet_not (h : EX w c d) {b : Nat} {cs : Array Value} (hb : w.heap[b]? = some (.cells cs 53 (0, 0))) : b ∉ feet c d := fun hin => h.feet_tg hin (tg_cells hb)
theorem slot_yes (h : Inv w c d true rel got t m i) (hf : Fix c sl) (hg0 : 0 ≤ got) (hg : got < c.e) (ht0 : 0 ≤ t) (ht : t ≤ 65535) (C : ∀ cnt W, Calls Tryz.prog 125 #[taskV c.id c.e c.p true rel got cnt, .int .i64 t, .bool c.early] W (RetG (.bool true) W)) :
    Calls Tryz.prog 56 #[pt c.z.q, pt c.z.j, .int .i64 t] w fun e' W => ∃ G cap cur, e' = .returned (.slice (some ⟨G, 0, none⟩) 1 cap) ∧ 1 ≤ cap ∧ w.heap.size ≤ G ∧ W.heap[G]? = some (.cells (pieceL 1 0 c.id t 1 (t + 1) 1 false cur).toArray 53 (0, 0)) ∧ ∃ d', Inv W c d' true rel (got + 1) t m i ∧ Fr c d w d' W := by
  obtain ⟨ex, act, rfl, rfl, rfl, i0, i1, gv, n0, n1, j0, j1, k1⟩ := h
  have hJ := ex.hJ
  rw [act] at hJ
  have e1 := hf.e1
  have ep := hf.ep
  have p1 := hf.p1
  refine (Slot56_yes hJ c.z.q c.sp d.N c.T c.early ex.hQ (ndn ex.nodup (i := 11) (j := 12) rfl rfl (by decide)) d.clock (by omega) hg0 (by omega) ht0 (by omega) (C _) (fun W => Rank127 c.id c.e c.p d.rel d.got d.cnt e1 ep (by omega) hg0 hg W)).mono ?_
  rintro e' W ⟨G, cap, cur, rfl, h1, h2, h3, k, hL, N', hN, hQ⟩
  refine ⟨G, cap, cur, rfl, h1, h2, h3, _, ⟨ex.slotY k hN (by rw [act]; exact hL) hQ, act, rfl, rfl, rfl, i0, i1, gv, n0, n1, j0, j1, k1⟩, Fr.of k ?_ (Or.inr hN) (fun g hg => Or.inl hg)⟩
  intro b hb
  simp only [List.mem_cons, List.not_mem_nil, or_false] at hb
  rcases hb with rfl | rfl | rfl <;> exact Or.inl (by simp [feet, blocks])
theorem slot_no (h : Inv w c d true rel got t m i) (C : ∀ cnt W, Calls Tryz.prog 125 #[taskV c.id c.e c.p true rel got cnt, .int .i64 t, .bool c.early] W (RetG (.bool false) W)) :
    Calls Tryz.prog 56 #[pt c.z.q, pt c.z.j, .int .i64 t] w fun e' W => e' = .returned (.slice none 0 0) ∧ ∃ d', Inv W c d' true rel got t m i ∧ Fr c d w d' W := by
  obtain ⟨ex, act, rfl, rfl, rfl, i0, i1, gv, n0, n1, j0, j1, k1⟩ := h
  have hJ := ex.hJ
  rw [act] at hJ
  refine (Slot56_no hJ c.z.q c.sp d.N c.T c.early ex.hQ (ndn ex.nodup (i := 11) (j := 12) rfl rfl (by decide)) d.clock (C _)).mono ?_
  rintro e' W ⟨rfl, k, N', hN, hQ⟩
  refine ⟨rfl, _, ⟨ex.slotN k hN hQ, act, rfl, rfl, rfl, i0, i1, gv, n0, n1, j0, j1, k1⟩, Fr.of k ?_ (Or.inr hN) (fun g hg => Or.inl hg)⟩
  intro b hb
  simp only [List.mem_cons, List.not_mem_nil, or_false] at hb
  rcases hb with rfl <;> exact Or.inl (by simp [feet, blocks])
theorem count_yes (h : Inv w c d act rel got t m i) (hi : i ≤ 65536) (ht0 : 0 ≤ t) (ht : t ≤ 65535) {G cap : Nat} {cur : List Value} (hG : w.heap[G]? = some (.cells (pieceL 1 0 c.id t 1 (t + 1) 1 false cur).toArray 53 (0, 0))) :
    Calls Tryz.prog 57 #[pt c.z.x, .slice (some ⟨G, 0, none⟩) 1 cap] w fun e' W => e' = .returned (.tuple #[]) ∧ ∃ d', Inv W c d' act rel got t m i ∧ Fr c d w d' W := by
  obtain ⟨ex, act, rfl, rfl, rfl, i0, i1, gv, n0, n1, j0, j1, k1⟩ := h
  refine (count57_one c.z c.tasks c.mode c.ring d.clock d.idle d.given d.jobs c.id d.all G cap cur w ex.hx ex.hb ex.hm ex.hl hG i0 (by omega) (by omega) (by omega) ht0 (by omega)).mono ?_
  rintro e' W ⟨rfl, hx, hb, hm', hl, k⟩
  refine ⟨rfl, _, ⟨ex.counted k hx hb hm' hl, act, rfl, rfl, rfl, i0, i1, gv, n0, n1, j0, j1, k1⟩, Fr.of k ?_ (Or.inl rfl) (fun g hg => Or.inl hg)⟩
  intro b hb
  simp only [List.mem_cons, List.not_mem_nil, or_false] at hb
  rcases hb with rfl | rfl | rfl | rfl <;> exact Or.inl (by simp [feet, blocks])
theorem count_none (h : Inv w c d act rel got t m i) (hi : i ≤ 65536) :
    Calls Tryz.prog 57 #[pt c.z.x, .slice none 0 0] w fun e' W => e' = .returned (.tuple #[]) ∧ ∃ d', Inv W c d' act rel got t m (i + 1) ∧ Fr c d w d' W := by
  obtain ⟨ex, act, rfl, rfl, rfl, i0, i1, gv, n0, n1, j0, j1, k1⟩ := h
  refine (count57_none c.z c.tasks c.mode c.ring d.clock d.idle d.given d.all w ex.hx ex.hb i0 (by omega) (by omega) (by omega)).mono ?_
  rintro e' W ⟨rfl, hx, hb, k⟩
  have nm : c.z.m ∉ [c.z.x, c.z.bk] := by simp [(ndn ex.nodup (i := 10) (j := 0) rfl rfl (by decide)), (ndn ex.nodup (i := 10) (j := 7) rfl rfl (by decide))]
  have nl : c.z.ls ∉ [c.z.x, c.z.bk] := by simp [(ndn ex.nodup (i := 15) (j := 0) rfl rfl (by decide)), (ndn ex.nodup (i := 15) (j := 7) rfl rfl (by decide))]
  refine ⟨rfl, _, ⟨ex.counted (k.mono (fun x hx => Or.inl (by simp only [List.mem_cons, List.not_mem_nil, or_false] at hx ⊢; rcases hx with h | h <;> simp [h]))) hx hb (ex.hm.kept k nm) (ex.hl.kept k nl), act, rfl, rfl, rfl, ?_, ?_, gv, n0, n1, j0, j1, k1⟩, Fr.of k ?_ (Or.inl rfl) (fun g hg => Or.inl hg)⟩
  · simp only; omega
  · simp only; omega
  intro b hb
  simp only [List.mem_cons, List.not_mem_nil, or_false] at hb
  rcases hb with rfl | rfl <;> exact Or.inl (by simp [feet, blocks])
theorem ring_none (h : Inv w c d act rel got t m i) (hrk : c.rk = 0) (clock a b e n1 d1 n2 d2 : Int) (sl : Bool) :
    Calls Tryz.prog 61 #[pt c.z.rg, .int .i64 clock, .agg #[.int .i64 a, .int .i64 b, .int .i64 e, .int .i64 n1, .int .i64 d1, .int .i64 n2, .int .i64 d2, .bool sl]] w fun e' W => (∃ y, e' = .returned (.int .i64 y)) ∧ ∃ d', Inv W c d' act rel got t m i ∧ Fr c d w d' W := by
  obtain ⟨ex, act, rfl, rfl, rfl, i0, i1, gv, n0, n1', j0, j1, k1⟩ := h
  have hr := ex.hr
  rw [hrk] at hr
  have nb : c.rb ∉ [c.z.rg] := by simp [(ndn ex.nodup (i := 9) (j := 8) rfl rfl (by decide))]
  refine (Put61_0 c.z.rg _ d.seq clock a b e n1 d1 n2 d2 sl w hr.1).mono ?_
  rintro e' W ⟨hy, k, h1⟩
  obtain ⟨_, cs, hb, hcs⟩ := hr
  refine ⟨hy, _, ⟨ex.ringed (seq := wrap64 (d.seq + 1)) (k.mono (fun x hx => Or.inl (by simp only [List.mem_cons, List.not_mem_nil, or_false] at hx ⊢; exact Or.inl hx))) (by rw [hrk]; exact ⟨h1, cs, k.at hb nb, hcs⟩), act, rfl, rfl, rfl, i0, i1, gv, n0, n1', j0, j1, k1⟩, Fr.of k ?_ (Or.inl rfl) (fun g hg => Or.inl hg)⟩
  intro b hb
  simp only [List.mem_cons, List.not_mem_nil, or_false] at hb
  rcases hb with rfl <;> exact Or.inl (by simp [feet, blocks])
theorem ticks_add (h : Inv w c d act rel got t m i) :
    Calls Tryz.prog 62 #[pt c.z.m, .int .i64 0, .int .i64 1] w fun e' W => (∃ y, e' = .returned (.int .i64 y)) ∧ ∃ d', Inv W c d' act rel got t m i ∧ Fr c d w d' W := by
  obtain ⟨ex, act, rfl, rfl, rfl, i0, i1, gv, n0, n1', j0, j1, k1⟩ := h
  refine (meter_add (k := 0) (n := 1) ex.hm (by omega)).mono ?_
  rintro e' W ⟨hy, k, h1⟩
  refine ⟨hy, _, ⟨ex.meter k h1, act, rfl, rfl, rfl, i0, i1, gv, n0, n1', j0, j1, k1⟩, Fr.of k ?_ (Or.inl rfl) (fun g hg => Or.inl hg)⟩
  intro b hb
  simp only [List.mem_cons, List.not_mem_nil, or_false] at hb
  rcases hb with rfl <;> exact Or.inl (by simp [feet, blocks])
theorem Inv.clocked (h : Inv w c d act rel got t m i) (u : Int) : ∃ d', Inv (w.setCell ⟨c.z.x, 5, none⟩ (.int .i64 u)) c d' act rel got u m i ∧ Fr c d w d' (w.setCell ⟨c.z.x, 5, none⟩ (.int .i64 u)) := by
  have hx := heap_setCell (i := 5) (v := .int .i64 u) h.x
  obtain ⟨ex, act, rfl, rfl, rfl, i0, i1, gv, n0, n1', j0, j1, k1⟩ := h
  have k : Kept [c.z.x] w (w.setCell ⟨c.z.x, 5, none⟩ (.int .i64 u)) := (Kept.refl _ _).setCell _ _ (Or.inl (by simp))
  refine ⟨_, ⟨ex.clocked k (clock := u) hx, act, rfl, rfl, rfl, i0, i1, gv, n0, n1', j0, j1, k1⟩, Fr.of k ?_ (Or.inl rfl) (fun g hg => Or.inl hg)⟩
  intro b hb
  simp only [List.mem_cons, List.not_mem_nil, or_false] at hb
  rcases hb with rfl <;> exact Or.inl (by simp [feet, blocks])
end
end
section
attribute [local go_sem ↓] setCell_drewN alloc_drewN grow_cell grow_frozen setCell_grow grow_size cell_alloc_grow frozen_alloc_grow setCell_alloc_grow cell_grow_alloc_grow frozen_grow_alloc_grow setCell_grow_alloc_grow grow_grow
attribute [local go_sem] lt_len size_setCell
set_option maxHeartbeats 4000000 in
theorem tick_one {w : World} {c : Pm} {d : Dy} {act a2 : Bool} {rel got rel1 got1 r2 g2 t m i : Int} (h : Inv w c d act rel got t m i) (hf : Fix c false) (hrk : c.rk = 0) (ht0 : 0 ≤ t) (ht : t ≤ 65535) (hi : i ≤ 65536)
    (hR : Calls Tryz.prog 54 #[pt c.z.x] w fun e' W => e' = .returned (.tuple #[]) ∧ ∃ d', Inv W c d' true rel1 got1 t (m + 1) i ∧ Fr c d w d' W)
    (hC : ∀ cnt W, Calls Tryz.prog 125 #[taskV c.id c.e c.p true rel1 got1 cnt, .int .i64 t, .bool c.early] W (RetG (.bool true) W)) (hg0 : 0 ≤ got1) (hg : got1 < c.e)
    (hE : ∀ W d', Inv W c d' true rel1 (got1 + 1) (t + 1) (m + 1) i → Calls Tryz.prog 63 #[pt c.z.x] W fun e' V => e' = .returned (.tuple #[]) ∧ ∃ d'', Inv V c d'' a2 r2 g2 (t + 1) (m + 1) i ∧ Fr c d' W d'' V) :
    Calls Tryz.prog 41 #[pt c.z.x] w fun e' W => ∃ G cap, e' = .returned (.slice (some ⟨G, 0, none⟩) 1 cap) ∧ ∃ d', Inv W c d' a2 r2 g2 (t + 1) (m + 1) i ∧ Fr c d w d' W := by
  have hw : IntKind.i64.wrap (t + 1) = t + 1 := IntWalk.i64_in _ (by omega)
  go_enter Tryz.func41, Tryz.ntmps41
  go_wp2_with fail
  refine hR.mono ?_
  rintro e' w1 ⟨rfl, d1, i1, f1⟩
  have hx1 := i1.x
  have c5 : w1.cell? ⟨c.z.x, 5, none⟩ = some (.int .i64 t) := cell_of hx1 5
  have c7 : w1.cell? ⟨c.z.x, 7, none⟩ = some (.pointer (some ⟨c.z.j, 0, none⟩)) := cell_of hx1 7
  have c8 : w1.cell? ⟨c.z.x, 8, none⟩ = some (.pointer (some ⟨c.z.q, 0, none⟩)) := cell_of hx1 8
  have lx := heap_lt hx1
  have i1' := i1.kept0 ((Kept.refl [] w1).drew)
  have S := slot_yes i1' hf hg0 hg ht0 ht hC
  have O := slots55 (w := w1) (z := c.z) i1.ex.hx hf.mode
  have st := Lib.hid (And.intro i1 (f1.kept0 ((Kept.refl [] w1).drew)))
  clear hx1 i1 f1 i1' hR h hC
  go_wp2_with fail
  refine O.mono ?_
  rintro e' w2 ⟨rfl, rfl⟩
  go_wp2_with fail
  refine wp_region_any (by kernel_rfl) ?_
  rw [List.size_toArray]
  refine wpAnyS_any (S := fun X => X = w1.drew) (k := 12) _ _ _ ?_ _ rfl
  refine sTake (i := 0) rfl (by kernel_rfl) (fun _ _ _ h => h) (gLoad (by rfl) (fun W hW => by (try dsimp only at hW); subst hW; go_simp; first | done | rfl)) ?_
  try simp only [Act.put, zA, zB, zC]
  refine sTake (i := 1) rfl (by kernel_rfl) (fun _ _ _ h => h) (gLoad (by rfl) (fun W hW => by (try dsimp only at hW); subst hW; go_simp; first | done | rfl)) ?_
  try simp only [Act.put, zA, zB, zC]
  refine sTake (i := 2) rfl (by kernel_rfl) (fun _ _ _ h => h) (gLoad (by rfl) (fun W hW => by (try dsimp only at hW); subst hW; go_simp; first | done | rfl)) ?_
  try simp only [Act.put, zA, zB, zC]
  refine sTake (i := 3) rfl (by kernel_rfl) (fun _ _ _ h => h) (gLoad (by rfl) (fun W hW => by (try dsimp only at hW); subst hW; go_simp; first | done | rfl)) ?_
  try simp only [Act.put, zA, zB, zC]
  refine sTake (i := 4) rfl (by kernel_rfl) (fun _ _ _ h => h) (gLoad (by rfl) (fun W hW => by (try dsimp only at hW); subst hW; go_simp; first | done | rfl)) ?_
  try simp only [Act.put, zA, zB, zC]
  refine sTake (i := 5) rfl (by kernel_rfl) (fun _ _ _ h => h) (gLoad (by rfl) (fun W hW => by (try dsimp only at hW); subst hW; go_simp; first | done | rfl)) ?_
  try simp only [Act.put, zA, zB, zC]
  refine sTake (i := 6) rfl (by kernel_rfl) (fun _ _ _ h => h) (gLoad (by rfl) (fun W hW => by (try dsimp only at hW); subst hW; go_simp; first | done | rfl)) ?_
  try simp only [Act.put, zA, zB, zC]
  refine sTake (i := 7) rfl (by kernel_rfl) (fun _ _ _ h => h) (gLoad (by rfl) (fun W hW => by (try dsimp only at hW); subst hW; go_simp; first | done | rfl)) ?_
  try simp only [Act.put, zA, zB, zC]
  refine sTake (i := 8) rfl (by kernel_rfl) (fun _ _ _ h => h) (gLoad (by rfl) (fun W hW => by (try dsimp only at hW); subst hW; go_simp; first | done | rfl)) ?_
  try simp only [Act.put, zA, zB, zC]
  refine sTake (i := 9) rfl (by kernel_rfl) (fun _ _ _ h => h) (gLoad (by rfl) (fun W hW => by (try dsimp only at hW); subst hW; go_simp; first | done | rfl)) ?_
  try simp only [Act.put, zA, zB, zC]
  refine sTake (i := 10) rfl (by kernel_rfl) (fun _ _ _ h => h) (gLoad (by rfl) (fun W hW => by (try dsimp only at hW); subst hW; go_simp; first | done | rfl)) ?_
  try simp only [Act.put, zA, zB, zC]
  refine sTake (i := 11) rfl (by kernel_rfl) (fun _ _ _ h => h) (gLoad (by rfl) (fun W hW => by (try dsimp only at hW); subst hW; go_simp; first | done | rfl)) ?_
  try simp only [Act.put, zA, zB, zC]
  refine sRest (by kernel_rfl) ?_
  rintro X rfl
  clear c5 c7 c8 lx
  refine aCall (i := 12) rfl (by kernel_rfl) (by rfl) (by go_simp; first | done | rfl | exact ⟨rfl, rfl⟩) (S.mono ?_)
  rintro e' w3 ⟨G, cap, cur, rfl, hcap, hG1, hG, d3, i3, f3⟩
  refine ⟨_, rfl, ?_⟩
  try simp only [Act.put, zA, zB, zC]
  refine aVal (i := 13) (v := ?_) rfl (by kernel_rfl) (by rfl) ?_ ?_
  rotate_left 1
  · go_simp; all_goals with_reducible rfl
  try simp only [Act.put, zA, zB, zC]
  refine wpAny_done (by kernel_rfl) ?_ _
  have C := count_yes i3 hi ht0 ht (cap := cap) hG
  have nG := i3.ex.feet_not hG
  have fr := st.out.2.trans f3
  replace st := Lib.hid (And.intro fr hG)
  clear S fr i3 f3 hG1 hG O
  go_wp2_with fail
  refine C.mono ?_
  rintro e' w4 ⟨rfl, d4, i4, f4⟩
  have hG4 := f4.k.at st.out.2 nG
  have O := slices30 (w := w4) (z := c.z) i4.ex.hx hf.mode
  have fr := st.out.1.trans f4
  replace st := Lib.hid (And.intro i4 fr)
  clear C nG f4 i4 fr
  have p0 : w4.cell? ⟨G, 0, none⟩ = some (.int .i64 1) := cell_of hG4 0
  have p1 : w4.cell? ⟨G, 1, none⟩ = some (.int .i64 0) := cell_of hG4 1
  have p2 : w4.cell? ⟨G, 2, none⟩ = some (.int .i64 c.id) := cell_of hG4 2
  have p3 : w4.cell? ⟨G, 3, none⟩ = some (.int .i64 t) := cell_of hG4 3
  have p4 : w4.cell? ⟨G, 4, none⟩ = some (.int .i64 1) := cell_of hG4 4
  have p5 : w4.cell? ⟨G, 5, none⟩ = some (.int .i64 (t + 1)) := cell_of hG4 5
  have p6 : w4.cell? ⟨G, 6, none⟩ = some (.int .i64 1) := cell_of hG4 6
  have p7 : w4.cell? ⟨G, 7, none⟩ = some (.bool false) := cell_of hG4 7
  have lG := heap_lt hG4
  clear hG4
  go_wp2_with fail
  refine O.mono ?_
  rintro e' w5 ⟨rfl, rfl⟩
  go_wp2_with fail
  refine wp_loop_rounds 2 ?_
  rw [rounds_succ]
  go_wp2_with fail
  have kA : Kept [] w4 (w4.alloc (.cells #[.int .i64 1, .int .i64 0, .int .i64 c.id, .int .i64 t, .int .i64 1, .int .i64 (t + 1), .int .i64 1, .bool false] 53)) := (Kept.refl _ _).alloc _
  have hB : (w4.alloc (.cells #[.int .i64 1, .int .i64 0, .int .i64 c.id, .int .i64 t, .int .i64 1, .int .i64 (t + 1), .int .i64 1, .bool false] 53)).heap[w4.heap.size]? = some (.cells #[.int .i64 1, .int .i64 0, .int .i64 c.id, .int .i64 t, .int .i64 1, .int .i64 (t + 1), .int .i64 1, .bool false] 53) := heap_alloc_new
  have i5 := st.out.1.kept0 kA
  have f5 := st.out.2.kept0 kA
  obtain ⟨B8, hB8⟩ : ∃ B, w4.heap.size = B := ⟨_, rfl⟩
  obtain ⟨V, hV⟩ : ∃ V, w4.alloc (.cells #[.int .i64 1, .int .i64 0, .int .i64 c.id, .int .i64 t, .int .i64 1, .int .i64 (t + 1), .int .i64 1, .bool false] 53) = V := ⟨_, rfl⟩
  rw [hV] at i5 f5
  rw [hV, hB8] at hB
  try rw [hV]
  try rw [hB8]
  have hx5 := i5.x
  have c5 : V.cell? ⟨c.z.x, 5, none⟩ = some (.int .i64 t) := cell_of hx5 5
  have c12 : V.cell? ⟨c.z.x, 12, none⟩ = some (.pointer (some ⟨c.z.rg, 0, none⟩)) := cell_of hx5 12
  have q0 : V.cell? ⟨B8, 0, none⟩ = some (.int .i64 1) := cell_of hB 0
  have q1 : V.cell? ⟨B8, 1, none⟩ = some (.int .i64 0) := cell_of hB 1
  have q2 : V.cell? ⟨B8, 2, none⟩ = some (.int .i64 c.id) := cell_of hB 2
  have q3 : V.cell? ⟨B8, 3, none⟩ = some (.int .i64 t) := cell_of hB 3
  have q4 : V.cell? ⟨B8, 4, none⟩ = some (.int .i64 1) := cell_of hB 4
  have q5 : V.cell? ⟨B8, 5, none⟩ = some (.int .i64 (t + 1)) := cell_of hB 5
  have q6 : V.cell? ⟨B8, 6, none⟩ = some (.int .i64 1) := cell_of hB 6
  have q7 : V.cell? ⟨B8, 7, none⟩ = some (.bool false) := cell_of hB 7
  have lx := heap_lt hx5
  have lB := heap_lt hB
  have R := ring_none (i5.kept0 ((Kept.refl [] V).drew)) hrk t 1 0 c.id t 1 (t + 1) 1 false
  replace st := Lib.hid (f5.kept0 ((Kept.refl [] V).drew))
  clear p0 p1 p2 p3 p4 p5 p6 p7 lG kA hB i5 f5 hV hB8 hx5 O
  refine wp_region_any (by kernel_rfl) ?_
  rw [List.size_toArray]
  refine wpAnyS_any (S := fun X => X = V.drew) (k := 9) _ _ _ ?_ _ rfl
  refine sTake (i := 0) rfl (by kernel_rfl) (fun _ _ _ h => h) (gLoad (by rfl) (fun W hW => by (try dsimp only at hW); subst hW; go_simp; first | done | rfl)) ?_
  try simp only [Act.put, zA, zB, zC]
  refine sTake (i := 1) rfl (by kernel_rfl) (fun _ _ _ h => h) (gLoad (by rfl) (fun W hW => by (try dsimp only at hW); subst hW; go_simp; first | done | rfl)) ?_
  try simp only [Act.put, zA, zB, zC]
  refine sTake (i := 2) rfl (by kernel_rfl) (fun _ _ _ h => h) (gLoad (by rfl) (fun W hW => by (try dsimp only at hW); subst hW; go_simp; first | done | rfl)) ?_
  try simp only [Act.put, zA, zB, zC]
  refine sTake (i := 3) rfl (by kernel_rfl) (fun _ _ _ h => h) (gLoad (by rfl) (fun W hW => by (try dsimp only at hW); subst hW; go_simp; first | done | rfl)) ?_
  try simp only [Act.put, zA, zB, zC]
  refine sTake (i := 4) rfl (by kernel_rfl) (fun _ _ _ h => h) (gLoad (by rfl) (fun W hW => by (try dsimp only at hW); subst hW; go_simp; first | done | rfl)) ?_
  try simp only [Act.put, zA, zB, zC]
  refine sTake (i := 5) rfl (by kernel_rfl) (fun _ _ _ h => h) (gLoad (by rfl) (fun W hW => by (try dsimp only at hW); subst hW; go_simp; first | done | rfl)) ?_
  try simp only [Act.put, zA, zB, zC]
  refine sTake (i := 6) rfl (by kernel_rfl) (fun _ _ _ h => h) (gLoad (by rfl) (fun W hW => by (try dsimp only at hW); subst hW; go_simp; first | done | rfl)) ?_
  try simp only [Act.put, zA, zB, zC]
  refine sTake (i := 7) rfl (by kernel_rfl) (fun _ _ _ h => h) (gLoad (by rfl) (fun W hW => by (try dsimp only at hW); subst hW; go_simp; first | done | rfl)) ?_
  try simp only [Act.put, zA, zB, zC]
  refine sTake (i := 8) rfl (by kernel_rfl) (fun _ _ _ h => h) (gLoad (by rfl) (fun W hW => by (try dsimp only at hW); subst hW; go_simp; first | done | rfl)) ?_
  try simp only [Act.put, zA, zB, zC]
  refine sRest (by kernel_rfl) ?_
  rintro X rfl
  clear c5 c12 q0 q1 q2 q3 q4 q5 q6 q7 lx lB
  refine aCall (i := 9) rfl (by kernel_rfl) (by rfl) (by go_simp; first | done | rfl | exact ⟨rfl, rfl⟩) (R.mono ?_)
  rintro e' w6 ⟨⟨y6, rfl⟩, d6, i6, f6⟩
  refine ⟨_, rfl, ?_⟩
  try simp only [Act.put, zA, zB, zC]
  refine wpAny_done (by kernel_rfl) ?_ _
  have fr := st.out.trans f6
  replace st := Lib.hid (And.intro i6 fr)
  clear R i6 f6 fr
  go_wp2_with fail
  rw [rounds_succ]
  have T := ticks_add st.out.1
  have hx6 := st.out.1.x
  have c13 : w6.cell? ⟨c.z.x, 13, none⟩ = some (.pointer (some ⟨c.z.m, 0, none⟩)) := cell_of hx6 13
  have lx6 := heap_lt hx6
  clear hx6
  go_wp2_with fail
  refine T.mono ?_
  rintro e' w7 ⟨⟨y7, rfl⟩, d7, i7, f7⟩
  have hx7 := i7.x
  have k5 : w7.cell? ⟨c.z.x, 5, none⟩ = some (.int .i64 t) := cell_of hx7 5
  have f5 : w7.frozen? ⟨c.z.x, 5, none⟩ = false := frozen_of hx7 5
  have lx7 := heap_lt hx7
  obtain ⟨d8, i8, f8⟩ := i7.clocked (t + 1)
  obtain ⟨W8, hW8⟩ : ∃ W8, w7.setCell ⟨c.z.x, 5, none⟩ (.int .i64 (t + 1)) = W8 := ⟨_, rfl⟩
  rw [hW8] at i8 f8
  have E := hE W8 d8 i8
  have fr := (st.out.2.trans f7).trans f8
  replace st := Lib.hid fr
  clear T c13 lx6 i7 f7 hx7 i8 f8 fr hE
  go_wp2_with fail
  refine E.mono ?_
  rintro e' w9 ⟨rfl, d9, i9, f9⟩
  clear k5 f5 lx7 hW8
  have fin := Lib.hid (And.intro i9 (st.out.trans f9))
  clear i9 f9 st E
  go_wp2_with fail
  go_returns
  exact ⟨_, _, rfl, d9, fin.out.1, fin.out.2⟩
set_option maxHeartbeats 4000000 in
theorem tick_none {w : World} {c : Pm} {d : Dy} {act a2 : Bool} {rel got rel1 got1 r2 g2 t m i : Int} (h : Inv w c d act rel got t m i) (hf : Fix c false) (hrk : c.rk = 0) (ht0 : 0 ≤ t) (ht : t ≤ 65535) (hi : i ≤ 65536)
    (hR : Calls Tryz.prog 54 #[pt c.z.x] w fun e' W => e' = .returned (.tuple #[]) ∧ ∃ d', Inv W c d' true rel1 got1 t (m + 1) i ∧ Fr c d w d' W)
    (hC : ∀ cnt W, Calls Tryz.prog 125 #[taskV c.id c.e c.p true rel1 got1 cnt, .int .i64 t, .bool c.early] W (RetG (.bool false) W))
    (hE : ∀ W d', Inv W c d' true rel1 got1 (t + 1) (m + 1) (i + 1) → Calls Tryz.prog 63 #[pt c.z.x] W fun e' V => e' = .returned (.tuple #[]) ∧ ∃ d'', Inv V c d'' a2 r2 g2 (t + 1) (m + 1) (i + 1) ∧ Fr c d' W d'' V) :
    Calls Tryz.prog 41 #[pt c.z.x] w fun e' W => e' = .returned (.slice none 0 0) ∧ ∃ d', Inv W c d' a2 r2 g2 (t + 1) (m + 1) (i + 1) ∧ Fr c d w d' W := by
  have hw : IntKind.i64.wrap (t + 1) = t + 1 := IntWalk.i64_in _ (by omega)
  go_enter Tryz.func41, Tryz.ntmps41
  go_wp2_with fail
  refine hR.mono ?_
  rintro e' w1 ⟨rfl, d1, i1, f1⟩
  have hx1 := i1.x
  have c5 : w1.cell? ⟨c.z.x, 5, none⟩ = some (.int .i64 t) := cell_of hx1 5
  have c7 : w1.cell? ⟨c.z.x, 7, none⟩ = some (.pointer (some ⟨c.z.j, 0, none⟩)) := cell_of hx1 7
  have c8 : w1.cell? ⟨c.z.x, 8, none⟩ = some (.pointer (some ⟨c.z.q, 0, none⟩)) := cell_of hx1 8
  have lx := heap_lt hx1
  have i1' := i1.kept0 ((Kept.refl [] w1).drew)
  have S := slot_no i1' hC
  have O := slots55 (w := w1) (z := c.z) i1.ex.hx hf.mode
  have st := Lib.hid (And.intro i1 (f1.kept0 ((Kept.refl [] w1).drew)))
  clear hx1 i1 f1 i1' hR h hC
  go_wp2_with fail
  refine O.mono ?_
  rintro e' w2 ⟨rfl, rfl⟩
  go_wp2_with fail
  refine wp_region_any (by kernel_rfl) ?_
  rw [List.size_toArray]
  refine wpAnyS_any (S := fun X => X = w1.drew) (k := 12) _ _ _ ?_ _ rfl
  refine sTake (i := 0) rfl (by kernel_rfl) (fun _ _ _ h => h) (gLoad (by rfl) (fun W hW => by (try dsimp only at hW); subst hW; go_simp; first | done | rfl)) ?_
  try simp only [Act.put, zA, zB, zC]
  refine sTake (i := 1) rfl (by kernel_rfl) (fun _ _ _ h => h) (gLoad (by rfl) (fun W hW => by (try dsimp only at hW); subst hW; go_simp; first | done | rfl)) ?_
  try simp only [Act.put, zA, zB, zC]
  refine sTake (i := 2) rfl (by kernel_rfl) (fun _ _ _ h => h) (gLoad (by rfl) (fun W hW => by (try dsimp only at hW); subst hW; go_simp; first | done | rfl)) ?_
  try simp only [Act.put, zA, zB, zC]
  refine sTake (i := 3) rfl (by kernel_rfl) (fun _ _ _ h => h) (gLoad (by rfl) (fun W hW => by (try dsimp only at hW); subst hW; go_simp; first | done | rfl)) ?_
  try simp only [Act.put, zA, zB, zC]
  refine sTake (i := 4) rfl (by kernel_rfl) (fun _ _ _ h => h) (gLoad (by rfl) (fun W hW => by (try dsimp only at hW); subst hW; go_simp; first | done | rfl)) ?_
  try simp only [Act.put, zA, zB, zC]
  refine sTake (i := 5) rfl (by kernel_rfl) (fun _ _ _ h => h) (gLoad (by rfl) (fun W hW => by (try dsimp only at hW); subst hW; go_simp; first | done | rfl)) ?_
  try simp only [Act.put, zA, zB, zC]
  refine sTake (i := 6) rfl (by kernel_rfl) (fun _ _ _ h => h) (gLoad (by rfl) (fun W hW => by (try dsimp only at hW); subst hW; go_simp; first | done | rfl)) ?_
  try simp only [Act.put, zA, zB, zC]
  refine sTake (i := 7) rfl (by kernel_rfl) (fun _ _ _ h => h) (gLoad (by rfl) (fun W hW => by (try dsimp only at hW); subst hW; go_simp; first | done | rfl)) ?_
  try simp only [Act.put, zA, zB, zC]
  refine sTake (i := 8) rfl (by kernel_rfl) (fun _ _ _ h => h) (gLoad (by rfl) (fun W hW => by (try dsimp only at hW); subst hW; go_simp; first | done | rfl)) ?_
  try simp only [Act.put, zA, zB, zC]
  refine sTake (i := 9) rfl (by kernel_rfl) (fun _ _ _ h => h) (gLoad (by rfl) (fun W hW => by (try dsimp only at hW); subst hW; go_simp; first | done | rfl)) ?_
  try simp only [Act.put, zA, zB, zC]
  refine sTake (i := 10) rfl (by kernel_rfl) (fun _ _ _ h => h) (gLoad (by rfl) (fun W hW => by (try dsimp only at hW); subst hW; go_simp; first | done | rfl)) ?_
  try simp only [Act.put, zA, zB, zC]
  refine sTake (i := 11) rfl (by kernel_rfl) (fun _ _ _ h => h) (gLoad (by rfl) (fun W hW => by (try dsimp only at hW); subst hW; go_simp; first | done | rfl)) ?_
  try simp only [Act.put, zA, zB, zC]
  refine sRest (by kernel_rfl) ?_
  rintro X rfl
  clear c5 c7 c8 lx
  refine aCall (i := 12) rfl (by kernel_rfl) (by rfl) (by go_simp; first | done | rfl | exact ⟨rfl, rfl⟩) (S.mono ?_)
  rintro e' w3 ⟨rfl, d3, i3, f3⟩
  refine ⟨_, rfl, ?_⟩
  try simp only [Act.put, zA, zB, zC]
  refine aVal (i := 13) (v := ?_) rfl (by kernel_rfl) (by rfl) ?_ ?_
  rotate_left 1
  · go_simp; all_goals with_reducible rfl
  try simp only [Act.put, zA, zB, zC]
  refine wpAny_done (by kernel_rfl) ?_ _
  have C := count_none i3 hi
  have fr := st.out.2.trans f3
  replace st := Lib.hid fr
  clear S fr i3 f3 O
  go_wp2_with fail
  refine C.mono ?_
  rintro e' w6 ⟨rfl, d4, i4, f4⟩
  have O := slices30 (w := w6) (z := c.z) i4.ex.hx hf.mode
  have fr := st.out.trans f4
  replace st := Lib.hid (And.intro i4 fr)
  clear C f4 i4 fr
  go_wp2_with fail
  refine O.mono ?_
  rintro e' w5 ⟨rfl, rfl⟩
  go_wp2_with fail
  refine wp_loop_rounds 1 ?_
  rw [rounds_succ]
  clear O
  have T := ticks_add st.out.1
  have hx6 := st.out.1.x
  have c13 : w6.cell? ⟨c.z.x, 13, none⟩ = some (.pointer (some ⟨c.z.m, 0, none⟩)) := cell_of hx6 13
  have lx6 := heap_lt hx6
  clear hx6
  go_wp2_with fail
  refine T.mono ?_
  rintro e' w7 ⟨⟨y7, rfl⟩, d7, i7, f7⟩
  have hx7 := i7.x
  have k5 : w7.cell? ⟨c.z.x, 5, none⟩ = some (.int .i64 t) := cell_of hx7 5
  have f5 : w7.frozen? ⟨c.z.x, 5, none⟩ = false := frozen_of hx7 5
  have lx7 := heap_lt hx7
  obtain ⟨d8, i8, f8⟩ := i7.clocked (t + 1)
  obtain ⟨W8, hW8⟩ : ∃ W8, w7.setCell ⟨c.z.x, 5, none⟩ (.int .i64 (t + 1)) = W8 := ⟨_, rfl⟩
  rw [hW8] at i8 f8
  have E := hE W8 d8 i8
  have fr := (st.out.2.trans f7).trans f8
  replace st := Lib.hid fr
  clear T c13 lx6 i7 f7 hx7 i8 f8 fr hE
  go_wp2_with fail
  refine E.mono ?_
  rintro e' w9 ⟨rfl, d9, i9, f9⟩
  clear k5 f5 lx7 hW8
  have fin := Lib.hid (And.intro i9 (st.out.trans f9))
  clear i9 f9 st E
  go_wp2_with fail
  go_returns
  exact ⟨rfl, d9, fin.out.1, fin.out.2⟩
end
end Go.Proofs.YtgfbfklnhmndfaaGreat
