/- The parts of the top that the law of early release walks through: part 9 of 52. -/
import Derived.Test.YtgfbfklnhmndfaaGreatA1
import Derived.Test.YtgfbfklnhmndfaaGreatA3
import Derived.Test.YtgfbfklnhmndfaaGreatA4
namespace Go.Proofs.YtgfbfklnhmndfaaGreat
open Go.RowKit
set_option linter.unusedSimpArgs false
set_option linter.unusedVariables false
section
/-- How many of the first k are not yet listed. -/
def left (k : Nat) (L : Array Bool) : Nat := ((List.range k).filter (fun j => !L.getD j false)).length
theorem left_same {i : Nat} {L : Array Bool} : ∀ k, k ≤ i → left k (L.setIfInBounds i true) = left k L
  | 0, _ => rfl
  | k + 1, h => by
    have ih := left_same (i := i) (L := L) k (by omega)
    unfold left at *
    rw [List.range_succ, List.filter_append, List.filter_append, List.length_append, List.length_append, ih]
    simp only [List.filter_cons, List.filter_nil]
    rw [getD_set_ne false (by omega : i ≠ k)]
theorem left_set {i : Nat} {L : Array Bool} (hL : i < L.size) (h0 : L.getD i false = false) : ∀ k, i < k → left k (L.setIfInBounds i true) + 1 = left k L
  | 0, h => absurd h (by omega)
  | k + 1, h => by
    unfold left
    rw [List.range_succ, List.filter_append, List.filter_append, List.length_append, List.length_append]
    by_cases hik : i = k
    · subst hik
      have := left_same (i := i) (L := L) i (Nat.le_refl _)
      unfold left at this
      rw [this]
      have h1 : (L.setIfInBounds i true).getD i false = true := by simp [Array.getD_eq_getD_getElem?, Array.getElem?_setIfInBounds, hL]
      simp only [List.filter_cons, List.filter_nil, h1, h0]
      rfl
    · have ih := left_set hL h0 k (by omega)
      unfold left at ih
      rw [← ih]
      simp only [List.filter_cons, List.filter_nil]
      rw [getD_set_ne false hik]
      omega
theorem left_zero {L : Array Bool} : ∀ k, left k L = 0 → ∀ i, i < k → L.getD i false = true
  | 0, _, i, h => absurd h (by omega)
  | k + 1, h0, i, h => by
    unfold left at h0
    rw [List.range_succ, List.filter_append, List.length_append] at h0
    by_cases hik : i = k
    · subst hik
      have : ([i].filter (fun j => !L.getD j false)).length = 0 := by omega
      cases hb : L.getD i false with
      | true => rfl
      | false => rw [List.filter_cons, List.filter_nil, hb] at this; cases this
    · exact left_zero k (by unfold left; omega) i (by omega)
theorem least_left {L : Array Bool} : ∀ (n : Nat), L.getD n false = false → ∃ i, i ≤ n ∧ L.getD i false = false ∧ ∀ j, j < i → L.getD j false = true := by
  intro n
  induction n using Nat.strongRecOn with
  | _ n ih =>
    intro h
    by_cases hex : ∃ m, m < n ∧ L.getD m false = false
    · obtain ⟨m, hm, hu⟩ := hex
      obtain ⟨i, h1, h2, h3⟩ := ih m hm hu
      exact ⟨i, by omega, h2, h3⟩
    · refine ⟨n, Nat.le_refl _, h, fun j hj => ?_⟩
      cases hb : L.getD j false with
      | true => rfl
      | false => exact absurd ⟨j, hj, hb⟩ hex
section
variable {P : Program} {l : List Oper} {Q : Exit → Act → World → Prop} {md : Region.Mode}
/-- What an operation leaves that makes new memory and changes none: a value, of which Y tells what it is, and whence and whereto its own blocks lie. -/
def Bears (P : Program) (Y : Value → Nat → Nat → World → Prop) (o : Oper) (a : Act) (w : World) : Prop :=
  (∃ v w', (execOp a.eval o).run P w = .ok (.value v) w' ∧ Kept [] w w' ∧ Y v w.heap.size w'.heap.size w') ∨
  (∃ f args w1, (execOp a.eval o).run P w = .ok (.enter f args) w1 ∧ Calls P f args w1 (fun e w' => ∃ v, e = .returned v ∧ Kept [] w w' ∧ Y v w.heap.size w'.heap.size w'))
/-- What stands when some are listed. -/
structure Born (P : Program) (md : Region.Mode) (l : List Oper) (k : Nat) (D : Nat → Nat) (Y : Nat → Value → Nat → Nat → World → Prop) (a0 : Act) (w0 : World) (L : Array Bool) (a : Act) (w : World) : Prop where
  size : L.size = l.length
  closed : Closed md l.toArray L
  none : ∀ i, k ≤ i → L.getD i false = false
  defers : a.defers = a0.defers
  slots : a.tmps.size = a0.tmps.size
  rest : ∀ s, (∀ i, i < k → D i ≠ s) → a.tmps.getD s undef = a0.tmps.getD s undef
  kept : Kept [] w0 w
  has : ∃ lo hi : Nat → Nat, (∀ i, i < k → L.getD i false = true → w0.heap.size ≤ lo i ∧ lo i ≤ hi i ∧ hi i ≤ w.heap.size ∧ Y i (a.tmps.getD (D i) undef) (lo i) (hi i) w) ∧
    (∀ i j, i < k → j < k → L.getD i false = true → L.getD j false = true → i ≠ j → hi i ≤ lo j ∨ hi j ≤ lo i)
theorem Born.next {k : Nat} {D : Nat → Nat} {Y : Nat → Value → Nat → Nat → World → Prop} {a0 : Act} {w0 : World} {L : Array Bool} {a : Act} {w : World} (h : Born P md l k D Y a0 w0 L a w)
    (hinj : ∀ i j, i < k → j < k → D i = D j → i = j) (hD : ∀ i, i < k → D i < a0.tmps.size)
    (stab : ∀ i v lo hi w w', Y i v lo hi w → (∀ b, lo ≤ b → b < hi → w'.heap[b]? = w.heap[b]?) → Y i v lo hi w')
    {i : Nat} {o : Oper} (hi : i < k) (ho : l[i]? = some o) (hd : o.dst = some (D i)) (hr : i ∈ Region.ready md l.toArray L) {v : Value} {w' : World} (hk : Kept [] w w') (hY : Y i v w.heap.size w'.heap.size w') :
    Born P md l k D Y a0 w0 (L.setIfInBounds i true) (a.put o.dst v) w' := by
  have hput : (a.put o.dst v).tmps = a.tmps.setIfInBounds (D i) v := by rw [hd]; rfl
  have hget : ∀ s, s ≠ D i → (a.put o.dst v).tmps.getD s undef = a.tmps.getD s undef := fun s hs => by
    rw [hput]
    simp [Array.getD_eq_getD_getElem?, Array.getElem?_setIfInBounds_ne (Ne.symm hs)]
  have hown : (a.put o.dst v).tmps.getD (D i) undef = v := by
    rw [hput]
    have : D i < a.tmps.size := by rw [h.slots]; exact hD i hi
    simp [Array.getD_eq_getD_getElem?, Array.getElem?_setIfInBounds, this]
  refine ⟨by simp [h.size], h.closed.add hr, fun j hj => by rw [getD_set_ne false (by omega : i ≠ j)]; exact h.none j hj, by rw [hd]; exact h.defers, by rw [hput]; simp [h.slots], fun s hs => by rw [hget s (Ne.symm (hs i hi))]; exact h.rest s hs, Kept.trans h.kept hk (by simp) (by simp), ?_⟩
  obtain ⟨lo, hi', h1, h2⟩ := h.has
  have hun : L.getD i false = false := by
    have := (mem_ready.1 hr).1
    rcases Nat.lt_or_ge i L.size with h' | h'
    · simpa [h'] using this
    · simp [Array.getElem?_eq_none h'] at this
  refine ⟨fun j => if j = i then w.heap.size else lo j, fun j => if j = i then w'.heap.size else hi' j, fun j hj hl => ?_, fun j m hj hm hlj hlm hne => ?_⟩
  · by_cases hji : j = i
    · subst hji
      simp only [if_true]
      exact ⟨h.kept.1, hk.1, Nat.le_refl _, by rw [hown]; exact hY⟩
    · rw [getD_set_ne false (Ne.symm hji)] at hl
      obtain ⟨g1, g2, g3, g4⟩ := h1 j hj hl
      simp only [if_neg hji]
      refine ⟨g1, g2, Nat.le_trans g3 hk.1, ?_⟩
      rw [hget (D j) fun e => hji (hinj j i hj hi e)]
      exact stab j _ _ _ w w' g4 fun b hb1 hb2 => hk.2 b (by omega) (by simp)
  · by_cases hji : j = i
    · subst hji
      have hmj : m ≠ j := Ne.symm hne
      rw [getD_set_ne false hne] at hlm
      simp only [if_true, if_neg hmj]
      exact Or.inr (h1 m hm hlm).2.2.1
    · rw [getD_set_ne false (Ne.symm hji)] at hlj
      by_cases hmi : m = i
      · subst hmi
        simp only [if_true, if_neg hji]
        exact Or.inl (h1 j hj hlj).2.2.1
      · rw [getD_set_ne false (Ne.symm hmi)] at hlm
        simp only [if_neg hji, if_neg hmi]
        exact h2 j m hj hm hlj hlm hne
theorem wpAny_born {k : Nat} {D : Nat → Nat} {Y : Nat → Value → Nat → Nat → World → Prop} {a0 : Act} {w0 : World}
    (hinj : ∀ i j, i < k → j < k → D i = D j → i = j) (hD : ∀ i, i < k → D i < a0.tmps.size)
    (stab : ∀ i v lo hi w w', Y i v lo hi w → (∀ b, lo ≤ b → b < hi → w'.heap[b]? = w.heap[b]?) → Y i v lo hi w')
    (hkl : k ≤ l.length)
    (hops : ∀ i, i < k → ∃ o, l[i]? = some o ∧ o.dst = some (D i) ∧ o.guard = none ∧ ∀ e ∈ o.after, Region.binds md e = true → e.on < i)
    (hwait : ∀ i j, i < k → k ≤ j → l.length ≤ j ∨ mustB md l.toArray i 9 j = true)
    (step : ∀ i, i < k → ∀ o, l[i]? = some o → ∀ a w, Kept [] w0 w → (∀ s, (∀ i, i < k → D i ≠ s) → a.tmps.getD s undef = a0.tmps.getD s undef) →
      (∀ e ∈ o.after, Region.binds md e = true → ∃ lo hi, Y e.on (a.tmps.getD (D e.on) undef) lo hi w) → Bears P (Y i) o a w)
    (tail : ∀ a w, Born P md l k D Y a0 w0 (List.replicate k true ++ List.replicate (l.length - k) false).toArray a w → wpAny P md l.toArray Q (l.length - k) (List.replicate k true ++ List.replicate (l.length - k) false).toArray a w) :
    ∀ (n : Nat) (L : Array Bool) (a : Act) (w : World), left k L = n → Born P md l k D Y a0 w0 L a w → wpAny P md l.toArray Q (n + (l.length - k)) L a w := by
  intro n
  induction n with
  | zero =>
    intro L a w hn h
    have hL : L = (List.replicate k true ++ List.replicate (l.length - k) false).toArray := by
      refine Array.ext (by simp [h.size]; omega) fun i h1 h2 => ?_
      have hg : L.getD i false = L[i] := by simp [Array.getD_eq_getD_getElem?, h1]
      rw [← hg]
      by_cases hik : i < k
      · rw [left_zero k hn i hik]
        simp [List.getElem_append, hik]
      · rw [h.none i (by omega)]
        simp [List.getElem_append, hik]
    subst hL
    rw [Nat.zero_add]
    exact tail a w h
  | succ n ih =>
    intro L a w hn h
    rw [show n + 1 + (l.length - k) = (n + (l.length - k)) + 1 by omega]
    have hlate : ∀ j ∈ Region.ready md l.toArray L, j < k := by
      intro j hj
      rcases Nat.lt_or_ge j k with h1 | h1
      · exact h1
      · exfalso
        -- some i < k is not yet listed
        have : ∃ i, i < k ∧ L.getD i false = false := by
          by_cases hall : ∃ i, i < k ∧ L.getD i false = false
          · exact hall
          · exfalso
            have hz : left k L = 0 := by
              unfold left
              rw [List.length_eq_zero_iff, List.filter_eq_nil_iff]
              intro i hi
              have hik := List.mem_range.1 hi
              cases hb : L.getD i false with
              | true => simp
              | false => exact absurd ⟨i, hik, hb⟩ hall
            omega
        obtain ⟨i, hi, hu⟩ := this
        rcases hwait i j hi h1 with h2 | h2
        · obtain ⟨_, o, ho, _⟩ := mem_ready.1 hj
          have := (Array.getElem?_eq_some_iff.1 ho).1
          simp at this
          omega
        · exact (must_spec h.closed hu 9 j h2).1 hj
    refine ⟨fun hnil => ?_, fun i hi => ?_⟩
    · exfalso
      -- the least of those that are not listed is ready
      have hex : ∃ i, i < k ∧ L.getD i false = false := by
        by_cases hall : ∃ i, i < k ∧ L.getD i false = false
        · exact hall
        · exfalso
          have hz : left k L = 0 := by
            unfold left
            rw [List.length_eq_zero_iff, List.filter_eq_nil_iff]
            intro i hi
            have hik := List.mem_range.1 hi
            cases hb : L.getD i false with
            | true => simp
            | false => exact absurd ⟨i, hik, hb⟩ hall
          omega
      obtain ⟨i, hi, hu⟩ := hex
      obtain ⟨i, hi, hu, hall⟩ := least_left (L := L) i hu
      have hik : i < k := by omega
      obtain ⟨o, ho, hd, hg, haf⟩ := hops i hik
      have hoa : l.toArray[i]? = some o := by simpa using ho
      have hiL : i < L.size := by rw [h.size]; exact (List.getElem?_eq_some_iff.1 ho).1
      have : i ∈ Region.ready md l.toArray L := mem_ready.2 ⟨by simpa [hiL] using hu, o, hoa, fun e he hb => hall e.on (haf e he hb)⟩
      rw [hnil] at this
      cases this
    · have hik := hlate i hi
      obtain ⟨o, ho, hd, hg, haf⟩ := hops i hik
      have hoa : l.toArray[i]? = some o := by simpa using ho
      obtain ⟨hun', o', ho', hall⟩ := mem_ready.1 hi
      rw [hoa] at ho'
      obtain rfl := Option.some.inj ho'
      have hw : Region.wanted o (yielded l.toArray a.tmps) = true := by unfold Region.wanted; rw [hg]
      have hiL : i < L.size := by rw [h.size]; exact (List.getElem?_eq_some_iff.1 ho).1
      have hun : L.getD i false = false := by
        simpa [hiL] using hun'
      obtain ⟨lo, hi', h1, h2⟩ := h.has
      have hb := step i hik o ho a w h.kept h.rest fun e he hbd => ⟨lo e.on, hi' e.on, (h1 e.on (Nat.lt_trans (haf e he hbd) hik) (hall e he hbd)).2.2.2⟩
      have go : ∀ v w', Kept [] w w' → Y i v w.heap.size w'.heap.size w' → wpAny P md l.toArray Q (n + (l.length - k)) (L.setIfInBounds i true) (a.put o.dst v) w' := fun v w' hk hY =>
        ih _ _ _ (by have := left_set hiL hun k hik; omega) (h.next hinj hD stab hik ho hd hi hk hY)
      unfold wpOp
      simp only [hoa, hw, if_true]
      refine .inl ?_
      rcases hb with ⟨v, w', hr, hk, hY⟩ | ⟨f, args, w1, hr, hc⟩
      · simp only [Oper.wp, hr, Oper.upon]
        exact go v w' hk hY
      · simp only [Oper.wp, hr, Oper.upon]
        refine Calls.mono hc ?_
        rintro e w' ⟨v, rfl, hk, hY⟩
        exact go v w' hk hY
end
end
section
attribute [local go_sem ↓] setCell_drewN alloc_drewN grow_cell grow_frozen setCell_grow grow_size cell_alloc_grow frozen_alloc_grow setCell_alloc_grow cell_grow_alloc_grow frozen_grow_alloc_grow setCell_grow_alloc_grow grow_grow
attribute [local go_sem] lt_len
/-- The slot that an operation writes. -/
def dstOf (l : List Oper) (i : Nat) : Nat := ((l[i]?).bind (·.dst)).getD 0
/-- The first k operations are such as the law wants them. -/
def bornB (md : Region.Mode) (l : List Oper) (k n : Nat) : Bool :=
  decide (k ≤ l.length) &&
  ((List.range k).all fun i => (match l[i]? with
    | some o => (o.dst == some (dstOf l i)) && o.guard.isNone && o.after.all (fun e => !Region.binds md e || decide (e.on < i))
    | none => false) && decide (dstOf l i < n) &&
    ((List.range k).all fun j => decide (i = j) || !(dstOf l i == dstOf l j)) &&
    ((List.range l.length).all fun j => decide (j < k) || mustB md l.toArray i 9 j))
theorem bornBegin {P : Program} {l : List Oper} {Q : Exit → Act → World → Prop} (k : Nat) (Y : Nat → Value → Nat → Nat → World → Prop) {id : Nat} {a0 : Act} {w0 : World} (hm : P.follows .mixedOrders = true)
    (hb : bornB .any l k a0.tmps.size = true)
    (stab : ∀ i v lo hi w w', Y i v lo hi w → (∀ b, lo ≤ b → b < hi → w'.heap[b]? = w.heap[b]?) → Y i v lo hi w')
    (step : ∀ i, i < k → ∀ o, l[i]? = some o → ∀ a w, Kept [] w0 w → (∀ s, (∀ i, i < k → dstOf l i ≠ s) → a.tmps.getD s undef = a0.tmps.getD s undef) →
      (∀ e ∈ o.after, Region.binds .any e = true → ∃ lo hi, Y e.on (a.tmps.getD (dstOf l e.on) undef) lo hi w) → Bears P (Y i) o a w)
    (tail : ∀ a w, Born P .any l k (dstOf l) Y a0 w0.drew (List.replicate k true ++ List.replicate (l.length - k) false).toArray a w → wpAny P .any l.toArray Q (l.length - k) (List.replicate k true ++ List.replicate (l.length - k) false).toArray a w) :
    (Code.region id l.toArray true).wp P Q a0 w0 := by
  refine wp_region_any hm ?_
  rw [List.size_toArray]
  unfold bornB at hb
  simp only [Bool.and_eq_true, List.all_eq_true, List.mem_range, decide_eq_true_eq, Bool.or_eq_true, Bool.not_eq_true'] at hb
  obtain ⟨hkl, hb⟩ := hb
  have hz : left k (Array.replicate l.length false) = k := by
    unfold left
    rw [List.filter_eq_self.2, List.length_range]
    intro j hj
    simp [Array.getD_eq_getD_getElem?, Array.getElem?_replicate]
    split <;> rfl
  have := wpAny_born (P := P) (l := l) (Q := Q) (md := .any) (k := k) (D := dstOf l) (Y := Y) (a0 := a0) (w0 := w0.drew) (fun i j hi hj he => by
      have := (hb i hi).1.2 j hj
      rcases this with h | h
      · exact h
      · rw [he] at h; simp at h) (fun i hi => (hb i hi).1.1.2) stab hkl (fun i hi => by
      have := (hb i hi).1.1.1
      cases ho : l[i]? with
      | none => rw [ho] at this; simp at this
      | some o =>
        rw [ho] at this
        simp only [Bool.and_eq_true, beq_iff_eq] at this
        obtain ⟨⟨h1, h2⟩, h3⟩ := this
        refine ⟨o, rfl, h1, by simpa using h2, fun e he hbd => ?_⟩
        have := Array.all_eq_true_iff_forall_mem.1 h3 e he
        simpa [hbd] using this) (fun i j hi hj => by
      rcases Nat.lt_or_ge j l.length with h | h
      · have := (hb i hi).2 j h
        rcases this with h1 | h1
        · omega
        · exact Or.inr h1
      · exact Or.inl h) step tail k (Array.replicate l.length false) a0 w0.drew hz ⟨by simp, ?_, ?_, rfl, rfl, fun _ _ => rfl, Kept.refl _ _, fun _ => 0, fun _ => 0, ?_, ?_⟩
  · rwa [show k + (l.length - k) = l.length by omega] at this
  · intro m o _ hl
    simp [Array.getD_eq_getD_getElem?, Array.getElem?_replicate] at hl
    split at hl <;> simp at hl
  · intro i _
    simp [Array.getD_eq_getD_getElem?, Array.getElem?_replicate]
    split <;> rfl
  · intro i _ hl
    simp [Array.getD_eq_getD_getElem?, Array.getElem?_replicate] at hl
    split at hl <;> simp at hl
  · intro i j _ _ hl
    simp [Array.getD_eq_getD_getElem?, Array.getElem?_replicate] at hl
    split at hl <;> simp at hl
def slotsY (n : Nat) (i : Nat) (v : Value) (lo hi : Nat) (w : World) : Prop := match i with
  | 0 => v = .int .i64 n
  | 1 => ∃ b, lo ≤ b ∧ b < hi ∧ v = .slice (some ⟨b, 0, none⟩) n n ∧ w.heap[b]? = some (.cells (Array.replicate n (.int .i64 0)) 3 (0, 0))
  | 2 => v = .int .i64 n
  | 3 => ∃ b, lo ≤ b ∧ b < hi ∧ v = .slice (some ⟨b, 0, none⟩) n n ∧ w.heap[b]? = some (.cells (Array.replicate n (.bool false)) 4 (0, 0))
  | 4 => ∃ b, lo ≤ b ∧ b < hi ∧ v = .map (some b) ∧ w.heap[b]? = some (.map #[] 0)
  | 5 => ∃ a, v = .slice a 0 0
  | 6 => ∃ b a, lo ≤ b ∧ b < hi ∧ v = .pointer (some ⟨b, 0, none⟩) ∧ w.heap[b]? = some (.cells #[.slice a 0 0] 131 (0, 0))
  | _ => True
theorem dep {l : List Oper} {o : Oper} {Y : Nat → Value → Nat → Nat → World → Prop} {a : Act} {W : World} (hd : ∀ e ∈ o.after, Region.binds .any e = true → ∃ lo hi, Y e.on (a.tmps.getD (dstOf l e.on) undef) lo hi W) (j s : Nat) (hs : dstOf l j = s)
    (h : o.after.any (fun e => Region.binds .any e && (e.on == j)) = true) : ∃ lo hi, Y j (a.tmps.getD s undef) lo hi W := by
  subst hs
  obtain ⟨e, he, hb⟩ := Array.any_eq_true'.1 h
  simp only [Bool.and_eq_true, beq_iff_eq] at hb
  obtain ⟨hb, rfl⟩ := hb
  exact hd e he hb
/-- A region that makes memory in any order, by its operations alone. -/
theorem bornBegin' {P : Program} {l : List Oper} {Q : Exit → Act → World → Prop} (k : Nat) (Y : Nat → Value → Nat → Nat → World → Prop) {id : Nat} {a0 : Act} {w0 : World} (hm : P.follows .mixedOrders = true)
    (hb : bornB .any l k a0.tmps.size = true)
    (stab : ∀ i v lo hi w w', Y i v lo hi w → (∀ b, lo ≤ b → b < hi → w'.heap[b]? = w.heap[b]?) → Y i v lo hi w')
    (tail : ∀ a w, Born P .any l k (dstOf l) Y a0 w0.drew (List.replicate k true ++ List.replicate (l.length - k) false).toArray a w → wpAny P .any l.toArray Q (l.length - k) (List.replicate k true ++ List.replicate (l.length - k) false).toArray a w)
    (step : ∀ i, i < k → ∀ o, l[i]? = some o → ∀ a w, (∀ s, ((List.range k).all fun i => !(dstOf l i == s)) = true → a.tmps.getD s undef = a0.tmps.getD s undef) →
      (∀ j s, dstOf l j = s → o.after.any (fun e => Region.binds .any e && (e.on == j)) = true → ∃ lo hi, Y j (a.tmps.getD s undef) lo hi w) → Kept [] w0 w → Bears P (Y i) o a w) :
    (Code.region id l.toArray true).wp P Q a0 w0 := by
  refine bornBegin k Y hm hb stab (fun i hi o ho a w hk hr hd => step i hi o ho a w (fun s hs => hr s fun i hi he => ?_) (fun j s hs h => dep hd j s hs h) hk) tail
  have := List.all_eq_true.1 hs i (List.mem_range.2 hi)
  rw [he] at this
  simp at this
theorem born_value {P : Program} {Y : Value → Nat → Nat → World → Prop} {o : Oper} {a : Act} {w : World} (v : Value) (h : (execOp a.eval o).run P w = .ok (.value v) w) (hY : Y v w.heap.size w.heap.size w) : Bears P Y o a w :=
  Or.inl ⟨v, w, h, Kept.refl _ _, hY⟩
theorem born_alloc {P : Program} {Y : Value → Nat → Nat → World → Prop} {o : Oper} {a : Act} {w : World} (v : Value) (ob : Obj) (h : (execOp a.eval o).run P w = .ok (.value v) (w.alloc ob)) (hY : Y v w.heap.size (w.heap.size + 1) (w.alloc ob)) : Bears P Y o a w :=
  Or.inl ⟨v, w.alloc ob, h, (Kept.refl _ _).alloc ob, by simpa using hY⟩
theorem mkInts1 (W : World) : (Instr.makeSlice 83 (.int .i64 1) (.int .i64 1)).run Tryz.prog W = .ok (.slice (some ⟨W.heap.size, 0, none⟩) 1 1) (W.alloc (.cells #[.int .i64 0] 3)) := by kernel_rfl
theorem mkInts2 (W : World) : (Instr.makeSlice 83 (.int .i64 2) (.int .i64 2)).run Tryz.prog W = .ok (.slice (some ⟨W.heap.size, 0, none⟩) 2 2) (W.alloc (.cells #[.int .i64 0, .int .i64 0] 3)) := by kernel_rfl
theorem mkBools1 (W : World) : (Instr.makeSlice 129 (.int .i64 1) (.int .i64 1)).run Tryz.prog W = .ok (.slice (some ⟨W.heap.size, 0, none⟩) 1 1) (W.alloc (.cells #[.bool false] 4)) := by kernel_rfl
theorem mkBools2 (W : World) : (Instr.makeSlice 129 (.int .i64 2) (.int .i64 2)).run Tryz.prog W = .ok (.slice (some ⟨W.heap.size, 0, none⟩) 2 2) (W.alloc (.cells #[.bool false, .bool false] 4)) := by kernel_rfl
/-- Values laid into slots. -/
def fill (D : Nat → Nat) (vs : Nat → Value) : Nat → Array Value → Array Value
  | 0, u => u
  | k + 1, u => fill D vs k (u.setIfInBounds (D k) (vs k))
theorem fill_eq (D : Nat → Nat) (vs : Nat → Value) : ∀ (k : Nat) (t u : Array Value), t.size = u.size → (∀ s, (∀ i, i < k → D i ≠ s) → t.getD s undef = u.getD s undef) → (∀ i, i < k → t.getD (D i) undef = vs i) → t = fill D vs k u
  | 0, t, u, hs, h, _ => by
    show t = u
    refine Array.ext hs fun i h1 h2 => ?_
    have := h i (fun j hj => absurd hj (by omega))
    simpa [Array.getD_eq_getD_getElem?, h1, h2] using this
  | k + 1, t, u, hs, h, hv => by
    refine fill_eq D vs k t _ (by simpa using hs) (fun s hn => ?_) (fun i hi => hv i (by omega))
    by_cases hk : D k = s
    · subst hk
      rw [hv k (by omega)]
      by_cases hb : D k < u.size
      · simp [Array.getD_eq_getD_getElem?, Array.getElem?_setIfInBounds, hb]
      · have hb' : ¬ D k < t.size := by omega
        have h1 := hv k (by omega)
        have e1 : t[D k]? = none := Array.getElem?_eq_none (by omega)
        have e2 : (u.setIfInBounds (D k) (vs k))[D k]? = none := Array.getElem?_eq_none (by simp; omega)
        rw [Array.getD_eq_getD_getElem?, e1] at h1
        rw [Array.getD_eq_getD_getElem?, e2]
        exact h1.symm
    · rw [h s fun i hi => ?_]
      · simp [Array.getD_eq_getD_getElem?, Array.getElem?_setIfInBounds_ne hk]
      · by_cases hik : i = k
        · subst hik; exact hk
        · exact hn i (by omega)
/-- The same, what stands behind it over slots that are spelt. -/
theorem born {P : Program} {l : List Oper} {Q : Exit → Act → World → Prop} (k : Nat) (Y : Nat → Value → Nat → Nat → World → Prop) {id : Nat} {a0 : Act} {w0 : World} (hm : P.follows .mixedOrders = true)
    (hb : bornB .any l k a0.tmps.size = true)
    (stab : ∀ i v lo hi w w', Y i v lo hi w → (∀ b, lo ≤ b → b < hi → w'.heap[b]? = w.heap[b]?) → Y i v lo hi w')
    (step : ∀ i, i < k → ∀ o, l[i]? = some o → ∀ a w, (∀ s, ((List.range k).all fun i => !(dstOf l i == s)) = true → a.tmps.getD s undef = a0.tmps.getD s undef) →
      (∀ j s, dstOf l j = s → o.after.any (fun e => Region.binds .any e && (e.on == j)) = true → ∃ lo hi, Y j (a.tmps.getD s undef) lo hi w) → Kept [] w0 w → Bears P (Y i) o a w)
    (tail : ∀ (vs : Nat → Value) (lo hi : Nat → Nat) w, Kept [] w0 w → (∀ i, i < k → w0.heap.size ≤ lo i ∧ lo i ≤ hi i ∧ hi i ≤ w.heap.size ∧ Y i (vs i) (lo i) (hi i) w) → (∀ i j, i < k → j < k → i ≠ j → hi i ≤ lo j ∨ hi j ≤ lo i) →
      wpAny P .any l.toArray Q (l.length - k) (List.replicate k true ++ List.replicate (l.length - k) false).toArray ⟨fill (dstOf l) vs k a0.tmps, a0.defers⟩ w) :
    (Code.region id l.toArray true).wp P Q a0 w0 := by
  refine bornBegin' k Y hm hb stab ?_ step
  intro a w h
  obtain ⟨lo, hi, h1, h2⟩ := h.has
  have hl : ∀ i, i < k → (List.replicate k true ++ List.replicate (l.length - k) false).toArray.getD i false = true := fun i hi => by
    rw [Array.getD_eq_getD_getElem?, List.getElem?_toArray, List.getElem?_append_left (by simpa using hi)]
    simp [List.getElem?_replicate, hi]
  have ha : a = ⟨fill (dstOf l) (fun i => a.tmps.getD (dstOf l i) undef) k a0.tmps, a0.defers⟩ := by
    have h3 := fill_eq (dstOf l) (fun i => a.tmps.getD (dstOf l i) undef) k a.tmps a0.tmps h.slots h.rest (fun i _ => rfl)
    have h4 := h.defers
    cases a
    simp only at h3 h4 ⊢
    rw [← h3, h4]
  rw [ha]
  exact tail _ lo hi w h.kept (fun i hik => h1 i hik (hl i hik)) (fun i j hi hj hne => h2 i j hi hj (hl i hi) (hl j hj) hne)
theorem aValW {P : Program} {l : List Oper} {Q : Exit → Act → World → Prop} {md : Region.Mode} {i : Nat} {oi : Oper} {v : Value} {fuel : Nat} {listed : Array Bool} {a : Act} {w w' : World} (ho : l[i]? = some oi)
    (hr : Region.ready md l.toArray listed = [i]) (hw : Region.wanted oi (yielded l.toArray a.tmps) = true) (hrun : (execOp a.eval oi).run P w = .ok (.value v) w')
    (h : wpAny P md l.toArray Q fuel (listed.setIfInBounds i true) (a.put oi.dst v) w') : wpAny P md l.toArray Q (fuel + 1) listed a w := by
  refine wpAny_all hr (by simp) ?_
  intro j hj
  obtain rfl := List.mem_singleton.1 hj
  unfold wpOp
  have hi : l.toArray[j]? = some oi := by simpa using ho
  simp only [hi, hw, if_true, Oper.wp, hrun, Oper.upon]
  exact .inl h
end
end Go.Proofs.YtgfbfklnhmndfaaGreat
