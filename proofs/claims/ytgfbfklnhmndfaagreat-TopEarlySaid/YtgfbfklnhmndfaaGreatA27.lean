/- The parts of the top that the law of early release walks through: part 27 of 52. -/
import Derived.Laws.LoneSync
import Derived.Test.YtgfbfklnhmndfaaGreatA1
import Derived.Test.YtgfbfklnhmndfaaGreatA3
import Derived.Test.YtgfbfklnhmndfaaGreatA9
import Derived.Test.YtgfbfklnhmndfaaGreatA11
import Derived.Test.YtgfbfklnhmndfaaGreatA15
import Derived.Test.YtgfbfklnhmndfaaGreatA20
import Derived.Test.YtgfbfklnhmndfaaGreatA21
import Derived.Test.YtgfbfklnhmndfaaGreatA24
namespace Go.Proofs.YtgfbfklnhmndfaaGreat
open Go.RowKit
set_option linter.unusedSimpArgs false
set_option linter.unusedVariables false
section
attribute [local go_sem ↓] setCell_drewN alloc_drewN grow_cell grow_frozen setCell_grow grow_size cell_alloc_grow frozen_alloc_grow setCell_alloc_grow cell_grow_alloc_grow frozen_grow_alloc_grow setCell_grow_alloc_grow grow_grow
attribute [local go_sem] lt_len size_setCell
section
variable {P : Program} {l : List Oper} {Q : Exit → Act → World → Prop} {md : Region.Mode}
theorem wpAny_bornQ {k : Nat} {D : Nat → Nat} {Y : Nat → Value → Nat → Nat → World → Prop} {a0 : Act} {w0 : World}
    (hinj : ∀ i j, i < k → j < k → D i = D j → i = j) (hD : ∀ i, i < k → D i < a0.tmps.size)
    (stab : ∀ i v lo hi w w', Y i v lo hi w → (∀ b, lo ≤ b → b < hi → w'.heap[b]? = w.heap[b]?) → Y i v lo hi w')
    (hkl : k ≤ l.length)
    (hops : ∀ i, i < k → ∃ o, l[i]? = some o ∧ o.dst = some (D i) ∧ o.guard = none ∧ ∀ e ∈ o.after, Region.binds md e = true → e.on < i)
    (quick : Nat → Bool) (hns : Region.noSelect l.toArray = true) (hQ : ∀ c a (d : Option Nat) v w, Q (.panic c) (a.put d v) w → Q (.panic c) a w)
    (hfree : ∀ i, i < k → quick i = true → Region.free md l.toArray (List.replicate i true ++ List.replicate (l.length - i) false).toArray i = true)
    (qstep : ∀ i, i < k → quick i = true → ∀ o, l[i]? = some o → ∀ (a : Act) (w : World), Kept [] w0 w → (∀ s, (∀ i, i < k → D i ≠ s) → a.tmps.getD s undef = a0.tmps.getD s undef) →
      (∀ e ∈ o.after, Region.binds md e = true → ∃ lo hi, Y e.on (a.tmps.getD (D e.on) undef) lo hi w) → ∃ v, (∀ w, (execOp a.eval o).run P w = .ok (.value v) w) ∧ Y i v w.heap.size w.heap.size w)
    (hwait : ∀ i j, i < k → quick i = false → k ≤ j → l.length ≤ j ∨ mustB md l.toArray i 9 j = true)
    (step : ∀ i, i < k → ∀ o, l[i]? = some o → ∀ a w, Kept [] w0 w → (∀ s, (∀ i, i < k → D i ≠ s) → a.tmps.getD s undef = a0.tmps.getD s undef) →
      (∀ e ∈ o.after, Region.binds md e = true → ∃ lo hi, Y e.on (a.tmps.getD (D e.on) undef) lo hi w) → Bears P (Y i) o a w)
    (tail : ∀ a w, Born P md l k D Y a0 w0 (List.replicate k true ++ List.replicate (l.length - k) false).toArray a w → wpAny P md l.toArray Q (l.length - k) (List.replicate k true ++ List.replicate (l.length - k) false).toArray a w) :
    ∀ (n : Nat) (L : Array Bool) (a : Act) (w : World), left k L = n → Born P md l k D Y a0 w0 L a w → wpAny P md l.toArray Q (n + (l.length - k)) L a w := by
  intro n
  induction n with
  | zero =>
    intro L a w hn h
    have hL : L = (List.replicate k true ++ List.replicate (l.length - k) false).toArray := by
      refine Array.ext (by simp [h.size]; omega) fun i h1 h2 => ?_
      have hg : L.getD i false = L[i] := by simp [Array.getD_eq_getD_getElem?, h1]
      rw [← hg]
      by_cases hik : i < k
      · rw [left_zero k hn i hik]
        simp [List.getElem_append, hik]
      · rw [h.none i (by omega)]
        simp [List.getElem_append, hik]
    subst hL
    rw [Nat.zero_add]
    exact tail a w h
  | succ n ih =>
    intro L a w hn h
    rw [show n + 1 + (l.length - k) = (n + (l.length - k)) + 1 by omega]
    have hex : ∃ i, i < k ∧ L.getD i false = false := by
      by_cases hall : ∃ i, i < k ∧ L.getD i false = false
      · exact hall
      · exfalso
        have hz : left k L = 0 := by
          unfold left
          rw [List.length_eq_zero_iff, List.filter_eq_nil_iff]
          intro i hi
          have hik := List.mem_range.1 hi
          cases hb : L.getD i false with
          | true => simp
          | false => exact absurd ⟨i, hik, hb⟩ hall
        omega
    obtain ⟨i0, hi0, hu0⟩ := hex
    obtain ⟨m, hm, hum, hallm⟩ := least_left (L := L) i0 hu0
    have hmk : m < k := by omega
    obtain ⟨om, hom, hdm, hgm, hafm⟩ := hops m hmk
    have homa : l.toArray[m]? = some om := by simpa using hom
    have hmL : m < L.size := by rw [h.size]; exact (List.getElem?_eq_some_iff.1 hom).1
    have hmr : m ∈ Region.ready md l.toArray L := mem_ready.2 ⟨by simpa [hmL] using hum, om, homa, fun e he hb => hallm e.on (hafm e he hb)⟩
    cases hqm : quick m with
    | true =>
      obtain ⟨lo, hi', h1, h2⟩ := h.has
      obtain ⟨v, hv, hYv⟩ := qstep m hmk hqm om hom a w h.kept h.rest fun e he hbd => ⟨lo e.on, hi' e.on, (h1 e.on (Nat.lt_trans (hafm e he hbd) hmk) (hallm e.on (hafm e he hbd))).2.2.2⟩
      have hw : Region.wanted om (yielded l.toArray a.tmps) = true := by unfold Region.wanted; rw [hgm]
      refine wpAny_take (v := v) homa hns ?_ (by simpa using hmr) (fun c a' w' hq => hQ c _ _ _ w' hq) (Or.inl ⟨hw, hv⟩) ?_
      · have hf := hfree m hmk hqm
        unfold Region.free at hf ⊢
        rw [homa] at hf ⊢
        simp only [List.all_eq_true, List.mem_range] at hf ⊢
        intro j hj
        have := hf j hj
        simp only [Bool.or_eq_true] at this ⊢
        rcases this with (h0 | h0) | h0
        · exact Or.inl (Or.inl h0)
        · by_cases hjm : j < m
          · have := hallm j hjm
            have hjL : j < L.size := by omega
            exact Or.inl (Or.inr (by simpa [hjL] using this))
          · exfalso
            have hjl : j < l.length := by simpa using hj
            rw [Array.getD_eq_getD_getElem?, List.getElem?_toArray, List.getElem?_append_right (by simpa using hjm)] at h0
            simp [List.getElem?_replicate] at h0
            split at h0 <;> simp at h0
            omega
        · exact Or.inr h0
      · exact ih _ _ _ (by have := left_set hmL hum k hmk; omega) (h.next hinj hD stab hmk hom hdm hmr (Kept.refl _ _) hYv)
    | false =>
    have hlate : ∀ j ∈ Region.ready md l.toArray L, j < k := by
      intro j hj
      rcases Nat.lt_or_ge j k with h1 | h1
      · exact h1
      · exfalso
        rcases hwait m j hmk hqm h1 with h2 | h2
        · obtain ⟨_, o, ho, _⟩ := mem_ready.1 hj
          have := (Array.getElem?_eq_some_iff.1 ho).1
          simp at this
          omega
        · exact (must_spec h.closed hum 9 j h2).1 hj
    refine ⟨fun hnil => ?_, fun i hi => ?_⟩
    · exact absurd hmr (by rw [hnil]; simp)
    · have hik := hlate i hi
      obtain ⟨o, ho, hd, hg, haf⟩ := hops i hik
      have hoa : l.toArray[i]? = some o := by simpa using ho
      obtain ⟨hun', o', ho', hall⟩ := mem_ready.1 hi
      rw [hoa] at ho'
      obtain rfl := Option.some.inj ho'
      have hw : Region.wanted o (yielded l.toArray a.tmps) = true := by unfold Region.wanted; rw [hg]
      have hiL : i < L.size := by rw [h.size]; exact (List.getElem?_eq_some_iff.1 ho).1
      have hun : L.getD i false = false := by
        simpa [hiL] using hun'
      obtain ⟨lo, hi', h1, h2⟩ := h.has
      have hb := step i hik o ho a w h.kept h.rest fun e he hbd => ⟨lo e.on, hi' e.on, (h1 e.on (Nat.lt_trans (haf e he hbd) hik) (hall e he hbd)).2.2.2⟩
      have go : ∀ v w', Kept [] w w' → Y i v w.heap.size w'.heap.size w' → wpAny P md l.toArray Q (n + (l.length - k)) (L.setIfInBounds i true) (a.put o.dst v) w' := fun v w' hk hY =>
        ih _ _ _ (by have := left_set hiL hun k hik; omega) (h.next hinj hD stab hik ho hd hi hk hY)
      unfold wpOp
      simp only [hoa, hw, if_true]
      refine .inl ?_
      rcases hb with ⟨v, w', hr, hk, hY⟩ | ⟨f, args, w1, hr, hc⟩
      · simp only [Oper.wp, hr, Oper.upon]
        exact go v w' hk hY
      · simp only [Oper.wp, hr, Oper.upon]
        refine Calls.mono hc ?_
        rintro e w' ⟨v, rfl, hk, hY⟩
        exact go v w' hk hY
end
def fillR (vs : Nat → Value) : List Nat → Array Value → Array Value
  | [], u => u
  | d :: ds, u => fillR vs ds (u.setIfInBounds d (vs ds.length))
theorem fill_desc (D : Nat → Nat) (vs : Nat → Value) : ∀ (k : Nat) (u : Array Value), fill D vs k u = fillR vs ((List.range k).reverse.map D) u
  | 0, u => rfl
  | k + 1, u => by
    rw [List.range_succ, List.reverse_append]
    show fill D vs k (u.setIfInBounds (D k) (vs k)) = fillR vs ((List.range k).reverse.map D) (u.setIfInBounds (D k) (vs ((List.range k).reverse.map D).length))
    rw [fill_desc D vs k]
    simp
/-- The first k operations are such as the law wants them, those of qs may come late. -/
def bornQB (md : Region.Mode) (l : List Oper) (k n : Nat) (qs : List Nat) : Bool :=
  decide (k ≤ l.length) && Region.noSelect l.toArray && (qs.all fun i => Region.free md l.toArray (List.replicate i true ++ List.replicate (l.length - i) false).toArray i) &&
  ((List.range k).all fun i => (match l[i]? with
    | some o => (o.dst == some (dstOf l i)) && o.guard.isNone && o.after.all (fun e => !Region.binds md e || decide (e.on < i))
    | none => false) && decide (dstOf l i < n) &&
    ((List.range k).all fun j => decide (i = j) || !(dstOf l i == dstOf l j)) &&
    ((List.range l.length).all fun j => decide (j < k) || qs.contains i || mustB md l.toArray i 9 j))
theorem bornQ {l : List Oper} {P : Program} {Q : Exit → Act → World → Prop} (k : Nat) (qs : List Nat) (Ds : List Nat) (Y : Nat → Value → Nat → Nat → World → Prop) {id : Nat} {t0 : Array Value} {w0 : World} (hm : P.follows .mixedOrders = true)
    (hb : bornQB .any l k t0.size qs = true) (hc : ((List.range k).reverse.map (dstOf l) == Ds) = true) (hQ : ∀ c a (d : Option Nat) v w, Q (.panic c) (a.put d v) w → Q (.panic c) a w)
    (stab : ∀ i v lo hi w w', Y i v lo hi w → (∀ b, lo ≤ b → b < hi → w'.heap[b]? = w.heap[b]?) → Y i v lo hi w')
    (step : ∀ i, i < k → ∀ o, l[i]? = some o → ∀ (a : Act) (w : World), (∀ s, ((List.range k).all fun i => !(dstOf l i == s)) = true → a.tmps.getD s undef = t0.getD s undef) →
      (∀ j s, dstOf l j = s → o.after.any (fun e => Region.binds .any e && (e.on == j)) = true → ∃ lo hi, Y j (a.tmps.getD s undef) lo hi w) → Kept [] w0 w →
      (qs.contains i = true → ∃ v, (∀ w, (execOp a.eval o).run P w = .ok (.value v) w) ∧ Y i v w.heap.size w.heap.size w) ∧ (qs.contains i = false → Bears P (Y i) o a w))
    (tail : ∀ (vs : Nat → Value) (lo hi : Nat → Nat) w, Kept [] w0 w → (∀ i, i < k → w0.heap.size ≤ lo i ∧ lo i ≤ hi i ∧ hi i ≤ w.heap.size ∧ Y i (vs i) (lo i) (hi i) w) → (∀ i j, i < k → j < k → i ≠ j → hi i ≤ lo j ∨ hi j ≤ lo i) →
      wpAny P .any l.toArray Q (l.length - k) (List.replicate k true ++ List.replicate (l.length - k) false).toArray ⟨fillR vs Ds t0, []⟩ w) :
    (Code.region id l.toArray true).wp P Q ⟨t0, []⟩ w0 := by
  refine wp_region_any hm ?_
  rw [List.size_toArray]
  unfold bornQB at hb
  simp only [Bool.and_eq_true, List.all_eq_true, List.mem_range, decide_eq_true_eq, Bool.or_eq_true, Bool.not_eq_true'] at hb
  obtain ⟨⟨⟨hkl, hns⟩, hfr⟩, hb⟩ := hb
  have hz : left k (Array.replicate l.length false) = k := by
    unfold left
    rw [List.filter_eq_self.2, List.length_range]
    intro j hj
    simp [Array.getD_eq_getD_getElem?, Array.getElem?_replicate]
    split <;> rfl
  have hrest : ∀ {t : Array Value}, (∀ s, (∀ i, i < k → dstOf l i ≠ s) → t.getD s undef = t0.getD s undef) → ∀ s, ((List.range k).all fun i => !(dstOf l i == s)) = true → t.getD s undef = t0.getD s undef := fun hr s hs => hr s fun i hi he => by
    have := List.all_eq_true.1 hs i (List.mem_range.2 hi)
    rw [he] at this
    simp at this
  have tailB : ∀ a w, Born P .any l k (dstOf l) Y ⟨t0, []⟩ w0.drew (List.replicate k true ++ List.replicate (l.length - k) false).toArray a w → wpAny P .any l.toArray Q (l.length - k) (List.replicate k true ++ List.replicate (l.length - k) false).toArray a w := by
    intro a w h
    obtain ⟨lo, hi, h1, h2⟩ := h.has
    have hl : ∀ i, i < k → (List.replicate k true ++ List.replicate (l.length - k) false).toArray.getD i false = true := fun i hi => by
      rw [Array.getD_eq_getD_getElem?, List.getElem?_toArray, List.getElem?_append_left (by simpa using hi)]
      simp [List.getElem?_replicate, hi]
    have ha : a = ⟨fillR (fun i => a.tmps.getD (dstOf l i) undef) Ds t0, []⟩ := by
      have h3 := fill_eq (dstOf l) (fun i => a.tmps.getD (dstOf l i) undef) k a.tmps t0 h.slots h.rest (fun i _ => rfl)
      have h4 := h.defers
      rw [fill_desc, eq_of_beq hc] at h3
      cases a
      simp only at h3 h4 ⊢
      rw [← h3, h4]
    rw [ha]
    exact tail _ lo hi w h.kept (fun i hik => h1 i hik (hl i hik)) (fun i j hi hj hne => h2 i j hi hj (hl i hi) (hl j hj) hne)
  have := wpAny_bornQ (P := P) (l := l) (Q := Q) (md := .any) (k := k) (D := dstOf l) (Y := Y) (a0 := ⟨t0, []⟩) (w0 := w0.drew) (fun i j hi hj he => by
      have := (hb i hi).1.2 j hj
      rcases this with h | h
      · exact h
      · rw [he] at h; simp at h) (fun i hi => (hb i hi).1.1.2) stab hkl (fun i hi => by
      have := (hb i hi).1.1.1
      cases ho : l[i]? with
      | none => rw [ho] at this; simp at this
      | some o =>
        rw [ho] at this
        simp only [Bool.and_eq_true, beq_iff_eq] at this
        obtain ⟨⟨h1, h2⟩, h3⟩ := this
        refine ⟨o, rfl, h1, by simpa using h2, fun e he hbd => ?_⟩
        have := Array.all_eq_true_iff_forall_mem.1 h3 e he
        simpa [hbd] using this) (fun i => qs.contains i) hns hQ (fun i hi hq => hfr i (by simpa using hq)) (fun i hi hq o ho a w hk hr hd => (step i hi o ho a w (hrest hr) (fun j s hs h => dep hd j s hs h) hk).1 hq) (fun i j hi hq hj => by
      rcases Nat.lt_or_ge j l.length with h | h
      · have := (hb i hi).2 j h
        rcases this with (h1 | h1) | h1
        · omega
        · rw [h1] at hq; cases hq
        · exact Or.inr h1
      · exact Or.inl h) (fun i hi o ho a w hk hr hd => ?_) tailB k (Array.replicate l.length false) ⟨t0, []⟩ w0.drew hz ⟨by simp, ?_, ?_, rfl, rfl, fun _ _ => rfl, Kept.refl _ _, fun _ => 0, fun _ => 0, ?_, ?_⟩
  · rwa [show k + (l.length - k) = l.length by omega] at this
  · have st := step i hi o ho a w (hrest hr) (fun j s hs h => dep hd j s hs h) hk
    cases hq : qs.contains i with
    | false => exact st.2 hq
    | true =>
      obtain ⟨v, hv, hY⟩ := st.1 hq
      exact born_value v (hv w) hY
  · intro m o _ hl
    simp [Array.getD_eq_getD_getElem?, Array.getElem?_replicate] at hl
    split at hl <;> simp at hl
  · intro i _
    simp [Array.getD_eq_getD_getElem?, Array.getElem?_replicate]
    split <;> rfl
  · intro i _ hl
    simp [Array.getD_eq_getD_getElem?, Array.getElem?_replicate] at hl
    split at hl <;> simp at hl
  · intro i j _ _ hl
    simp [Array.getD_eq_getD_getElem?, Array.getElem?_replicate] at hl
    split at hl <;> simp at hl
end
end Go.Proofs.YtgfbfklnhmndfaaGreat
