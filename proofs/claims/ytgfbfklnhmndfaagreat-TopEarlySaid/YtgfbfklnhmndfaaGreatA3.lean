/- The parts of the top that the law of early release walks through: part 3 of 52. -/
import Derived.Test.YtgfbfklnhmndfaaGreatA1
namespace Go.Proofs.YtgfbfklnhmndfaaGreat
open Go.RowKit
set_option linter.unusedSimpArgs false
set_option linter.unusedVariables false
section
section
variable {P : Program} {ops : Array Oper} {Q : Exit → Act → World → Prop} {md : Region.Mode} {S : World → Prop}
/-- In every world of S the operation leaves v, and a world of S. -/
def GrowsIf (P : Program) (ops : Array Oper) (S : World → Prop) (o : Oper) (v : Value) (a : Act) : Prop :=
  (Region.wanted o (yielded ops a.tmps) = true ∧ ∀ w, S w → (∃ w', (execOp a.eval o).run P w = .ok (.value v) w' ∧ S w') ∨
    (∃ f args w1, (execOp a.eval o).run P w = .ok (.enter f args) w1 ∧ Calls P f args w1 (fun e w' => e = .returned v ∧ S w'))) ∨
  (Region.wanted o (yielded ops a.tmps) = false ∧ v = undef)
theorem GrowsIf.of_same {o : Oper} {v : Value} {a a' : Act} (hy : GrowsIf P ops S o v a) (he : execOp a'.eval o = execOp a.eval o)
    (hw : Region.wanted o (yielded ops a'.tmps) = Region.wanted o (yielded ops a.tmps)) : GrowsIf P ops S o v a' := by
  unfold GrowsIf at *
  rw [he, hw]
  exact hy
theorem GrowsIf.wpOp {i : Nat} {o : Oper} {v : Value} {a : Act} (hi : ops[i]? = some o) (hy : GrowsIf P ops S o v a)
    {K : Act → World → Prop} {w : World} (hS : S w) (h : ∀ w', S w' → K (a.put o.dst v) w') : wpOp P ops Q i K a w := by
  unfold Go.wpOp
  simp only [hi]
  rcases hy with ⟨hw, hv⟩ | ⟨hw, rfl⟩
  · rcases hv w hS with ⟨w', hr, hs⟩ | ⟨f, args, w1, hr, hc⟩
    · simp only [hw, if_true, Oper.wp, hr, Oper.upon]
      exact .inl (h w' hs)
    · simp only [hw, if_true, Oper.wp, hr, Oper.upon]
      refine .inl (Calls.mono hc ?_)
      rintro e w' ⟨rfl, hs⟩
      exact h w' hs
  · simp only [hw, Bool.false_eq_true, if_false]
    exact h w hS
theorem wpOp_putG {j : Nat} {oi oj : Oper} {v : Value} (hj : ops[j]? = some oj) (hap : oi.apart ops oj = true)
    (hsi : ∀ cs b, oi.op ≠ .select cs b) (hsj : ∀ cs b, oj.op ≠ .select cs b)
    (hQ : ∀ c a w, Q (.panic c) (a.put oi.dst v) w → Q (.panic c) a w) {K : Act → World → Prop} {a : Act} {w : World}
    (hy : GrowsIf P ops S oi v a) (h : wpOp P ops Q j K (a.put oi.dst v) w) :
    wpOp P ops Q j (fun a' w' => GrowsIf P ops S oi v a' ∧ K (a'.put oi.dst v) w') a w := by
  obtain ⟨h1, h2, h3⟩ := Oper.apart_spec hap
  have keep : ∀ (a : Act), GrowsIf P ops S oi v a → ∀ u, GrowsIf P ops S oi v (a.put oj.dst u) := fun a hy u =>
    hy.of_same (execOp_put oi hsi a oj.dst u h3) (wanted_put oi a oj.dst u h3)
  have keepD : ∀ d, GrowsIf P ops S oi v { a with defers := d :: a.defers } := fun d => hy.of_same rfl rfl
  unfold wpOp at *
  simp only [hj] at *
  rw [wanted_put oj a oi.dst v h1] at h
  split
  · rename_i hw
    simp only [hw, if_true] at h
    rcases h with h | ⟨hasks, hlets⟩
    case inr => exact .inr ⟨by unfold Oper.asks at *; rw [execOp_put oj hsj a oi.dst v h1] at hasks; exact hasks, hlets⟩
    refine .inl ?_
    unfold Oper.wp at *
    rw [execOp_put oj hsj a oi.dst v h1] at h
    generalize (execOp a.eval oj).run P w = r at *
    cases r with
    | ok n w' =>
      cases n <;> simp only [Oper.upon] at h ⊢
      case value u => exact ⟨keep a hy u, by rw [← Act.put_comm a v u h2]; exact h⟩
      case skip => exact ⟨keep a hy _, by rw [← Act.put_comm a v undef h2]; exact h⟩
      case defer d =>
        refine ⟨keep _ (keepD d) _, ?_⟩
        rw [← Act.put_comm _ v undef h2, ← Act.put_defers]
        exact h
      case enter f args =>
        refine Calls.mono h fun e w'' he => ?_
        cases e with
        | returned u => exact ⟨keep a hy u, by rw [← Act.put_comm a v u h2]; exact he⟩
        | panicked c => exact hQ _ _ _ he
        | outgrown => exact he
      case row row args => exact Rows.mono h fun u w'' he => ⟨keep a hy u, by rw [← Act.put_comm a v u h2]; exact he⟩
    | halt x w' =>
      cases x <;> simp only [Oper.upon] at h ⊢
      case panic u => exact hQ _ _ _ h
  · rename_i hw
    simp only [hw] at h
    exact ⟨keep a hy _, by rw [← Act.put_comm a v undef h2]; exact h⟩
/-- All that is listed stands behind what it waits for. -/
def Closed (md : Region.Mode) (ops : Array Oper) (listed : Array Bool) : Prop :=
  ∀ (k : Nat) (o : Oper), ops[k]? = some o → listed.getD k false = true → ∀ e ∈ o.after, Region.binds md e = true → listed.getD e.on false = true
theorem Closed.add {listed : Array Bool} {j : Nat} (hc : Closed md ops listed) (hj : j ∈ Region.ready md ops listed) : Closed md ops (listed.setIfInBounds j true) := by
  intro k o hk hl e he hb
  by_cases hkj : j = k
  · subst hkj
    obtain ⟨_, o', ho', hall⟩ := mem_ready.1 hj
    rw [hk] at ho'
    obtain rfl := Option.some.inj ho'
    exact getD_set_true (hall e he hb)
  · rw [getD_set_ne false hkj] at hl
    exact getD_set_true (hc k o hk hl e he hb)
/-- Operation k waits, at last, for operation i. -/
def mustB (md : Region.Mode) (ops : Array Oper) (i : Nat) : Nat → Nat → Bool
  | 0, _ => false
  | n + 1, k => match ops[k]? with
    | none => false
    | some o => o.after.any fun e => Region.binds md e && (e.on == i || mustB md ops i n e.on)
theorem must_spec {listed : Array Bool} {i : Nat} (hc : Closed md ops listed) (hi : listed.getD i false = false) :
    ∀ (n k : Nat), mustB md ops i n k = true → k ∉ Region.ready md ops listed ∧ listed.getD k false = false := by
  intro n
  induction n with
  | zero => intro k h; simp [mustB] at h
  | succ n ih =>
    intro k h
    unfold mustB at h
    cases ho : ops[k]? with
    | none => simp [ho] at h
    | some o =>
      simp only [ho] at h
      obtain ⟨e, he, hb⟩ := Array.any_eq_true'.1 h
      simp only [Bool.and_eq_true, Bool.or_eq_true, beq_iff_eq] at hb
      have hon : listed.getD e.on false = false := by
        rcases hb.2 with h1 | h1
        · rw [h1]; exact hi
        · exact (ih e.on h1).2
      constructor
      · intro hr
        obtain ⟨_, o', ho', hall⟩ := mem_ready.1 hr
        rw [ho] at ho'
        obtain rfl := Option.some.inj ho'
        have := hall e he hb.1
        rw [hon] at this
        cases this
      · cases hl : listed.getD k false with
        | false => rfl
        | true =>
          have := hc k o ho hl e he hb.1
          rw [hon] at this
          cases this
/-- Until k comes the world is any one of S. -/
def wpAnyS (P : Program) (md : Region.Mode) (ops : Array Oper) (Q : Exit → Act → World → Prop) (S : World → Prop) (k : Nat) : Nat → Array Bool → Act → Prop
  | 0, listed, a => ∀ w, S w → wpAny P md ops Q 0 listed a w
  | fuel + 1, listed, a =>
    ((∀ j ∈ Region.ready md ops listed, j = k) ∧ ∀ w, S w → wpAny P md ops Q (fuel + 1) listed a w) ∨
    (k ∉ Region.ready md ops listed ∧ (Region.ready md ops listed = [] → ∀ w, S w → Q .normal a w) ∧
      ∀ i ∈ Region.ready md ops listed, ∀ w, S w → wpOp P ops Q i (fun a' w' => S w' ∧ wpAnyS P md ops Q S k fuel (listed.setIfInBounds i true) a') a w)
theorem wpAnyS_any {k : Nat} : ∀ (fuel : Nat) (listed : Array Bool) (a : Act), wpAnyS P md ops Q S k fuel listed a → ∀ w, S w → wpAny P md ops Q fuel listed a w
  | 0, _, _, h, w, hS => h w hS
  | fuel + 1, listed, a, h, w, hS => by
    rcases h with ⟨_, h⟩ | ⟨_, h0, h1⟩
    · exact h w hS
    · exact ⟨fun hr => h0 hr w hS, fun i hi => wpOp_mono (fun a' w' h' => wpAnyS_any fuel _ a' h'.2 w' h'.1) (h1 i hi w hS)⟩
theorem wpAnyS_first {i k n : Nat} {oi : Oper} {v : Value} (hi : ops[i]? = some oi) (hsel : ∀ (j : Nat) (o : Oper) cs b, ops[j]? = some o → o.op ≠ .select cs b)
    (hQ : ∀ c a w, Q (.panic c) (a.put oi.dst v) w → Q (.panic c) a w) (hk : ops.size ≤ k ∨ mustB md ops i n k = true) :
    ∀ (fuel : Nat) (listed : Array Bool) (a : Act),
      (∀ j oj, ops[j]? = some oj → j ≠ i → listed.getD j true = false → (∀ e ∈ oj.after, Region.binds md e = true → e.on ≠ i) → oi.apart ops oj = true) →
      Closed md ops listed → i ∈ Region.ready md ops listed → GrowsIf P ops S oi v a →
      wpAnyS P md ops Q S k fuel (listed.setIfInBounds i true) (a.put oi.dst v) → wpAnyS P md ops Q S k (fuel + 1) listed a := by
  have nok : ∀ listed, Closed md ops listed → i ∈ Region.ready md ops listed → k ∉ Region.ready md ops listed := fun listed hc hr => by
    rcases hk with hk | hk
    · intro h
      obtain ⟨_, o, ho, _⟩ := mem_ready.1 h
      have := (Array.getElem?_eq_some_iff.1 ho).1
      omega
    · refine (must_spec hc ?_ n k hk).1
      have := (mem_ready.1 hr).1
      rcases Nat.lt_or_ge i listed.size with h' | h'
      · simpa [h'] using this
      · simp [Array.getElem?_eq_none h']
  intro fuel
  induction fuel with
  | zero =>
    intro listed a _ hc hr hy H
    refine Or.inr ⟨nok listed hc hr, fun h => (by rw [h] at hr; cases hr), fun j hj w hS => ?_⟩
    by_cases hji : j = i
    · subst hji; exact hy.wpOp hi hS fun w' hS' => ⟨hS', H⟩
    · have := ready_mono hj hji
      rw [(H w hS).1] at this
      cases this
  | succ fuel ih =>
    intro listed a hfree hc hr hy H
    refine Or.inr ⟨nok listed hc hr, fun h => (by rw [h] at hr; cases hr), fun j hj w hS => ?_⟩
    by_cases hji : j = i
    · subst hji; exact hy.wpOp hi hS fun w' hS' => ⟨hS', H⟩
    · rcases H with ⟨hone, _⟩ | ⟨_, _, H⟩
      · have := hone j (ready_mono hj hji)
        subst this
        exact absurd hj (nok listed hc hr)
      · have h1 := H j (ready_mono hj hji) w hS
        obtain ⟨hjun, oj, hoj, hall⟩ := mem_ready.1 hj
        have hnot : ∀ e ∈ oj.after, Region.binds md e = true → e.on ≠ i := fun e he hb heq => by
          have h1 := hall e he hb
          have h0 := (mem_ready.1 hr).1
          rw [heq] at h1
          rcases Nat.lt_or_ge i listed.size with h' | h'
          · simp [h'] at h0 h1; rw [h0] at h1; cases h1
          · simp [Array.getElem?_eq_none h'] at h1
        have h2 := wpOp_putG hoj (hfree j oj hoj hji hjun hnot) (fun cs b => hsel i oi cs b hi) (fun cs b => hsel j oj cs b hoj) hQ hy h1
        have hfree' : ∀ k ok, ops[k]? = some ok → k ≠ i → (listed.setIfInBounds j true).getD k true = false →
            (∀ e ∈ ok.after, Region.binds md e = true → e.on ≠ i) → oi.apart ops ok = true := fun k ok hk hki hun hno => by
          refine hfree k ok hk hki ?_ hno
          by_cases hjk : j = k
          · subst hjk; exact hjun
          · rw [getD_set_ne true hjk] at hun; exact hun
        refine wpOp_mono (fun a' w' h3 => ⟨h3.2.1, ih (listed.setIfInBounds j true) a' hfree' (hc.add hj) (ready_mono hr (Ne.symm hji)) h3.1 ?_⟩) h2
        rw [Array.setIfInBounds_comm _ _ hji]
        exact h3.2.2
/-- All that is listed stands behind what it waits for, as a Bool. -/
def closedB (md : Region.Mode) (ops : Array Oper) (listed : Array Bool) : Bool :=
  (List.range ops.size).all fun k => match ops[k]? with
    | none => true
    | some o => !listed.getD k false || o.after.all fun e => !Region.binds md e || listed.getD e.on false
theorem closed_spec {listed : Array Bool} (h : closedB md ops listed = true) : Closed md ops listed := by
  intro k o hk hl e he hb
  have hlt := (Array.getElem?_eq_some_iff.1 hk).1
  unfold closedB at h
  rw [List.all_eq_true] at h
  have h1 := h k (List.mem_range.2 hlt)
  simp only [hk, hl, Bool.not_true, Bool.false_or] at h1
  have h2 := Array.all_eq_true_iff_forall_mem.1 h1 e he
  simpa [hb] using h2
theorem sTake {P : Program} {l : List Oper} {Q : Exit → Act → World → Prop} {md : Region.Mode} {S : World → Prop} {i k : Nat} {oi : Oper} {v : Value} {fuel : Nat} {listed : Array Bool} {a : Act} (ho : l[i]? = some oi)
    (hs : (Region.noSelect l.toArray && Region.free md l.toArray listed i && (Region.ready md l.toArray listed).contains i && closedB md l.toArray listed && (decide (l.toArray.size ≤ k) || mustB md l.toArray i 9 k)) = true)
    (hQ : ∀ c a w, Q (.panic c) (a.put oi.dst v) w → Q (.panic c) a w) (hy : GrowsIf P l.toArray S oi v a)
    (h : wpAnyS P md l.toArray Q S k fuel (listed.setIfInBounds i true) (a.put oi.dst v)) : wpAnyS P md l.toArray Q S k (fuel + 1) listed a := by
  simp only [Bool.and_eq_true, Bool.or_eq_true, decide_eq_true_eq] at hs
  obtain ⟨⟨⟨⟨h1, h2⟩, h3⟩, h4⟩, h5⟩ := hs
  have hi : l.toArray[i]? = some oi := by simpa using ho
  exact wpAnyS_first hi (Region.noSelect_spec h1) hQ h5 fuel listed a (Region.free_spec hi h2) (closed_spec h4) (by simpa using h3) hy h
theorem sRest {P : Program} {l : List Oper} {Q : Exit → Act → World → Prop} {md : Region.Mode} {S : World → Prop} {k : Nat} {fuel : Nat} {listed : Array Bool} {a : Act}
    (hs : (Region.ready md l.toArray listed).all (fun j => j == k) = true)
    (h : ∀ w, S w → wpAny P md l.toArray Q (fuel + 1) listed a w) : wpAnyS P md l.toArray Q S k (fuel + 1) listed a :=
  Or.inl ⟨fun j hj => by simpa using (List.all_eq_true.1 hs) j hj, h⟩
theorem sDone {P : Program} {l : List Oper} {Q : Exit → Act → World → Prop} {md : Region.Mode} {S : World → Prop} {k : Nat} {listed : Array Bool} {a : Act}
    (hr : Region.ready md l.toArray listed = []) (h : ∀ w, S w → Q .normal a w) : wpAnyS P md l.toArray Q S k 0 listed a :=
  fun w hS => wpAny_done hr (h w hS) 0
end
end
section
/-- Of two heaps and their streams: all blocks but those of S stand as they were. -/
structure KeptC (S : List Nat) (h h' : Array Obj) {A B C : Type} (o o' : A) (t t' : B) (p p' : C) : Prop where
  grown : h.size ≤ h'.size
  block : ∀ b, b < h.size → b ∉ S → h'[b]? = h[b]?
  os : o' = o
  tape : t' = t
  output : p' = p
/-- All blocks but those of S stand as they were, and so do the streams. -/
def Kept (S : List Nat) (w w' : World) : Prop := KeptC S w.heap w'.heap w.os w'.os w.tape w'.tape w.output w'.output
theorem heap_grow {w : World} {os : List Obj} {q b : Nat} (h : b < w.heap.size) : (grow w os q).heap[b]? = w.heap[b]? := (grow_below w os q).block b h
theorem heap_alloc {w : World} {o : Obj} {b : Nat} (h : b < w.heap.size) : (w.alloc o).heap[b]? = w.heap[b]? := by
  unfold World.alloc
  simp only
  rw [Array.getElem?_push]
  simp [Nat.ne_of_lt h]
theorem heap_alloc_new {w : World} {o : Obj} : (w.alloc o).heap[w.heap.size]? = some o := by
  unfold World.alloc
  simp
theorem heap_setCell_ne {w : World} {a : Addr} {v : Value} {b : Nat} (h : a.block ≠ b) : (w.setCell a v).heap[b]? = w.heap[b]? := by
  unfold World.setCell
  simp only [Array.getElem?_modify]
  simp [h]
theorem heap_setCell {w : World} {b i : Nat} {v : Value} {c : Array Value} {ty : TypeId} (h : w.heap[b]? = some (.cells c ty (0, 0))) :
    (w.setCell ⟨b, i, none⟩ v).heap[b]? = some (.cells (c.setIfInBounds i v) ty (0, 0)) := by
  unfold World.setCell
  simp only [Array.getElem?_modify]
  simp [h]
theorem size_setCell (w : World) (a : Addr) (v : Value) : (w.setCell a v).heap.size = w.heap.size := by
  unfold World.setCell
  simp
theorem heap_drewN (w : World) (q b : Nat) : (w.drewN q).heap[b]? = w.heap[b]? := rfl
theorem heap_drew (w : World) (b : Nat) : w.drew.heap[b]? = w.heap[b]? := rfl
theorem heap_lt {w : World} {b : Nat} {o : Obj} (h : w.heap[b]? = some o) : b < w.heap.size := (Array.getElem?_eq_some_iff.1 h).1
theorem Kept.refl (S : List Nat) (w : World) : Kept S w w := ⟨Nat.le_refl _, fun _ _ _ => rfl, rfl, rfl, rfl⟩
theorem Kept.trans {S T U : List Nat} {a b c : World} (h : Kept S a b) (g : Kept T b c) (hS : ∀ x ∈ S, x ∈ U) (hT : ∀ x ∈ T, x ∈ U ∨ a.heap.size ≤ x) : Kept U a c := by
  refine ⟨Nat.le_trans h.1 g.1, fun x hx hu => ?_, g.os.trans h.os, g.tape.trans h.tape, g.output.trans h.output⟩
  rw [g.2 x (Nat.lt_of_lt_of_le hx h.1) fun ht => ?_, h.2 x hx fun hs => hu (hS x hs)]
  rcases hT x ht with h1 | h1
  · exact hu h1
  · omega
theorem Kept.mono {S U : List Nat} {a b : World} (h : Kept S a b) (hS : ∀ x ∈ S, x ∈ U ∨ a.heap.size ≤ x) : Kept U a b :=
  ⟨h.1, fun x hx hu => h.2 x hx fun hs => by
    rcases hS x hs with h1 | h1
    · exact hu h1
    · omega, h.os, h.tape, h.output⟩
theorem Kept.grow {S : List Nat} {a b : World} (h : Kept S a b) (os : List Obj) (q : Nat) : Kept S a (grow b os q) :=
  ⟨by rw [grow_size]; have := h.1; omega, fun x hx hu => by rw [heap_grow (Nat.lt_of_lt_of_le hx h.1), h.2 x hx hu], (grow_below b os q).os.trans h.os, (grow_below b os q).tape.trans h.tape, (grow_below b os q).output.trans h.output⟩
theorem Kept.alloc {S : List Nat} {a b : World} (h : Kept S a b) (o : Obj) : Kept S a (b.alloc o) :=
  ⟨by simp; have := h.1; omega, fun x hx hu => by rw [heap_alloc (Nat.lt_of_lt_of_le hx h.1), h.2 x hx hu], h.os, h.tape, h.output⟩
theorem Kept.drewN {S : List Nat} {a b : World} (h : Kept S a b) (q : Nat) : Kept S a (b.drewN q) := ⟨h.1, h.2, h.3, h.4, h.5⟩
theorem Kept.drew {S : List Nat} {a b : World} (h : Kept S a b) : Kept S a b.drew := ⟨h.1, h.2, h.3, h.4, h.5⟩
theorem Kept.setCell {S : List Nat} {a b : World} (h : Kept S a b) (d : Addr) (v : Value) (hd : d.block ∈ S ∨ a.heap.size ≤ d.block) : Kept S a (b.setCell d v) :=
  ⟨by rw [size_setCell]; exact h.1, fun x hx hu => by
    rw [heap_setCell_ne, h.2 x hx hu]
    rintro rfl
    rcases hd with h1 | h1
    · exact hu h1
    · omega, h.os, h.tape, h.output⟩
theorem Kept.setBlock {S : List Nat} {a b : World} (h : Kept S a b) (d : Nat) (o : Obj) (hd : d ∈ S ∨ a.heap.size ≤ d) : Kept S a (Go.ChangeMaps.setBlock b d o) :=
  ⟨by unfold Go.ChangeMaps.setBlock; simp only [Array.size_setIfInBounds]; exact h.1, fun x hx hu => by
    have hne : d ≠ x := by
      rintro rfl
      rcases hd with h1 | h1
      · exact hu h1
      · omega
    unfold Go.ChangeMaps.setBlock
    simp only [Array.getElem?_setIfInBounds_ne hne]
    exact h.2 x hx hu, h.os, h.tape, h.output⟩
theorem Kept.at {S : List Nat} {a b : World} {o : Obj} (h : Kept S a b) {x : Nat} (hx : a.heap[x]? = some o) (hu : x ∉ S) : b.heap[x]? = some o := by
  rw [h.2 x (heap_lt hx) hu, hx]
theorem Kept.size {S : List Nat} {a b : World} (h : Kept S a b) : a.heap.size ≤ b.heap.size := h.1
theorem Kept.lt {S : List Nat} {a b : World} (h : Kept S a b) {x : Nat} (hx : x < a.heap.size) : x < b.heap.size := Nat.lt_of_lt_of_le hx h.1
/-- A block of cells none of which is frozen. -/
theorem cell_of {w : World} {b : Nat} {c : Array Value} {ty : TypeId} (h : w.heap[b]? = some (.cells c ty (0, 0))) (i : Nat) : w.cell? ⟨b, i, none⟩ = c[i]? := by
  unfold World.cell?
  simp [h]
theorem frozen_of {w : World} {b : Nat} {c : Array Value} {ty : TypeId} (h : w.heap[b]? = some (.cells c ty (0, 0))) (i : Nat) : w.frozen? ⟨b, i, none⟩ = false := by
  unfold World.frozen?
  simp [h]
end
end Go.Proofs.YtgfbfklnhmndfaaGreat
