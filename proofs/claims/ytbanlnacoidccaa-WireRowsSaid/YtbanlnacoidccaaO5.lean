/- Bytes of the call's own, at whatever place of their block: read, cut, appended to. -/
import Derived.Test.YtbanlnacoidccaaO4
import Derived.ArgAppend
import Derived.Deep.Upon
namespace Go.Proofs.Ytbanlnacoidccaa
open Go.RowKit
set_option linter.unusedSimpArgs false
set_option linter.unusedVariables false

/-- v is a slice of bytes of the call's own (in blocks from base on), at whatever place, that holds xs; its room may be written. -/
def OV (w : World) (base : Nat) (v : Value) (xs : List Int) : Prop :=
  (v = .slice none 0 0 ∧ xs = []) ∨ ∃ g o cap, v = .slice (some ⟨g, o, none⟩) xs.length cap ∧ base ≤ g ∧ g < w.heap.size ∧ Bytes w g o xs ∧ xs.length ≤ cap ∧ cap ≤ 9223372036854775807 ∧
    ∀ j, xs.length ≤ j → j < cap → (w.cell? ⟨g, o + j, none⟩).isSome = true ∧ w.frozen? ⟨g, o + j, none⟩ = false

theorem OV.all {w : World} {base : Nat} {v : Value} {xs : List Int} (h : OV w base v xs) : AllB xs := by
  rcases h with ⟨_, rfl⟩ | ⟨g, o, cap, _, _, _, hB, _⟩
  · exact allB_nil
  · exact fun i hi => (hB i hi).2

theorem OV.sl {w : World} {base : Nat} {v : Value} {xs : List Int} (h : OV w base v xs) : ∃ A cap, v = .slice A xs.length cap ∧ Sl w A xs.length cap xs ∧ (A = none → cap = 0) := by
  have ha := h.all
  rcases h with ⟨rfl, rfl⟩ | ⟨g, o, cap, rfl, hg, hl, hB, hc, hm, _⟩
  · exact ⟨none, 0, rfl, ⟨rfl, Nat.le_refl _, by simp, ha, fun h => by simp at h⟩, fun _ => rfl⟩
  · exact ⟨_, cap, rfl, ⟨rfl, hc, hm, ha, fun _ => ⟨g, o, rfl, hl, hB⟩⟩, fun h => by cases h⟩

theorem OV.kept {w w' : World} {base : Nat} {v : Value} {xs : List Int} (h : OV w base v xs) (hs : w.heap.size ≤ w'.heap.size) (hb : ∀ g, v.ownBlock = some g → w'.heap[g]? = w.heap[g]?) : OV w' base v xs := by
  rcases h with h | ⟨g, o, cap, rfl, hg, hl, hB, hc, hm, hr⟩
  · exact Or.inl h
  · have e := hb g rfl
    refine Or.inr ⟨g, o, cap, rfl, hg, Nat.lt_of_lt_of_le hl hs, hB.kept e, hc, hm, fun j h1 h2 => ?_⟩
    rw [World.cell?_of_block (w := w) (a := ⟨g, o + j, none⟩) e, World.frozen?_of_block (w := w) (a := ⟨g, o + j, none⟩) e]
    exact hr j h1 h2

theorem OV.lt {w : World} {base : Nat} {v : Value} {xs : List Int} (h : OV w base v xs) {g : Nat} (hg : v.ownBlock = some g) : base ≤ g ∧ g < w.heap.size := by
  rcases h with ⟨rfl, _⟩ | ⟨g', o, cap, rfl, hb, hl, _⟩
  · simp [Value.ownBlock] at hg
  · simp [Value.ownBlock] at hg
    subst hg
    exact ⟨hb, hl⟩

theorem OV.below {w w' : World} {base : Nat} {v : Value} {xs : List Int} (h : OV w base v xs) (hb : Below w.heap.size w w') : OV w' base v xs :=
  h.kept hb.size fun g hg => hb.block g (h.lt hg).2

theorem OV.of_row {w : World} {base n : Nat} {v : Value} {xs : List Int} (ha : AllB xs) (h : w.ownsRow base 5 1 v n (bv xs)) : OV w base v xs := by
  have hl : xs.length = n := by have := h.1; simp [bv] at this; exact this
  subst hl
  rcases h.2 with ⟨rfl, hn⟩ | ⟨g, cap, cur, rfl, hg, hh, hn, hc, hsz, htk⟩
  · exact Or.inl ⟨rfl, List.length_eq_zero_iff.1 hn⟩
  · have hO : OB w base (.slice (some ⟨g, 0, none⟩) xs.length cap) xs := h
    refine Or.inr ⟨g, 0, cap, rfl, hg, lt_of_block hh, ?_, hn, by unfold maxLen at hc; omega, fun j h1 h2 => ?_⟩
    · obtain ⟨A, c2, e, hS⟩ := hO.sl ha
      injection e with e1 e2 e3
      by_cases h0 : 0 < xs.length
      · obtain ⟨b, o, e4, _, hB⟩ := hS.at_ h0
        rw [e4] at e1
        injection e1 with e1
        injection e1 with e5 e6
        rw [e5, e6]
        exact hB
      · intro i hi
        omega
    · rw [Nat.zero_add]
      refine ⟨?_, frozen_of_row w g j cur 5 hh⟩
      rw [cell_of_row w g j cur 5 (0, 0) hh]
      simp
      omega

/-- What is left behind the first k. -/
theorem OV.cut {w : World} {base k : Nat} {A : Option Addr} {n cap : Nat} {xs : List Int} (h : OV w base (.slice A n cap) xs) (hk : k ≤ n) :
    ∃ b o, (A = some ⟨b, o, none⟩ ∧ OV w base (.slice (if cap = k then some ⟨b, o, none⟩ else some ⟨b, o + k, none⟩) (n - k) (cap - k)) (xs.drop k)) ∨ (A = none ∧ n = 0) := by
  rcases h with ⟨e, rfl⟩ | ⟨g, o, c, e, hg, hl, hB, hc, hm, hr⟩
  · injection e with e1 e2 e3
    exact ⟨0, 0, Or.inr ⟨e1, e2⟩⟩
  · injection e with e1 e2 e3
    subst e1 e2 e3
    refine ⟨g, o, Or.inl ⟨rfl, Or.inr ?_⟩⟩
    have hd : (xs.drop k).length = xs.length - k := List.length_drop
    by_cases hck : cap = k
    · rw [if_pos hck]
      have hn : xs.drop k = [] := List.length_eq_zero_iff.1 (by omega)
      refine ⟨g, o, cap - k, by rw [hd], hg, hl, by rw [hn]; exact fun i hi => by simp at hi, by omega, by omega, fun j h1 h2 => by omega⟩
    · rw [if_neg hck]
      refine ⟨g, o + k, cap - k, by rw [hd], hg, hl, fun i hi => ?_, by omega, by omega, fun j h1 h2 => ?_⟩
      · rw [hd] at hi
        have h3 := hB (k + i) (by omega)
        have e : (xs.drop k).getD i 0 = xs.getD (k + i) 0 := by
          simp only [List.getD_eq_getElem?_getD]
          rw [List.getElem?_drop]
        rw [e, show o + k + i = o + (k + i) by omega]
        exact h3
      · have h3 := hr (k + j) (by omega) (by omega)
        rw [show o + k + j = o + (k + j) by omega]
        exact h3

theorem size_sc (b : Nat) : ∀ (vs : List Value) (o : Nat) (w : World), (w.setCells b o vs).heap.size = w.heap.size
  | [], _, _ => rfl
  | v :: r, o, w => by rw [World.setCells, size_sc b r]; simp [World.setCell]
theorem tape_sc (b : Nat) : ∀ (vs : List Value) (o : Nat) (w : World), (w.setCells b o vs).tape = w.tape
  | [], _, _ => rfl
  | v :: r, o, w => by rw [World.setCells, tape_sc b r]; rfl

theorem run_append_ov (w : World) (ty : TypeId) (base : Nat) (v : Value) (xs : List Int) (hO : OV w base v xs) (A : Option Addr) (len ca : Nat) (zs : List Int) (hX : Sl w A len ca zs) (hn : A = none → ca = 0) (hl : xs.length + len ≤ 1000000000) (hbase : base ≤ w.heap.size) :
    ∃ v' w', (Builtin.append_ #[24, 24] ty #[v, .slice A len ca]).run Try.prog w = .ok v' w' ∧ OV w' base v' (xs ++ zs) ∧ Gr w v w' v' := by
  obtain ⟨i0, hi, hz0, hz1, hz2⟩ := info_parts info5
  have hall := hO.all
  cases A with
  | none =>
    have hl0 : len = 0 := by
      rcases Nat.eq_zero_or_pos len with h | h
      · exact h
      · obtain ⟨_, _, e, _⟩ := hX.at_ h; cases e
    have hz : zs = [] := List.length_eq_zero_iff.1 (by rw [hX.long, hl0])
    have hc0 := hn rfl
    subst hc0 hl0 hz
    rw [List.append_nil]
    obtain ⟨B, cap, rfl, hS, _⟩ := hO.sl
    refine ⟨.slice B xs.length cap, w, ?_, hO, Gr.refl _ _⟩
    have hle := hS.room
    cases B <;> simp [Builtin.append_, run_underlying Try.underlying24, sizeOf, typeInfo, hi, Builtin.lenOf, Builtin.firstCells, loadCells, loadCellsFrom, storeCells, hle]
  | some ad =>
    rcases hO with ⟨rfl, rfl⟩ | ⟨g, o, cap, rfl, hg, hlt, hB, hc, hm, hr⟩
    · obtain ⟨v', w', h1, h2, h3, _, h5⟩ := run_append_own_at (P := Try.prog) w base 24 ty 5 i0 _ 1 1 Try.underlying24 hi hz0 hz1 hz2 rfl (by decide) (.slice none 0 0) 0 [] ⟨rfl, Or.inl ⟨rfl, rfl⟩⟩ ad len ca (bv zs) hX.news_len hX.news_at (bv_one zs) (by unfold maxLen; simp at hl; omega) (by simp at hl; omega) hbase
      refine ⟨v', w', h1, ?_, ⟨h3.os, h3.tape, h3.output, h3.size, fun k hk hn => h3.block k hk (fun e => hn e.symm), ?_⟩⟩
      · exact OV.of_row hX.all h2
      · rcases h5 with h5 | h5
        · exact Or.inl h5
        · exact Or.inr fun k hk => by rw [h5] at hk; injection hk with e; omega
    · by_cases hroom : xs.length + len ≤ cap
      · have hnl : (bv zs).length = len * i0.size := by rw [hz1]; exact hX.news_len
        have hzl := hX.long
        have hnl' : (bv zs).length = len := by rw [hnl, hz1, Nat.mul_one]
        have hrun := run_append_room_cells (P := Try.prog) w 24 ty 5 i0 Try.underlying24 hi g o xs.length cap ad len ca (bv zs) hnl hX.news_at (bv_one zs) hroom
          (fun j hj => by rw [hz1, Nat.mul_one, Nat.add_assoc]; exact (hr (xs.length + j) (by omega) (by omega)).1)
          (fun j hj => by rw [hz1, Nat.mul_one, Nat.add_assoc]; exact (hr (xs.length + j) (by omega) (by omega)).2)
        rw [hz1, Nat.mul_one] at hrun
        have hsz : (w.setCells g (o + xs.length) (bv zs)).heap.size = w.heap.size := size_sc _ _ _ _
        refine ⟨_, _, hrun, Or.inr ⟨g, o, cap, by rw [List.length_append, hX.long], hg, by rw [hsz]; exact hlt, ?_, by rw [List.length_append, hX.long]; exact hroom, hm, ?_⟩, ⟨World.os_setCells _ _ _ _, tape_sc _ _ _ _, World.output_setCells _ _ _ _, by rw [hsz]; exact Nat.le_refl _, fun k hk hn => World.heap_setCells_other _ _ _ _ hk (fun e => hn (by rw [e]; rfl)), Or.inl rfl⟩⟩
        · intro i hi'
          rw [List.length_append] at hi'
          refine ⟨?_, allB_append hall hX.all i (by rw [List.length_append]; exact hi')⟩
          by_cases h1 : i < xs.length
          · rw [World.cell?_setCells_out g _ _ _ _ (fun _ _ => Or.inl (by simp; omega)), (hB i h1).1]
            simp only [List.getD_eq_getElem?_getD]
            rw [List.getElem?_append_left h1]
          · have := World.cell?_setCells_in g (bv zs) (o + xs.length) w (fun j hj => by rw [Nat.add_assoc]; exact (hr (xs.length + j) (by omega) (by omega)).1) (i - xs.length) (by omega)
            rw [show o + xs.length + (i - xs.length) = o + i by omega] at this
            rw [this]
            simp only [List.getD_eq_getElem?_getD]
            rw [List.getElem?_append_right (by omega)]
            simp [bv, List.getElem?_eq_getElem (show i - xs.length < zs.length by omega)]
        · intro j h1 h2
          rw [List.length_append, hX.long] at h1
          rw [World.cell?_setCells_out g _ _ _ _ (fun _ _ => Or.inr (by simp; omega)), World.frozen?_setCells]
          exact hr j (by omega) h2
      · have hbl : (bv xs).length = xs.length * 1 := by simp [bv]
        obtain ⟨v', w', h1, h2, h3⟩ := run_append_arg_grows (P := Try.prog) w 24 ty 5 i0 _ 1 1 Try.underlying24 hi hz0 hz1 hz2 rfl (by decide) ⟨g, o, none⟩ xs.length cap (bv xs) hbl
          (fun j u hu => by
            have hj : j < xs.length := by
              rcases Nat.lt_or_ge j xs.length with h' | h'
              · exact h'
              · rw [List.getElem?_eq_none (by simpa [bv] using h')] at hu; cases hu
            have ea : (⟨g, o, none⟩ : Addr).add j = ⟨g, o + j, none⟩ := by unfold Addr.add; split <;> simp_all
            rw [ea, (hB j hj).1, ← hu]
            simp [bv, List.getElem?_eq_getElem hj, List.getD_eq_getElem?_getD])
          ad len ca (bv zs) hX.news_len hX.news_at (by omega) (by unfold maxLen; omega) (by omega)
        have h4 : w'.ownsRow w.heap.size 5 1 v' (xs.length + len) (bv (xs ++ zs)) := by
          have : bv (xs ++ zs) = bv xs ++ bv zs := by simp [bv]
          rw [this]
          exact h2
        have h5 := OV.of_row (allB_append hall hX.all) h4
        refine ⟨v', w', h1, ?_, ⟨h3.os, h3.tape, h3.output, h3.size, fun k hk _ => h3.block k hk (by simp), Or.inr fun k hk => (h5.lt hk).1⟩⟩
        rcases h5 with h5 | ⟨g', o', c', e, hg', r⟩
        · exact Or.inl h5
        · exact Or.inr ⟨g', o', c', e, by omega, r⟩

theorem wpList_append_ov {w : World} {ops : Array Oper} {rest : List Oper} {oo : Oper} {act : Act} {Q : Exit → Act → World → Prop} (hgd : oo.guard = none) (s x : Operand)
    (ho : oo.op = .call { callee := .builtin .append, args := #[s, x], argTypes := #[24, 24] }) (base : Nat) (v : Value) (xs : List Int) (hs : act.eval s = v) (hO : OV w base v xs)
    (A : Option Addr) (len ca : Nat) (zs : List Int) (hx : act.eval x = .slice A len ca) (hX : Sl w A len ca zs) (hn : A = none → ca = 0) (hl : xs.length + len ≤ 1000000000) (hbase : base ≤ w.heap.size)
    (h : ∀ v' w', OV w' base v' (xs ++ zs) → Gr w v w' v' → wpList Try.prog ops Q rest (act.put oo.dst v') w') : wpList Try.prog ops Q (oo :: rest) act w := by
  refine wpList_plain hgd fun K hK => ?_
  obtain ⟨v', w', hr, h2, h3⟩ := run_append_ov w oo.type base v xs hO A len ca zs hX hn hl hbase
  unfold Oper.wp execOp
  simp only [ho, resolve, invoke, builtin, Sem.run_bind, Sem.run_pure, Result.andThen_ok, List.map_toArray, List.map_cons, List.map_nil, hs, hx, hr]
  exact hK _ _ (h v' w' h2 h3)

theorem step_append_ov {w : World} {ops : Array Oper} {oo : Oper} {act : Act} {K : Act → World → Prop} {Q : Exit → Act → World → Prop} {E : Prop} (hgd : oo.guard = none) (s x : Operand)
    (ho : oo.op = .call { callee := .builtin .append, args := #[s, x], argTypes := #[24, 24] }) (base : Nat) (v : Value) (xs : List Int) (hs : act.eval s = v) (hO : OV w base v xs)
    (A : Option Addr) (len ca : Nat) (zs : List Int) (hx : act.eval x = .slice A len ca) (hX : Sl w A len ca zs) (hn : A = none → ca = 0) (hl : xs.length + len ≤ 1000000000) (hbase : base ≤ w.heap.size)
    (h : ∀ v' w', OV w' base v' (xs ++ zs) → Gr w v w' v' → K (act.put oo.dst v') w') : if Region.wanted oo (yielded ops act.tmps) = true then Oper.wp Try.prog oo act w K Q else E := by
  have hw : Region.wanted oo (yielded ops act.tmps) = true := by simp [Region.wanted, hgd]
  rw [if_pos hw]
  obtain ⟨v', w', hr, h2, h3⟩ := run_append_ov w oo.type base v xs hO A len ca zs hX hn hl hbase
  unfold Oper.wp execOp
  simp only [ho, resolve, invoke, builtin, Sem.run_bind, Sem.run_pure, Result.andThen_ok, List.map_toArray, List.map_cons, List.map_nil, hs, hx, hr]
  exact h v' w' h2 h3

def Cmd.cells (c : Cmd) : List Value := [.int .i64 c.op, .int .i64 c.id, .int .i64 c.e, .int .i64 c.p]
def Cmd.zero : Cmd := ⟨0, 0, 0, 0⟩
theorem info23 : (Try.prog.info? 23).map (fun i => (i.zero, i.size, i.bytes)) = some (some Cmd.zero.V, 4, 32) := by kernel_rfl

/-- v is a slice of commands of the call's own that holds cs. -/
def OC (w : World) (base : Nat) (v : Value) (cs : List Cmd) : Prop := w.ownsRow base 23 4 v cs.length (cs.flatMap Cmd.cells)

theorem OC.kept {w w' : World} {base : Nat} {v : Value} {cs : List Cmd} (h : OC w base v cs) (hb : ∀ g, v.ownBlock = some g → w'.heap[g]? = w.heap[g]?) : OC w' base v cs := by
  refine ⟨h.1, ?_⟩
  rcases h.2 with h' | ⟨g, cap, cur, rfl, hg, hh, r⟩
  · exact Or.inl h'
  · exact Or.inr ⟨g, cap, cur, rfl, hg, (hb g rfl).trans hh, r⟩
theorem OC.lt {w : World} {base : Nat} {v : Value} {cs : List Cmd} (h : OC w base v cs) {g : Nat} (hg : v.ownBlock = some g) : base ≤ g ∧ g < w.heap.size := World.ownsRow.lt h g hg
theorem OC.below {w w' : World} {base : Nat} {v : Value} {cs : List Cmd} (h : OC w base v cs) (hb : Below w.heap.size w w') : OC w' base v cs := h.kept fun g hg => hb.block g (h.lt hg).2

theorem run_append_oc (w : World) (ty : TypeId) (base : Nat) (v : Value) (cs : List Cmd) (hO : OC w base v cs) (ad : Addr) (c : Cmd) (ca : Nat) (hX : ∀ (j : Nat) (u : Value), c.cells[j]? = some u → w.cell? (ad.add j) = some u) (hl : cs.length ≤ 100000) (hbase : base ≤ w.heap.size) :
    ∃ v' w', (Builtin.append_ #[51, 51] ty #[v, .slice (some ad) 1 ca]).run Try.prog w = .ok v' w' ∧ OC w' base v' (cs ++ [c]) ∧ Gr w v w' v' := by
  obtain ⟨i0, hi, hz0, hz1, hz2⟩ := info_parts info23
  obtain ⟨v', w', h1, h2, h3, _, h5⟩ := run_append_own_at (P := Try.prog) w base 51 ty 23 i0 _ 4 32 Try.underlying51 hi hz0 hz1 hz2 rfl (by decide) v _ _ hO ad 1 ca c.cells rfl hX (by intro u hu; simp [Cmd.cells] at hu; rcases hu with rfl | rfl | rfl | rfl <;> rfl) (by unfold maxLen; omega) (by omega) hbase
  refine ⟨v', w', h1, ?_, ⟨h3.os, h3.tape, h3.output, h3.size, fun k hk hn => h3.block k hk (fun e => hn e.symm), ?_⟩⟩
  · unfold OC
    rw [List.flatMap_append, List.length_append]
    simpa using h2
  · rcases h5 with h5 | h5
    · exact Or.inl h5
    · exact Or.inr fun k hk => by rw [h5] at hk; injection hk with e; omega

theorem step_append_oc {w : World} {ops : Array Oper} {oo : Oper} {act : Act} {K : Act → World → Prop} {Q : Exit → Act → World → Prop} {E : Prop} (hgd : oo.guard = none) (s x : Operand)
    (ho : oo.op = .call { callee := .builtin .append, args := #[s, x], argTypes := #[51, 51] }) (base : Nat) (v : Value) (cs : List Cmd) (hs : act.eval s = v) (hO : OC w base v cs) (ad : Addr) (c : Cmd) (ca : Nat) (hx : act.eval x = .slice (some ad) 1 ca)
    (hX : ∀ (j : Nat) (u : Value), c.cells[j]? = some u → w.cell? (ad.add j) = some u) (hl : cs.length ≤ 100000) (hbase : base ≤ w.heap.size)
    (h : ∀ v' w', OC w' base v' (cs ++ [c]) → Gr w v w' v' → K (act.put oo.dst v') w') : if Region.wanted oo (yielded ops act.tmps) = true then Oper.wp Try.prog oo act w K Q else E := by
  have hw : Region.wanted oo (yielded ops act.tmps) = true := by simp [Region.wanted, hgd]
  rw [if_pos hw]
  obtain ⟨v', w', hr, h2, h3⟩ := run_append_oc w oo.type base v cs hO ad c ca hX hl hbase
  unfold Oper.wp execOp
  simp only [ho, resolve, invoke, builtin, Sem.run_bind, Sem.run_pure, Result.andThen_ok, List.map_toArray, List.map_cons, List.map_nil, hs, hx, hr]
  exact h v' w' h2 h3

/-- Bytes and commands of the call's own, in blocks apart. -/
structure BC (w : World) (base : Nat) (b s : Value) (bs : List Int) (cs : List Cmd) : Prop where
  ov : OV w base b bs
  oc : OC w base s cs
  apart : ∀ g, b.ownBlock = some g → s.ownBlock ≠ some g
theorem BC.below {w w' : World} {base : Nat} {b s : Value} {bs : List Int} {cs : List Cmd} (h : BC w base b s bs cs) (hb : Below w.heap.size w w') : BC w' base b s bs cs := ⟨h.ov.below hb, h.oc.below hb, h.apart⟩
theorem BC.addB {w w' : World} {base : Nat} {b s b' : Value} {bs bs' : List Int} {cs : List Cmd} (h : BC w base b s bs cs) (hO : OV w' base b' bs') (hG : Gr w b w' b') : BC w' base b' s bs' cs :=
  ⟨hO, h.oc.kept fun g hg => hG.block g (h.oc.lt hg).2 (fun e => h.apart g e hg), fun g hg e => by
    rcases hG.own with h1 | h1
    · exact h.apart g (h1 ▸ hg) e
    · have := h1 g hg
      have := (h.oc.lt e).2
      omega⟩
theorem BC.addS {w w' : World} {base : Nat} {b s s' : Value} {bs : List Int} {cs cs' : List Cmd} (h : BC w base b s bs cs) (hO : OC w' base s' cs') (hG : Gr w s w' s') : BC w' base b s' bs cs' :=
  ⟨h.ov.kept hG.size fun g hg => hG.block g (h.ov.lt hg).2 (h.apart g hg), hO, fun g hg e => by
    rcases hG.own with h1 | h1
    · exact h.apart g hg (h1 ▸ e)
    · have := h1 g e
      have := (h.ov.lt hg).2
      omega⟩
theorem OV.grb {w w' : World} {base : Nat} {v v' : Value} {xs : List Int} (h : OV w base v xs) (hG : Gr w v w' v') (hb : base ≤ w.heap.size) : Below base w w' := ⟨hG.os, hG.tape, hG.output, hG.size, fun k hk => hG.block k (by omega) (fun e => by have := (h.lt e).1; omega)⟩
theorem OC.grb {w w' : World} {base : Nat} {v v' : Value} {cs : List Cmd} (h : OC w base v cs) (hG : Gr w v w' v') (hb : base ≤ w.heap.size) : Below base w w' := ⟨hG.os, hG.tape, hG.output, hG.size, fun k hk => hG.block k (by omega) (fun e => by have := (h.lt e).1; omega)⟩
end Go.Proofs.Ytbanlnacoidccaa
