/- The parts of the top that the law of early release walks through: part 10 of 52. -/
import Derived.Maps.AppendAt
import Derived.Maps.OwnOps
import Derived.Test.YtgfbfklnhmndfaaGreatA1
import Derived.Test.YtgfbfklnhmndfaaGreatA3
import Derived.Test.YtgfbfklnhmndfaaGreatA4
namespace Go.Proofs.YtgfbfklnhmndfaaGreat
open Go.RowKit
set_option linter.unusedSimpArgs false
set_option linter.unusedVariables false
section
attribute [local go_sem ↓] setCell_drewN alloc_drewN grow_cell grow_frozen setCell_grow grow_size cell_alloc_grow frozen_alloc_grow setCell_alloc_grow cell_grow_alloc_grow frozen_grow_alloc_grow setCell_grow_alloc_grow grow_grow
attribute [local go_sem] lt_len
theorem info_parts {p : Program} {t : TypeId} {z : Value} {s b : Nat} (h : (p.info? t).map (fun i => (i.zero, i.size, i.bytes)) = some (some z, s, b)) : ∃ i, p.info? t = some i ∧ i.zero = some z ∧ i.size = s ∧ i.bytes = b := by
  cases hi : p.info? t with
  | none => rw [hi] at h; cases h
  | some i =>
    rw [hi] at h
    simp only [Option.map_some, Option.some.injEq, Prod.mk.injEq] at h
    exact ⟨i, rfl, h.1, h.2.1, h.2.2⟩
theorem infoInt : (Tryz.prog.info? 3).map (fun i => (i.zero, i.size, i.bytes)) = some (some (.int .i64 0), 1, 8) := by kernel_rfl
theorem kept_of_grown {a b : World} {row : Option Nat} (h : a.grownBy b row) (S : List Nat) (hr : ∀ g, row = some g → g ∈ S ∨ a.heap.size ≤ g) : Kept S a b :=
  ⟨h.size, fun k hk hn => h.block k hk fun e => by
    rcases hr k e.symm with h1 | h1
    · exact hn h1
    · omega, h.os, h.tape, h.output⟩
theorem row_of_heap {a b : World} {base : Nat} {e : TypeId} {size n : Nat} {v : Value} {xs : List Value} (h : a.ownsRow base e size v n xs) (hh : ∀ g, v.ownBlock = some g → b.heap[g]? = a.heap[g]?) : b.ownsRow base e size v n xs := by
  obtain ⟨h1, h2⟩ := h
  refine ⟨h1, ?_⟩
  rcases h2 with h2 | ⟨g, cap, cur, hv, hb, hg, r⟩
  · exact Or.inl h2
  · subst hv
    exact Or.inr ⟨g, cap, cur, rfl, hb, by rw [hh g rfl]; exact hg, r⟩
theorem row_lt {a : World} {base : Nat} {e : TypeId} {size n : Nat} {v : Value} {xs : List Value} (h : a.ownsRow base e size v n xs) {g : Nat} (hg : v.ownBlock = some g) : g < a.heap.size := by
  obtain ⟨h1, h2⟩ := h
  rcases h2 with ⟨h2, _⟩ | ⟨g', cap, cur, hv, hb, hg', r⟩
  · rw [h2] at hg; cases hg
  · subst hv
    cases hg
    exact heap_lt hg'
theorem row_kept {S : List Nat} {a b : World} (hk : Kept S a b) {base : Nat} {e : TypeId} {size n : Nat} {v : Value} {xs : List Value} (h : a.ownsRow base e size v n xs) (hn : ∀ g, v.ownBlock = some g → g ∉ S) : b.ownsRow base e size v n xs :=
  row_of_heap h fun g hg => hk.2 g (row_lt h hg) (hn g hg)
theorem row_elem {a : World} {base : Nat} {e : TypeId} {size n : Nat} {v : Value} {xs : List Value} (h : a.ownsRow base e size v n xs) (hn : 0 < n) : ∃ g cap, v = .slice (some ⟨g, 0, none⟩) n cap ∧ n ≤ cap ∧ cap ≤ maxLen ∧ (∀ i, i < n * size → a.cell? ⟨g, i, none⟩ = xs[i]?) ∧ (∀ i, a.frozen? ⟨g, i, none⟩ = false) ∧ g < a.heap.size := by
  obtain ⟨h1, h2⟩ := h
  rcases h2 with ⟨_, h2⟩ | ⟨g, cap, cur, hv, hb, hg, h3, h4, h5, h6⟩
  · omega
  · refine ⟨g, cap, hv, h3, h4, fun i hi => ?_, fun i => frozen_of hg i, heap_lt hg⟩
    rw [cell_of hg i, ← h6, List.getElem?_take]
    simp [hi]
/-- The block that a slice may write into. -/
def own : Value → List Nat
  | .slice (some a) _ (_ + 1) => [a.block]
  | _ => []
/-- A slice that is a call's own: its elements. -/
def Row (w : World) (e : TypeId) (size : Nat) (v : Value) (n : Nat) (xs : List Value) : Prop := (∃ c, v = .slice c 0 0 ∧ n = 0 ∧ xs = []) ∨ w.ownsRow 0 e size v n xs
theorem run_append_empty {T E : TypeId} {i0 : TypeInfo} {size by_ : Nat} (ht : Tryz.prog.underlying T = some (.slice E)) (hi : Tryz.prog.info? E = some i0) (hz1 : i0.size = size) (hz2 : i0.bytes = by_) (c a : Addr) (m cc : Nat) (hm : 0 < m) (hm2 : m ≤ 10000000000) (hb : m * by_ ≤ 140737488355328) (ty : TypeId) (w : World) :
    (Builtin.append_ #[T, T] ty #[.slice (some c) 0 0, .slice (some a) m cc]).run Tryz.prog w = (Builtin.append_ #[T, T] ty #[.slice none 0 0, .slice (some a) m cc]).run Tryz.prog w := by
  have h1 : ¬ m = 0 := by omega
  subst hz1 hz2
  have h2 : ¬ (281474976710656 < m * i0.bytes) := by omega
  have h3 : ¬ (9223372036854775807 < (m : Int)) := by omega
  clear hb hm2
  simp [Builtin.append_, run_underlying ht, sizeOf, typeInfo, hi, Builtin.lenOf, Builtin.firstCells, loadCells, loadCellsFrom, Builtin.nextslicecap, h1, hm, h2, h3]
theorem own_sub {v : Value} {n : Nat} {xs : List Value} {w : World} {e : TypeId} {size : Nat} (h : w.ownsRow 0 e size v n xs) (hn : 0 < n) : own v = v.ownBlock.toList := by
  obtain ⟨h1, h2⟩ := h
  rcases h2 with ⟨_, h2⟩ | ⟨g, cap, cur, hv, hb, hg, h3, h4, h5, h6⟩
  · omega
  · subst hv
    cases cap with
    | zero => omega
    | succ c => rfl
theorem app_run {T E : TypeId} {i0 : TypeInfo} {z : Value} {size by_ : Nat} (ht : Tryz.prog.underlying T = some (.slice E)) (hi : Tryz.prog.info? E = some i0) (hz : i0.zero = some z) (hz1 : i0.size = size) (hz2 : i0.bytes = by_)
    (hzs : z.cells.size = size) (hsz : 0 < size) (w : World) (v : Value) (n : Nat) (xs : List Value) (hv : Row w E size v n xs)
    (b m cc : Nat) (news : List Value) (hl : news.length = m * size) (hnews : ∀ j u, news[j]? = some u → w.cell? ⟨b, j, none⟩ = some u) (h1 : ∀ u ∈ news, u.oneCell' = true) (hm : 0 < m)
    (h63 : n + m ≤ 10000000000) (hbytes : by_ ≤ 10000) (ty : TypeId) :
    ∃ v' w', (Builtin.append_ #[T, T] ty #[v, .slice (some ⟨b, 0, none⟩) m cc]).run Tryz.prog w = .ok v' w' ∧ w'.ownsRow 0 E size v' (n + m) (xs ++ news) ∧ Kept (own v) w w' ∧ ((v'.ownBlock = v.ownBlock ∧ own v = v.ownBlock.toList) ∨ ∃ g, v'.ownBlock = some g ∧ w.heap.size ≤ g) := by
  have hadd : ∀ j, (⟨b, 0, none⟩ : Addr).add j = ⟨b, j, none⟩ := fun j => by unfold Addr.add; split <;> simp_all
  have hnews' : ∀ j u, news[j]? = some u → w.cell? ((⟨b, 0, none⟩ : Addr).add j) = some u := fun j u h => by rw [hadd]; exact hnews j u h
  have hbig : (n + m) * by_ ≤ 140737488355328 := Nat.le_trans (Nat.mul_le_mul h63 hbytes) (by decide)
  have hlen : n + m ≤ maxLen := Nat.le_trans h63 (by unfold maxLen; decide)
  have none' : ∃ v' w', (Builtin.append_ #[T, T] ty #[.slice none 0 0, .slice (some ⟨b, 0, none⟩) m cc]).run Tryz.prog w = .ok v' w' ∧ w'.ownsRow 0 E size v' (0 + m) ([] ++ news) ∧ Kept [] w w' ∧ ∃ g, v'.ownBlock = some g ∧ w.heap.size ≤ g := by
    obtain ⟨v', w', g1, g2, g3, g4, g5⟩ := run_append_own_at (P := Tryz.prog) w 0 T ty E i0 z size by_ ht hi hz hz1 hz2 hzs hsz (.slice none 0 0) 0 [] ⟨by simp, Or.inl ⟨rfl, rfl⟩⟩ ⟨b, 0, none⟩ m cc news hl hnews' h1 (by omega) (Nat.le_trans (Nat.mul_le_mul (by omega) (Nat.le_refl _)) hbig) (Nat.zero_le _)
    refine ⟨v', w', g1, g2, kept_of_grown g3 [] (fun g h => by cases h), ?_⟩
    rcases g5 with h | h
    · have := g4
      exfalso
      obtain ⟨gg, cc', e, _⟩ := row_elem g2 (by omega)
      rw [e] at h
      cases h
    · exact ⟨_, h, Nat.le_refl _⟩
  rcases hv with ⟨c, rfl, rfl, rfl⟩ | hv
  · obtain ⟨v', w', g1, g2, g3, g4⟩ := none'
    refine ⟨v', w', ?_, g2, ?_, Or.inr g4⟩
    · cases c with
      | none => exact g1
      | some c => rw [run_append_empty ht hi hz1 hz2 c ⟨b, 0, none⟩ m cc hm (by omega) (Nat.le_trans (Nat.mul_le_mul (by omega) (Nat.le_refl _)) hbig)]; exact g1
    · cases c <;> exact g3
  · obtain ⟨v', w', g1, g2, g3, g4, g5⟩ := run_append_own_at (P := Tryz.prog) w 0 T ty E i0 z size by_ ht hi hz hz1 hz2 hzs hsz v n xs hv ⟨b, 0, none⟩ m cc news hl hnews' h1 hlen hbig (Nat.zero_le _)
    have hv' := hv
    obtain ⟨e1, e2⟩ := hv
    rcases e2 with ⟨e2, e3⟩ | ⟨g, cap, cur, e2, hb, hg, e3, e4, e5, e6⟩
    · subst e2 e3
      have hx : xs = [] := List.length_eq_zero_iff.1 (by omega)
      subst hx
      obtain ⟨v2, w2, k1, k2, k3, k4⟩ := none'
      rw [k1] at g1
      cases g1
      exact ⟨_, _, k1, g2, k3, Or.inr k4⟩
    · subst e2
      cases cap with
      | zero =>
        have hn0 : n = 0 := by omega
        subst hn0
        have hx : xs = [] := List.length_eq_zero_iff.1 (by omega)
        subst hx
        obtain ⟨v2, w2, k1, k2, k3, k4⟩ := none'
        have := run_append_empty ht hi hz1 hz2 ⟨g, 0, none⟩ ⟨b, 0, none⟩ m cc hm (by omega) (Nat.le_trans (Nat.mul_le_mul (by omega) (Nat.le_refl _)) hbig) ty w
        exact ⟨v2, w2, by rw [this]; exact k1, k2, k3, Or.inr k4⟩
      | succ c =>
        refine ⟨v', w', g1, g2, kept_of_grown g3 _ (fun k hk => Or.inl (by cases hk; simp [own])), ?_⟩
        rcases g5 with h | h
        · exact Or.inl ⟨h, rfl⟩
        · exact Or.inr ⟨_, h, Nat.le_refl _⟩
theorem wpList_app {T E : TypeId} {i0 : TypeInfo} {z : Value} {size by_ : Nat} {w : World} {ops : Array Oper} {rest : List Oper} {oo : Oper} {act : Act} {Q : Exit → Act → World → Prop} (hgd : oo.guard = none) (s x : Operand)
    (ho : oo.op = .call { callee := .builtin .append, args := #[s, x], argTypes := #[T, T] })
    (ht : Tryz.prog.underlying T = some (.slice E)) (hi : Tryz.prog.info? E = some i0) (hz : i0.zero = some z) (hz1 : i0.size = size) (hz2 : i0.bytes = by_)
    (hzs : z.cells.size = size) (hsz : 0 < size) (v : Value) (n : Nat) (xs : List Value) (hs : act.eval s = v) (hv : Row w E size v n xs)
    (b m cc : Nat) (news : List Value) (hx : act.eval x = .slice (some ⟨b, 0, none⟩) m cc) (hl : news.length = m * size) (hnews : ∀ j u, news[j]? = some u → w.cell? ⟨b, j, none⟩ = some u) (h1 : ∀ u ∈ news, u.oneCell' = true) (hm : 0 < m)
    (h63 : n + m ≤ 10000000000) (hbytes : by_ ≤ 10000)
    (h : ∀ v' w', w'.ownsRow 0 E size v' (n + m) (xs ++ news) → Kept (own v) w w' → ((v'.ownBlock = v.ownBlock ∧ own v = v.ownBlock.toList) ∨ ∃ g, v'.ownBlock = some g ∧ w.heap.size ≤ g) → wpList Tryz.prog ops Q rest (act.put oo.dst v') w') : wpList Tryz.prog ops Q (oo :: rest) act w := by
  refine wpList_plain hgd fun K hK => ?_
  obtain ⟨v', w', hr, h2, h3, h4⟩ := app_run ht hi hz hz1 hz2 hzs hsz w v n xs hv b m cc news hl hnews h1 hm h63 hbytes oo.type
  unfold Oper.wp execOp
  simp only [ho, resolve, invoke, builtin, Sem.run_bind, Sem.run_pure, Result.andThen_ok, List.map_toArray, List.map_cons, List.map_nil, hs, hx, hr]
  exact hK _ _ (h v' w' h2 h3 h4)
theorem assertInt (x : Int) (w : World) : (Instr.typeAssert (.iface 3 (.int .i64 x)) 20 3 true).run Tryz.prog w = .ok (.tuple #[.int .i64 x, .bool true]) w := by kernel_rfl
/-- A slice in a cell of its own. -/
def FreeAt (w : World) (F : Nat) (v : Value) (n : Nat) (xs : List Value) : Prop := w.heap[F]? = some (.cells #[v] 131 (0, 0)) ∧ Row w 3 1 v n xs ∧ F ∉ own v
theorem Push274 (F : Nat) (x : Int) (v : Value) (n : Nat) (hn : n < 100) (xs : List Value) (w : World) (hf : FreeAt w F v n xs) :
    Calls Tryz.prog 274 #[.pointer (some ⟨F, 0, none⟩), .iface 3 (.int .i64 x)] w fun e w' => e = .returned (.tuple #[]) ∧ Kept (F :: own v) w w' ∧ ∃ v', w'.heap[F]? = some (.cells #[v'] 131 (0, 0)) ∧ w'.ownsRow 0 3 1 v' (n + 1) (xs ++ [.int .i64 x]) ∧ F ∉ own v' ∧ ∀ g ∈ own v', g ∈ own v ∨ w.heap.size ≤ g := by
  obtain ⟨hF, hv, hne⟩ := hf
  obtain ⟨i0, hi, hz0, hz1, hz2⟩ := info_parts infoInt
  have c0 : w.cell? ⟨F, 0, none⟩ = some v := cell_of hF 0
  have f0 : w.frozen? ⟨F, 0, none⟩ = false := frozen_of hF 0
  have hl := heap_lt hF
  have hT := fun w => assertInt x w
  have hv1 : Row (w.alloc (.cells #[.int .i64 x] 3)) 3 1 v n xs := by
    rcases hv with h | h
    · exact Or.inl h
    · exact Or.inr (h.alloc _)
  replace hF := Lib.hid hF
  replace hne := Lib.hid hne
  replace hn := Lib.hid hn
  replace hv := Lib.hid hv
  go_enter Tryz.func274, Tryz.ntmps274
  go_wp2_with (at_builtin; refine wpList_app rfl _ _ rfl Tryz.underlying131 hi hz0 hz1 hz2 rfl (by decide) _ _ _ rfl hv1 w.heap.size 1 1 [.int .i64 x] rfl rfl ?c1 ?c2 (by decide) ?c3 (by decide) ?_)
  case c1 => intro j u hj; rw [cell_of heap_alloc_new j, ← hj]; simp
  case c2 => intro u hu; simp at hu; subst hu; rfl
  case c3 => have := hn.out; omega
  intro v' w3 hown hk hat
  obtain ⟨g', cap', rfl, hcap⟩ := row_elem hown (by omega)
  replace hcap := Lib.hid hcap
  have hk0 : Kept (own v) w w3 := Kept.trans ((Kept.refl [] w).alloc _) hk (by simp) (fun x hx => Or.inl hx)
  have hF3 : w3.heap[F]? = some (.cells #[v] 131 (0, 0)) := hk0.at hF.out hne.out
  have hlt := hk0.size
  have d0 : w3.cell? ⟨F, 0, none⟩ = some v := cell_of hF3 0
  have e0 : w3.frozen? ⟨F, 0, none⟩ = false := frozen_of hF3 0
  have hl3 : F < w3.heap.size := heap_lt hF3
  have hnew : F ≠ g' ∧ (g' ∈ own v ∨ w.heap.size ≤ g') := by
    rcases hat with ⟨h, h'⟩ | ⟨g, h, hg⟩
    · have hin : g' ∈ own v := by rw [h', ← h]; simp [Value.ownBlock]
      exact ⟨fun e => hne.out (e ▸ hin), Or.inl hin⟩
    · cases h
      have hg := hg
      simp at hg
      exact ⟨by omega, Or.inr (by omega)⟩
  replace hnew := Lib.hid hnew
  replace hat := Lib.hid hat
  replace hown := Lib.hid hown
  replace hF3 := Lib.hid hF3
  replace hk0 := Lib.hid hk0
  clear hk hv1
  go_wp2_with fail
  go_returns
  have hc := hcap.out.1
  have hownv : own (Value.slice (some ⟨g', 0, none⟩) (n + 1) cap') = [g'] := by
    cases cap' with
    | zero => omega
    | succ c => rfl
  refine ⟨rfl, (hk0.out.mono fun x hx => Or.inl (List.mem_cons_of_mem _ hx)).setCell _ _ (Or.inl (by simp)), _, heap_setCell hF3.out, row_of_heap hown.out fun g hg => heap_setCell_ne (fun h => ?_), ?_, ?_⟩
  · simp only [Value.ownBlock, Option.some.injEq] at hg
    exact hnew.out.1 (by rw [hg, ← h])
  · rw [hownv]; simpa using hnew.out.1
  · rw [hownv]
    intro g hg
    simp at hg
    subst hg
    exact hnew.out.2
end
section
attribute [local go_sem ↓] setCell_drewN alloc_drewN grow_cell grow_frozen setCell_grow grow_size cell_alloc_grow frozen_alloc_grow setCell_alloc_grow cell_grow_alloc_grow frozen_grow_alloc_grow setCell_grow_alloc_grow grow_grow
attribute [local go_sem] lt_len
theorem Less272 (g n cap i j : Nat) (a b : Int) (hin : i < n) (hjn : j < n) (hn : n < 100) (w : World) (hi : w.cell? ⟨g, i, none⟩ = some (.int .i64 a)) (hj : w.cell? ⟨g, j, none⟩ = some (.int .i64 b)) (hg : g < w.heap.size) :
    Calls Tryz.prog 272 #[.slice (some ⟨g, 0, none⟩) n cap, .int .i64 i, .int .i64 j] w (RetG (.bool (decide (a < b))) w) := by
  have h1 : decide ((i : Int) < 0) = false := by simp
  have h2 : decide ((j : Int) < 0) = false := by simp
  have h3 : decide ((i : Int) ≥ n) = false := by simp; omega
  have h4 : decide ((j : Int) ≥ n) = false := by simp; omega
  have hc1 : ∀ os q, (grow w os q).cell? ⟨g, i, none⟩ = some (.int .i64 a) := fun os q => by rw [grow_cell _ _ _ _ _ hg]; exact hi
  have hc2 : ∀ os q, (grow w os q).cell? ⟨g, j, none⟩ = some (.int .i64 b) := fun os q => by rw [grow_cell _ _ _ _ _ hg]; exact hj
  unfold RetG
  go_enter Tryz.func272, Tryz.ntmps272
  go_wp2_with fail
  refine sBegin (fun W => ∃ os q, grow w os q = W) 9 (by kernel_rfl) (gr_drew (gr_refl _)) ?_
  refine sTake (i := 0) (v := ?_) rfl (by kernel_rfl) (fun _ _ _ h => h) (gLoad (by rfl) ?_) ?_
  rotate_left 1
  · intro W hW; (try dsimp only at hW); obtain ⟨os', q', hW'⟩ := hW; subst hW'; go_simp; all_goals with_reducible rfl
  try simp only [Act.put, zA, zB, zC]
  refine sTake (i := 1) (v := ?_) rfl (by kernel_rfl) (fun _ _ _ h => h) (gLoad (by rfl) ?_) ?_
  rotate_left 1
  · intro W hW; (try dsimp only at hW); obtain ⟨os', q', hW'⟩ := hW; subst hW'; go_simp; all_goals with_reducible rfl
  try simp only [Act.put, zA, zB, zC]
  refine sTake (i := 2) (v := ?_) rfl (by kernel_rfl) (fun _ _ _ h => h) (gLoad (by rfl) ?_) ?_
  rotate_left 1
  · intro W hW; (try dsimp only at hW); obtain ⟨os', q', hW'⟩ := hW; subst hW'; go_simp; all_goals with_reducible rfl
  try simp only [Act.put, zA, zB, zC]
  refine sTake (i := 3) (v := ?_) rfl (by kernel_rfl) (fun _ _ _ h => h) (gLoad (by rfl) ?_) ?_
  rotate_left 1
  · intro W hW; (try dsimp only at hW); obtain ⟨os', q', hW'⟩ := hW; subst hW'; go_simp; all_goals with_reducible rfl
  try simp only [Act.put, zA, zB, zC]
  refine sTake (i := 4) (v := ?_) rfl (by kernel_rfl) (fun _ _ _ h => h) (gLoad (by rfl) ?_) ?_
  rotate_left 1
  · intro W hW; (try dsimp only at hW); obtain ⟨os', q', hW'⟩ := hW; subst hW'; go_simp; all_goals with_reducible rfl
  try simp only [Act.put, zA, zB, zC]
  refine sTake (i := 5) (v := ?_) rfl (by kernel_rfl) (fun _ _ _ h => h) (gLoad (by rfl) ?_) ?_
  rotate_left 1
  · intro W hW; (try dsimp only at hW); obtain ⟨os', q', hW'⟩ := hW; subst hW'; go_simp; all_goals with_reducible rfl
  try simp only [Act.put, zA, zB, zC]
  refine sTake (i := 6) (v := ?_) rfl (by kernel_rfl) (fun _ _ _ h => h) (gLoad (by rfl) ?_) ?_
  rotate_left 1
  · intro W hW; (try dsimp only at hW); obtain ⟨os', q', hW'⟩ := hW; subst hW'; go_simp; all_goals with_reducible rfl
  try simp only [Act.put, zA, zB, zC]
  refine sTake (i := 7) (v := ?_) rfl (by kernel_rfl) (fun _ _ _ h => h) (gLoad (by rfl) ?_) ?_
  rotate_left 1
  · intro W hW; (try dsimp only at hW); obtain ⟨os', q', hW'⟩ := hW; subst hW'; go_simp; all_goals with_reducible rfl
  try simp only [Act.put, zA, zB, zC]
  refine sTake (i := 8) (v := ?_) rfl (by kernel_rfl) (fun _ _ _ h => h) (gLoad (by rfl) ?_) ?_
  rotate_left 1
  · intro W hW; (try dsimp only at hW); obtain ⟨os', q', hW'⟩ := hW; subst hW'; go_simp; all_goals with_reducible rfl
  try simp only [Act.put, zA, zB, zC]
  refine sRest (by kernel_rfl) ?_
  intro W hW
  obtain ⟨os3, q3, rfl⟩ := hW
  refine aVal (i := 9) (v := ?_) rfl (by kernel_rfl) (by rfl) ?_ ?_
  rotate_left 1
  · go_simp; all_goals with_reducible rfl
  try simp only [Act.put, zA, zB, zC]
  refine wpAny_done (by kernel_rfl) ?_ _
  go_wp2_with fail
  go_returns
  exact ⟨rfl, by repeat (first | exact gr_refl _ | apply gr_alloc | apply gr_grow | apply gr_drewN | apply gr_drew)⟩
theorem Swap275 (g n cap i j : Nat) (a b : Int) (hin : i < n) (hjn : j < n) (hn : n < 100) (w : World) (hi : w.cell? ⟨g, i, none⟩ = some (.int .i64 a)) (hj : w.cell? ⟨g, j, none⟩ = some (.int .i64 b)) (hg : g < w.heap.size) (hf : ∀ k, w.frozen? ⟨g, k, none⟩ = false) (c : Value) (hw : (w.setCell ⟨g, i, none⟩ (.int .i64 b)).cell? ⟨g, j, none⟩ = some c) :
    Calls Tryz.prog 275 #[.slice (some ⟨g, 0, none⟩) n cap, .int .i64 i, .int .i64 j] w fun e w' => e = .returned (.tuple #[]) ∧ w' = ((w.setCell ⟨g, i, none⟩ (.int .i64 b)).setCell ⟨g, j, none⟩ (.int .i64 a)).drew := by
  have hc1 : w.drew.cell? ⟨g, i, none⟩ = some (.int .i64 a) := hi
  have hc2 : w.drew.cell? ⟨g, j, none⟩ = some (.int .i64 b) := hj
  have hd1 : w.drew.frozen? ⟨g, i, none⟩ = false := hf i
  have hd2 : w.drew.frozen? ⟨g, j, none⟩ = false := hf j
  have hd3 : (w.drew.setCell ⟨g, i, none⟩ (.int .i64 b)).frozen? ⟨g, j, none⟩ = false := by rw [World.frozen?_setCell]; exact hf j
  have h1 : decide ((i : Int) < 0) = false := by simp
  have h2 : decide ((j : Int) < 0) = false := by simp
  have h3 : decide ((i : Int) ≥ n) = false := by simp; omega
  have h4 : decide ((j : Int) ≥ n) = false := by simp; omega
  go_enter Tryz.func275, Tryz.ntmps275
  go_wp2_with fail
  go_region
  all_goals go_wp2_with fail
  all_goals go_returns
  all_goals exact ⟨rfl, rfl⟩
theorem wrapchk (t : TypeId) (a : Addr) (n : String) : Builtin.ssaWrapNilChk_ #[t] t #[.pointer (some a), strVal "", strVal n] = pure (.pointer (some a)) := rfl
theorem method_value {t e : TypeId} {f : FuncId} {name : String} {F k : Nat} {W : World} {v : Value}
    (hm : ((Tryz.prog.info? t).bind fun i => i.methods.find? (·.name == name)).map (fun m => (m.path, m.func)) = some (#[], some (f, false)))
    (hu : Tryz.prog.underlying t = some (.pointer e)) (hl : (loadVar e ⟨F, 0, none⟩).run Tryz.prog W = .ok v W) :
    (method (k + 1) t (.pointer (some ⟨F, 0, none⟩)) name).run Tryz.prog W = .ok (f, v) W := by
  cases hi : Tryz.prog.info? t with
  | none => rw [hi] at hm; cases hm
  | some i =>
    rw [hi] at hm
    simp only [Option.bind_some] at hm
    cases hf : i.methods.find? (·.name == name) with
    | none => rw [hf] at hm; cases hm
    | some m =>
      rw [hf] at hm
      simp only [Option.map_some, Option.some.injEq, Prod.mk.injEq] at hm
      obtain ⟨h1, h2⟩ := hm
      simp [method, typeInfo, hi, hf, h1, h2, follow, Place.get, receiverAt, wrapchk, run_underlying hu, asAddr, hl]
theorem mLen : ((Tryz.prog.info? 130).bind fun i => i.methods.find? (·.name == "Len")).map (fun m => (m.path, m.func)) = some (#[], some (111, false)) := by kernel_rfl
theorem mLess : ((Tryz.prog.info? 130).bind fun i => i.methods.find? (·.name == "Less")).map (fun m => (m.path, m.func)) = some (#[], some (272, false)) := by kernel_rfl
theorem mSwap : ((Tryz.prog.info? 130).bind fun i => i.methods.find? (·.name == "Swap")).map (fun m => (m.path, m.func)) = some (#[], some (275, false)) := by kernel_rfl
theorem methLen {F g m cap : Nat} {W : World} (hc : W.cell? ⟨F, 0, none⟩ = some (.slice (some ⟨g, 0, none⟩) m cap)) : (method 452 130 (.pointer (some ⟨F, 0, none⟩)) "Len").run Tryz.prog W = .ok (111, .slice (some ⟨g, 0, none⟩) m cap) W :=
  method_value mLen Tryz.underlying130 (by go_simp)
theorem methLess {F g m cap : Nat} {W : World} (hc : W.cell? ⟨F, 0, none⟩ = some (.slice (some ⟨g, 0, none⟩) m cap)) : (method 452 130 (.pointer (some ⟨F, 0, none⟩)) "Less").run Tryz.prog W = .ok (272, .slice (some ⟨g, 0, none⟩) m cap) W :=
  method_value mLess Tryz.underlying130 (by go_simp)
theorem methSwap {F g m cap : Nat} {W : World} (hc : W.cell? ⟨F, 0, none⟩ = some (.slice (some ⟨g, 0, none⟩) m cap)) : (method 452 130 (.pointer (some ⟨F, 0, none⟩)) "Swap").run Tryz.prog W = .ok (275, .slice (some ⟨g, 0, none⟩) m cap) W :=
  method_value mSwap Tryz.underlying130 (by go_simp)
theorem up70 (F : Nat) (j : Nat) (hj : j < 2) (g m cap : Nat) (w : World)
    (L : j = 1 → ∀ W, Kept [] w W → Calls Tryz.prog 272 #[.slice (some ⟨g, 0, none⟩) m cap, .int .i64 1, .int .i64 0] W (RetG (.bool false) W)) (hF : w.heap[F]? = some (.cells #[.slice (some ⟨g, 0, none⟩) m cap] 131 (0, 0))) :
    Calls Tryz.prog 70 #[.iface 130 (.pointer (some ⟨F, 0, none⟩)), .int .i64 j] w (RetG (.tuple #[]) w) := by
  unfold RetG
  have c0 : w.cell? ⟨F, 0, none⟩ = some (.slice (some ⟨g, 0, none⟩) m cap) := cell_of hF 0
  have hl := heap_lt hF
  clear hF
  rcases (by omega : j = 0 ∨ j = 1) with rfl | rfl
  · clear L
    go_enter Tryz.func70, Tryz.ntmps70
    go_wp2_with fail
    go_loopw [1] (fun i W => i = .int .i64 0 ∧ W = w) (fun _ _ => 0)
    case atStart => exact ⟨rfl, rfl⟩
    case round =>
      obtain ⟨rfl, rfl⟩ := hrel
      go_wp2_with fail
      go_returns
      exact ⟨rfl, by repeat (first | exact gr_refl _ | apply gr_alloc | apply gr_grow | apply gr_drewN | apply gr_drew)⟩
  · have L1 := L rfl w (Kept.refl _ _)
    clear L
    go_enter Tryz.func70, Tryz.ntmps70
    go_wp2_with fail
    go_loopw [1] (fun i W => i = .int .i64 1 ∧ W = w) (fun _ _ => 0)
    case atStart => exact ⟨rfl, rfl⟩
    case round =>
      obtain ⟨rfl, rfl⟩ := hrel
      have mL := methLess c0
      go_wp2_with fail
      refine L1.mono ?_
      rintro e w1 ⟨rfl, os, q, rfl⟩
      go_wp2_with fail
      go_returns
      exact ⟨rfl, by repeat (first | exact gr_refl _ | apply gr_alloc | apply gr_grow | apply gr_drewN | apply gr_drew)⟩
theorem down147 (F n : Nat) (hn : n < 2) (w : World) : Calls Tryz.prog 147 #[.iface 130 (.pointer (some ⟨F, 0, none⟩)), .int .i64 0, .int .i64 n] w (RetG (.bool false) w) := by
  unfold RetG
  have h1 : decide (1 ≥ (n : Int)) = true := by simp; omega
  clear hn
  go_enter Tryz.func147, Tryz.ntmps147
  go_wp2_with fail
  go_loopw [7] (fun i W => i = .int .i64 0 ∧ W = w) (fun _ _ => 0)
  case atStart => exact ⟨rfl, rfl⟩
  case round =>
    obtain ⟨rfl, rfl⟩ := hrel
    go_wp2_with fail
    go_returns
    exact ⟨rfl, by repeat (first | exact gr_refl _ | apply gr_alloc | apply gr_grow | apply gr_drewN | apply gr_drew)⟩
theorem Len111 (n c : Nat) (g : Option Addr) (w : World) : Calls Tryz.prog 111 #[.slice g n c] w fun e w' => e = .returned (.int .i64 n) ∧ w = w' := by
  go_enter Tryz.func111, Tryz.ntmps111
  go_wp2_with fail
  go_returns
  exact ⟨rfl, rfl⟩
theorem Pop273 (F g n cap : Nat) (x : Int) (hn : n < 100) (hnc : n + 1 ≤ cap) (w : World) (hF : w.heap[F]? = some (.cells #[.slice (some ⟨g, 0, none⟩) (n + 1) cap] 131 (0, 0))) (hx : w.cell? ⟨g, n, none⟩ = some (.int .i64 x)) :
    Calls Tryz.prog 273 #[.pointer (some ⟨F, 0, none⟩)] w fun e w' => e = .returned (.iface 3 (.int .i64 x)) ∧ w' = w.setCell ⟨F, 0, none⟩ (.slice (some ⟨g, 0, none⟩) n cap) := by
  have c0 : w.cell? ⟨F, 0, none⟩ = some (.slice (some ⟨g, 0, none⟩) (n + 1) cap) := cell_of hF 0
  have f0 : w.frozen? ⟨F, 0, none⟩ = false := frozen_of hF 0
  have h1 : ((n : Int) + 1 - 1) = n := by omega
  have h2 : IntKind.i64.wrap (n : Int) = n := IntWalk.i64_in _ (by omega)
  have h3 : decide ((n : Int) < 0) = false := by simp
  have h4 : decide ((n : Int) ≥ n + 1) = false := by simp; omega
  have h5 : decide ((n : Int) > cap) = false := by simp; omega
  clear hF
  go_enter Tryz.func273, Tryz.ntmps273
  go_wp2_with fail
  go_returns
  exact ⟨rfl, rfl⟩
/-- Put into the heap, at its end, where it may stay. -/
theorem Push45 (F : Nat) (x : Int) (v : Value) (n : Nat) (xs : List Value) (w : World) (hf : FreeAt w F v n xs) (hn : n = 0 ∨ (n = 1 ∧ ∃ y : Int, xs = [.int .i64 y] ∧ y ≤ x)) :
    Calls Tryz.prog 45 #[.iface 130 (.pointer (some ⟨F, 0, none⟩)), .iface 3 (.int .i64 x)] w fun e w' => e = .returned (.tuple #[]) ∧ Kept (F :: own v) w w' ∧ ∃ v', w'.heap[F]? = some (.cells #[v'] 131 (0, 0)) ∧ w'.ownsRow 0 3 1 v' (n + 1) (xs ++ [.int .i64 x]) ∧ F ∉ own v' ∧ ∀ g ∈ own v', g ∈ own v ∨ w.heap.size ≤ g := by
  have P := Push274 F x v n (by omega) xs w hf
  go_enter Tryz.func45, Tryz.ntmps45
  go_wp2_with fail
  refine P.mono ?_
  rintro e w1 ⟨rfl, hk, v1, hF1, hrow, hat⟩
  obtain ⟨g, cap, rfl, hc1, hc2, hcell, hfr, hlt⟩ := row_elem hrow (by omega)
  have c0 : w1.cell? ⟨F, 0, none⟩ = some (.slice (some ⟨g, 0, none⟩) (n + 1) cap) := cell_of hF1 0
  have hl := heap_lt hF1
  obtain ⟨m, hm⟩ : ∃ m, n + 1 = m := ⟨_, rfl⟩
  have U := up70 F n (by omega) g m cap w1 (fun h1 W hW => by
    rcases hn with hn | ⟨rfl, y, rfl, hy⟩
    · omega
    · have hd : decide (x < y) = false := by simp; omega
      have d1 := hcell 1 (by omega)
      have d0 := hcell 0 (by omega)
      have hh := hW.2 g hlt (by simp)
      have hh2 : ∀ i, W.cell? ⟨g, i, none⟩ = w1.cell? ⟨g, i, none⟩ := fun i => World.cell?_of_block hh
      have := Less272 g 2 cap 1 0 x y (by omega) (by omega) (by omega) W (by rw [hh2, d1]; rfl) (by rw [hh2, d0]; rfl) (hW.lt hlt)
      rw [hd] at this; rw [← hm]; exact this) (by rw [hF1, hm])
  have L := Len111 m cap (some ⟨g, 0, none⟩) w1
  have hsub : IntKind.i64.wrap ((m : Int) - 1) = n := by rw [IntWalk.i64_in _ (by omega)]; omega
  rw [hm] at c0
  have mL := methLen c0
  have hS := Lib.hid (And.intro hk (And.intro hF1 (And.intro hrow hat)))
  have hc := Lib.hid (And.intro hm (And.intro hn hf))
  clear hk hF1 hrow hat hn hf hcell hfr hlt hc1 hc2 P hm
  go_wp2_with fail
  refine L.mono ?_
  rintro e w2 ⟨rfl, rfl⟩
  go_wp2_with fail
  refine U.mono ?_
  rintro e w2 ⟨rfl, os, q, rfl⟩
  go_wp2_with fail
  go_returns
  obtain ⟨hk, h1, h2, h4⟩ := hS.out
  exact ⟨rfl, hk.grow os q, _, by rw [heap_grow hl]; exact h1, row_of_heap h2 fun g hg => heap_grow (row_lt h2 hg), h4⟩
/-- Taken from the heap: one of one, or one of two. -/
theorem Pop112 (F g cap n : Nat) (cur cur' : Array Value) (a b x : Int) (w : World) (hn : n < 2) (hnc : n + 1 ≤ cap) (hF : w.heap[F]? = some (.cells #[.slice (some ⟨g, 0, none⟩) (n + 1) cap] 131 (0, 0)))
    (hg : w.heap[g]? = some (.cells cur 3 (0, 0))) (hFg : g ≠ F) (ha : cur[0]? = some (.int .i64 a)) (hb : cur[n]? = some (.int .i64 b)) (hc : cur' = (cur.setIfInBounds 0 (.int .i64 b)).setIfInBounds n (.int .i64 a)) :
    Calls Tryz.prog 112 #[.iface 130 (.pointer (some ⟨F, 0, none⟩))] w fun e w' => e = .returned (.iface 3 (.int .i64 a)) ∧ Kept [F, g] w w' ∧ w'.heap[F]? = some (.cells #[.slice (some ⟨g, 0, none⟩) n cap] 131 (0, 0)) ∧ w'.heap[g]? = some (.cells cur' 3 (0, 0)) := by
  have hl := heap_lt hF
  have hlg := heap_lt hg
  have c0 : w.cell? ⟨F, 0, none⟩ = some (.slice (some ⟨g, 0, none⟩) (n + 1) cap) := cell_of hF 0
  have dz : (cur.setIfInBounds 0 (.int .i64 b))[n]? = some (if n = 0 then .int .i64 b else .int .i64 b) := by
    rw [Array.getElem?_setIfInBounds]
    split
    · rename_i h; subst h; have := (Array.getElem?_eq_some_iff.1 ha).1; simp [this]
    · rw [hb]; simp
  have hw1 : (w.setCell ⟨g, 0, none⟩ (.int .i64 b)).heap[g]? = some (.cells (cur.setIfInBounds 0 (.int .i64 b)) 3 (0, 0)) := heap_setCell hg
  have S := Swap275 g (n + 1) cap 0 n a b (by omega) (by omega) (by omega) w (by rw [cell_of hg, ha]) (by rw [cell_of hg, hb]) hlg (fun k => frozen_of hg k) _ (by rw [cell_of hw1]; exact dz)
  have hW2 : (((w.setCell ⟨g, 0, none⟩ (.int .i64 b)).setCell ⟨g, n, none⟩ (.int .i64 a)).drew).heap[g]? = some (.cells cur' 3 (0, 0)) := by rw [hc]; exact heap_setCell hw1
  have hW3 : (((w.setCell ⟨g, 0, none⟩ (.int .i64 b)).setCell ⟨g, n, none⟩ (.int .i64 a)).drew).heap[F]? = some (.cells #[.slice (some ⟨g, 0, none⟩) (n + 1) cap] 131 (0, 0)) := by
    show ((w.setCell ⟨g, 0, none⟩ (.int .i64 b)).setCell ⟨g, n, none⟩ (.int .i64 a)).heap[F]? = _
    rw [heap_setCell_ne hFg, heap_setCell_ne hFg, hF]
  have hK : Kept [F, g] w (((w.setCell ⟨g, 0, none⟩ (.int .i64 b)).setCell ⟨g, n, none⟩ (.int .i64 a)).drew) := (((Kept.refl [F, g] w).setCell _ _ (Or.inl (by simp))).setCell _ _ (Or.inl (by simp))).drew
  generalize (((w.setCell ⟨g, 0, none⟩ (.int .i64 b)).setCell ⟨g, n, none⟩ (.int .i64 a)).drew) = W2 at *
  have hcn : cur'[n]? = some (.int .i64 a) := by
    rw [hc, Array.getElem?_setIfInBounds]
    have := (Array.getElem?_eq_some_iff.1 hb).1
    simp [this]
  have D := down147 F n hn
  have P := fun (os : List Obj) (q : Nat) => Pop273 F g n cap a (by omega) hnc (grow W2 os q) (by rw [heap_grow (heap_lt hW3)]; exact hW3) (by rw [grow_cell _ _ _ _ _ (heap_lt hW2), cell_of hW2, hcn])
  have L := Len111 (n + 1) cap (some ⟨g, 0, none⟩) w
  have hsub : IntKind.i64.wrap (((n + 1 : Nat) : Int) - 1) = n := by rw [IntWalk.i64_in _ (by omega)]; omega
  have mL := methLen c0
  have mS := methSwap c0
  rw [show (((0 : Nat) : Int)) = 0 from rfl] at S
  obtain ⟨m, hm⟩ : ∃ m, n + 1 = m := ⟨_, rfl⟩
  rw [hm] at c0 L hsub mL mS S
  have hall := Lib.hid (And.intro hW2 (And.intro hW3 (And.intro hFg hK)))
  clear hm hW2 hW3 hK dz hw1 hcn ha hb hc hg hF hn hnc hFg
  go_enter Tryz.func112, Tryz.ntmps112
  go_wp2_with fail
  refine L.mono ?_
  rintro e w2 ⟨rfl, rfl⟩
  go_wp2_with fail
  refine S.mono ?_
  rintro e w2 ⟨rfl, rfl⟩
  go_wp2_with fail
  refine (D _).mono ?_
  rintro e w3 ⟨rfl, os, q, rfl⟩
  go_wp2_with fail
  refine (P os q).mono ?_
  rintro e w3 ⟨rfl, rfl⟩
  go_wp2_with fail
  go_returns
  obtain ⟨h1, h2, hFg, h3⟩ := hall.out
  refine ⟨rfl, (h3.grow os q).setCell _ _ (Or.inl (by simp)), ?_, ?_⟩
  · exact heap_setCell (c := #[_]) (by rw [heap_grow (heap_lt h2)]; exact h2)
  · rw [heap_setCell_ne (fun h => hFg h.symm), heap_grow (heap_lt h1), h1]
end
end Go.Proofs.YtgfbfklnhmndfaaGreat
