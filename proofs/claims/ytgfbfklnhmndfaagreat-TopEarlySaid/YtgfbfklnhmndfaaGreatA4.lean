/- The parts of the top that the law of early release walks through: part 4 of 52. -/
import Derived.Test.YtgfbfklnhmndfaaGreatA1
import Derived.Test.YtgfbfklnhmndfaaGreatA3
namespace Go.Proofs.YtgfbfklnhmndfaaGreat
open Go.RowKit
set_option linter.unusedSimpArgs false
set_option linter.unusedVariables false
section
attribute [local go_sem ↓] setCell_drewN alloc_drewN grow_cell grow_frozen setCell_grow grow_size cell_alloc_grow frozen_alloc_grow setCell_alloc_grow cell_grow_alloc_grow frozen_grow_alloc_grow setCell_grow_alloc_grow grow_grow
attribute [local go_sem] lt_len
theorem sBegin {P : Program} {l : List Oper} {Q : Exit → Act → World → Prop} (S : World → Prop) (k : Nat) {id : Nat} {a : Act} {w : World} (hm : P.follows .mixedOrders = true)
    (hS : S w.drew) (h : wpAnyS P .any l.toArray Q S k l.length (Array.replicate l.length false) a) : (Code.region id l.toArray true).wp P Q a w := by
  refine wp_region_any hm ?_
  rw [List.size_toArray]
  exact wpAnyS_any _ _ _ h _ hS
theorem RetG.into {n : Nat} {args : Array Value} {v : Value} {w0 w : World} (h : ∀ W, Calls Tryz.prog n args W (RetG v W)) (hS : ∃ os q, Go.Proofs.YtgfbfklnhmndfaaGreat.grow w0 os q = w) : Calls Tryz.prog n args w (fun e w' => e = .returned v ∧ ∃ os q, Go.Proofs.YtgfbfklnhmndfaaGreat.grow w0 os q = w') := by
  obtain ⟨os, q, rfl⟩ := hS
  exact RetG.grow h
theorem gLoad {P : Program} {ops : Array Oper} {S : World → Prop} {o : Oper} {v : Value} {a : Act} (hw : Region.wanted o (yielded ops a.tmps) = true)
    (h : ∀ w, S w → (execOp a.eval o).run P w = .ok (.value v) w) : GrowsIf P ops S o v a := Or.inl ⟨hw, fun w hS => Or.inl ⟨w, h w hS, hS⟩⟩
theorem gCall {P : Program} {ops : Array Oper} {S : World → Prop} {o : Oper} {v : Value} {a : Act} {f : FuncId} {args : Array Value} (hw : Region.wanted o (yielded ops a.tmps) = true)
    (h : ∀ w, S w → (execOp a.eval o).run P w = .ok (.enter f args) w) (hc : ∀ w, S w → Calls P f args w (fun e w' => e = .returned v ∧ S w')) : GrowsIf P ops S o v a := Or.inl ⟨hw, fun w hS => Or.inr ⟨f, args, w, h w hS, hc w hS⟩⟩
theorem aSkip {P : Program} {l : List Oper} {Q : Exit → Act → World → Prop} {md : Region.Mode} {i : Nat} {oi : Oper} {fuel : Nat} {listed : Array Bool} {a : Act} {w w' : World} (ho : l[i]? = some oi)
    (hr : Region.ready md l.toArray listed = [i]) (hw : Region.wanted oi (yielded l.toArray a.tmps) = true) (hrun : (execOp a.eval oi).run P w = .ok .skip w')
    (h : wpAny P md l.toArray Q fuel (listed.setIfInBounds i true) (a.put oi.dst undef) w') : wpAny P md l.toArray Q (fuel + 1) listed a w := by
  refine wpAny_all hr (by simp) ?_
  intro j hj
  obtain rfl := List.mem_singleton.1 hj
  unfold wpOp
  have hi : l.toArray[j]? = some oi := by simpa using ho
  simp only [hi, hw, if_true, Oper.wp, hrun, Oper.upon]
  exact .inl h
theorem aVal {P : Program} {l : List Oper} {Q : Exit → Act → World → Prop} {md : Region.Mode} {i : Nat} {oi : Oper} {v : Value} {fuel : Nat} {listed : Array Bool} {a : Act} {w : World} (ho : l[i]? = some oi)
    (hr : Region.ready md l.toArray listed = [i]) (hw : Region.wanted oi (yielded l.toArray a.tmps) = true) (hrun : (execOp a.eval oi).run P w = .ok (.value v) w)
    (h : wpAny P md l.toArray Q fuel (listed.setIfInBounds i true) (a.put oi.dst v) w) : wpAny P md l.toArray Q (fuel + 1) listed a w := by
  refine wpAny_all hr (by simp) ?_
  intro j hj
  obtain rfl := List.mem_singleton.1 hj
  unfold wpOp
  have hi : l.toArray[j]? = some oi := by simpa using ho
  simp only [hi, hw, if_true, Oper.wp, hrun, Oper.upon]
  exact .inl h
theorem Mul207 (n1 n2 : Int) (d1 d2 : Nat) (M1 : ∀ W, Calls Tryz.prog 114 #[.agg #[.int .i64 n1, .int .i64 d1]] W (RetG (.bool true) W)) (M2 : ∀ W, Calls Tryz.prog 114 #[.agg #[.int .i64 n2, .int .i64 d2]] W (RetG (.bool true) W))
    (v1 v2 : Value) (T1 : ∀ W, Calls Tryz.prog 116 #[.int .i64 n1, .int .i64 n2] W (RetG v1 W)) (T2 : ∀ W, Calls Tryz.prog 116 #[.int .i64 d1, .int .i64 d2] W (RetG v2 W))
    (a b c : Int) (T3 : ∀ W, Calls Tryz.prog 115 #[v1, v2] W (RetG (.tuple #[.agg #[.int .i64 a, .int .i64 b], .int .i64 c]) W)) (w : World) :
    Calls Tryz.prog 207 #[.agg #[.int .i64 n1, .int .i64 d1], .agg #[.int .i64 n2, .int .i64 d2]] w (RetG (.tuple #[.agg #[.int .i64 a, .int .i64 b], .int .i64 c]) w) := by
  unfold RetG
  go_enter Tryz.func207, Tryz.ntmps207
  go_wp2_with fail
  refine (M1 _).mono ?_
  rintro e w1 ⟨rfl, os, q, rfl⟩
  go_wp2_with fail
  refine (RetG.grow M2).mono ?_
  rintro e w1 ⟨rfl, os2, q2, rfl⟩
  go_wp2_with fail
  refine sBegin (fun W => ∃ os q, grow (((w.alloc (.cells #[.int .i64 n1, .int .i64 d1] 39)).alloc (.cells #[.int .i64 n2, .int .i64 d2] 39)).alloc (.cells #[.int .i64 0, .int .i64 0] 39)) os q = W) 13 (by kernel_rfl) ⟨os2, q2 + 1, (grow_drewN ..).symm⟩ ?_
  refine sTake (i := 0) (v := ?_) rfl (by kernel_rfl) (fun _ _ _ h => h) (gLoad (by rfl) ?_) ?_
  rotate_left 1
  · intro W hW; (try dsimp only at hW); obtain ⟨os', q', hW'⟩ := hW; subst hW'; go_simp; all_goals with_reducible rfl
  try simp only [Act.put, zA, zB, zC]
  refine sTake (i := 1) (v := ?_) rfl (by kernel_rfl) (fun _ _ _ h => h) (gLoad (by rfl) ?_) ?_
  rotate_left 1
  · intro W hW; (try dsimp only at hW); obtain ⟨os', q', hW'⟩ := hW; subst hW'; go_simp; all_goals with_reducible rfl
  try simp only [Act.put, zA, zB, zC]
  refine sTake (i := 2) (v := ?_) rfl (by kernel_rfl) (fun _ _ _ h => h) (gLoad (by rfl) ?_) ?_
  rotate_left 1
  · intro W hW; (try dsimp only at hW); obtain ⟨os', q', hW'⟩ := hW; subst hW'; go_simp; all_goals with_reducible rfl
  try simp only [Act.put, zA, zB, zC]
  refine sTake (i := 3) (v := ?_) rfl (by kernel_rfl) (fun _ _ _ h => h) (gLoad (by rfl) ?_) ?_
  rotate_left 1
  · intro W hW; (try dsimp only at hW); obtain ⟨os', q', hW'⟩ := hW; subst hW'; go_simp; all_goals with_reducible rfl
  try simp only [Act.put, zA, zB, zC]
  refine sTake (i := 4) rfl (by kernel_rfl) (fun _ _ _ h => h) (gCall (by rfl) ?_ (fun W hW => RetG.into T1 hW)) ?_
  · intro W hW; go_simp; all_goals with_reducible rfl
  try simp only [Act.put, zA, zB, zC]
  refine sTake (i := 5) (v := ?_) rfl (by kernel_rfl) (fun _ _ _ h => h) (gLoad (by rfl) ?_) ?_
  rotate_left 1
  · intro W hW; (try dsimp only at hW); obtain ⟨os', q', hW'⟩ := hW; subst hW'; go_simp; all_goals with_reducible rfl
  try simp only [Act.put, zA, zB, zC]
  refine sTake (i := 6) (v := ?_) rfl (by kernel_rfl) (fun _ _ _ h => h) (gLoad (by rfl) ?_) ?_
  rotate_left 1
  · intro W hW; (try dsimp only at hW); obtain ⟨os', q', hW'⟩ := hW; subst hW'; go_simp; all_goals with_reducible rfl
  try simp only [Act.put, zA, zB, zC]
  refine sTake (i := 7) (v := ?_) rfl (by kernel_rfl) (fun _ _ _ h => h) (gLoad (by rfl) ?_) ?_
  rotate_left 1
  · intro W hW; (try dsimp only at hW); obtain ⟨os', q', hW'⟩ := hW; subst hW'; go_simp; all_goals with_reducible rfl
  try simp only [Act.put, zA, zB, zC]
  refine sTake (i := 8) (v := ?_) rfl (by kernel_rfl) (fun _ _ _ h => h) (gLoad (by rfl) ?_) ?_
  rotate_left 1
  · intro W hW; (try dsimp only at hW); obtain ⟨os', q', hW'⟩ := hW; subst hW'; go_simp; all_goals with_reducible rfl
  try simp only [Act.put, zA, zB, zC]
  refine sTake (i := 9) rfl (by kernel_rfl) (fun _ _ _ h => h) (gCall (by rfl) ?_ (fun W hW => RetG.into T2 hW)) ?_
  · intro W hW; go_simp; all_goals with_reducible rfl
  try simp only [Act.put, zA, zB, zC]
  refine sTake (i := 10) rfl (by kernel_rfl) (fun _ _ _ h => h) (gCall (by rfl) ?_ (fun W hW => RetG.into T3 hW)) ?_
  · intro W hW; go_simp; all_goals with_reducible rfl
  try simp only [Act.put, zA, zB, zC]
  refine sTake (i := 11) (v := ?_) rfl (by kernel_rfl) (fun _ _ _ h => h) (gLoad (by rfl) ?_) ?_
  rotate_left 1
  · intro W hW; (try dsimp only at hW); obtain ⟨os', q', hW'⟩ := hW; subst hW'; go_simp; all_goals with_reducible rfl
  try simp only [Act.put, zA, zB, zC]
  refine sTake (i := 12) (v := ?_) rfl (by kernel_rfl) (fun _ _ _ h => h) (gLoad (by rfl) ?_) ?_
  rotate_left 1
  · intro W hW; (try dsimp only at hW); obtain ⟨os', q', hW'⟩ := hW; subst hW'; go_simp; all_goals with_reducible rfl
  try simp only [Act.put, zA, zB, zC]
  refine sRest (by kernel_rfl) ?_
  intro W hW
  obtain ⟨os3, q3, rfl⟩ := hW
  refine aSkip (i := 13) (w' := ?_) rfl (by kernel_rfl) (by rfl) ?_ ?_
  rotate_left 1
  · go_simp; all_goals with_reducible rfl
  try simp only [Act.put, zA, zB, zC]
  refine aVal (i := 14) (v := ?_) rfl (by kernel_rfl) (by rfl) ?_ ?_
  rotate_left 1
  · go_simp; all_goals with_reducible rfl
  try simp only [Act.put, zA, zB, zC]
  refine wpAny_done (by kernel_rfl) ?_ _
  go_wp2_with fail
  go_returns
  exact ⟨rfl, by repeat (first | exact gr_refl _ | apply gr_alloc | apply gr_grow | apply gr_drewN | apply gr_drew)⟩
end
end Go.Proofs.YtgfbfklnhmndfaaGreat
