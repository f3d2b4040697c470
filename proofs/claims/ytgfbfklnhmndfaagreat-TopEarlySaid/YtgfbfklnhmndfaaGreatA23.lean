/- The parts of the top that the law of early release walks through: part 23 of 52. -/
import Derived.RangeFuncBox
import Derived.RangeFuncLeaves
import Derived.OwnWalkIn
import Derived.TacticsInMore
import Derived.LoopNIn
import Derived.LoopIn
import Derived.Test.YtgfbfklnhmndfaaGreatA1
import Derived.Test.YtgfbfklnhmndfaaGreatA3
import Derived.Test.YtgfbfklnhmndfaaGreatA4
import Derived.Test.YtgfbfklnhmndfaaGreatA14
import Derived.Test.YtgfbfklnhmndfaaGreatA16
namespace Go.Proofs.YtgfbfklnhmndfaaGreat
open Go.RowKit
set_option linter.unusedSimpArgs false
set_option linter.unusedVariables false
section
attribute [local go_sem ↓] setCell_drewN alloc_drewN grow_cell grow_frozen setCell_grow grow_size cell_alloc_grow frozen_alloc_grow setCell_alloc_grow cell_grow_alloc_grow frozen_grow_alloc_grow setCell_grow_alloc_grow grow_grow
attribute [local go_sem] lt_len size_setCell
theorem SortP174 (v f : Value) (n : Nat) (hn : n < 2) (w : World) : Calls Tryz.prog 174 #[v, .int .i64 0, .int .i64 n, f] w (RetG (.tuple #[]) w) := by
  have hd : decide (1 < (n : Int)) = false := by simp; omega
  clear hn
  unfold RetG
  go_enter Tryz.func174, Tryz.ntmps174
  go_wp2_with fail
  refine wp_loop_rounds 1 ?_
  rw [rounds_succ]
  go_wp2_with fail
  go_returns
  exact ⟨rfl, by repeat (first | exact gr_refl _ | apply gr_alloc | apply gr_grow | apply gr_drewN | apply gr_drew)⟩
theorem SortP132 (v f : Value) (n : Nat) (k : Int) (hn : n < 2) (w : World) : Calls Tryz.prog 132 #[v, .int .i64 0, .int .i64 n, .int .i64 k, f] w (RetG (.tuple #[]) w) := by
  have S := fun w => SortP174 v f n hn w
  have hd : decide ((n : Int) ≤ 12) = true := by simp; omega
  have hw : IntKind.i64.wrap (n : Int) = n := IntWalk.i64_in _ (by omega)
  clear hn
  unfold RetG
  go_enter Tryz.func132, Tryz.ntmps132
  go_wp2_with fail
  refine wp_loop_rounds 1 ?_
  rw [rounds_succ]
  go_wp2_with fail
  refine (S _).mono ?_
  rintro e w1 ⟨rfl, os, q, rfl⟩
  go_wp2_with fail
  go_returns
  exact ⟨rfl, by repeat (first | exact gr_refl _ | apply gr_alloc | apply gr_grow | apply gr_drewN | apply gr_drew)⟩
theorem SortP90 (g : Option Addr) (n c : Nat) (f : Value) (hn : n < 2) (w : World) : Calls Tryz.prog 90 #[.slice g n c, f] w (RetG (.tuple #[]) w) := by
  have L := fun w => Len133 n hn w
  have S := fun k w => SortP132 (.slice g n c) f n k hn w
  have hw : IntKind.u64.wrap (n : Int) = n := IntWalk.u64_in _ (by omega)
  clear hn
  unfold RetG
  go_enter Tryz.func90, Tryz.ntmps90
  go_wp2_with fail
  refine (L _).mono ?_
  rintro e w1 ⟨k, rfl, os, q, rfl⟩
  go_wp2_with fail
  refine (RetG.grow (S k)).mono ?_
  rintro e w1 ⟨rfl, os2, q2, rfl⟩
  go_wp2_with fail
  go_returns
  exact ⟨rfl, by repeat (first | exact gr_refl _ | apply gr_alloc | apply gr_grow | apply gr_drewN | apply gr_drew)⟩
theorem whole89 (n : Int) (w : World) : Calls Tryz.prog 89 #[.int .i64 n] w (RetG (.agg #[.int .i64 n, .int .i64 1]) w) := by
  unfold RetG
  go_enter Tryz.func89, Tryz.ntmps89
  go_wp2_with fail
  go_returns
  exact ⟨rfl, by repeat (first | exact gr_refl _ | apply gr_alloc | apply gr_grow | apply gr_drewN | apply gr_drew)⟩
theorem run_app_op {T : TypeId} {w w' : World} {oo : Oper} {act : Act} {v' : Value} (s x : Operand) (ho : oo.op = .call { callee := .builtin .append, args := #[s, x], argTypes := #[T, T] }) (v y : Value) (hs : act.eval s = v) (hx : act.eval x = y)
    (hr : (Builtin.append_ #[T, T] oo.type #[v, y]).run Tryz.prog w = .ok v' w') : (execOp act.eval oo).run Tryz.prog w = .ok (.value v') w' := by
  unfold execOp
  simp only [ho, resolve, invoke, builtin, Sem.run_bind, Sem.run_pure, Result.andThen_ok, List.map_toArray, List.map_cons, List.map_nil, hs, hx, hr]
theorem infoPiece : (Tryz.prog.info? 53).map (fun i => (i.zero, i.size, decide (i.bytes ≤ 10000))) = some (some (.agg #[.int .i64 0, .int .i64 0, .int .i64 0, .int .i64 0, .int .i64 0, .int .i64 0, .int .i64 0, .bool false]), 8, true) := by kernel_rfl
/-- A piece's cells. -/
abbrev pieceL (eng core id n1 d1 n2 d2 : Int) (sl : Bool) (rest : List Value) : List Value := .int .i64 eng :: .int .i64 core :: .int .i64 id :: .int .i64 n1 :: .int .i64 d1 :: .int .i64 n2 :: .int .i64 d2 :: .bool sl :: rest
end
end Go.Proofs.YtgfbfklnhmndfaaGreat
