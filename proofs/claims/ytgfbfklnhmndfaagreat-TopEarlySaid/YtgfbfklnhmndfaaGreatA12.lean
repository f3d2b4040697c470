/- The parts of the top that the law of early release walks through: part 12 of 52. -/
import Derived.Maps.AppendAt
import Derived.Maps.OwnOps
import Derived.Test.YtgfbfklnhmndfaaGreatA1
import Derived.Test.YtgfbfklnhmndfaaGreatA3
import Derived.Test.YtgfbfklnhmndfaaGreatA9
namespace Go.Proofs.YtgfbfklnhmndfaaGreat
open Go.RowKit
set_option linter.unusedSimpArgs false
set_option linter.unusedVariables false
section
attribute [local go_sem ↓] setCell_drewN alloc_drewN grow_cell grow_frozen setCell_grow grow_size cell_alloc_grow frozen_alloc_grow setCell_alloc_grow cell_grow_alloc_grow frozen_grow_alloc_grow setCell_grow_alloc_grow grow_grow
attribute [local go_sem] lt_len
theorem chk {k : TypeId} (hk : Tryz.prog.underlying k = some (.int .i64)) (b : Bool) (x : Int) (w : World) : (Instr.checkKey b 10000 k (.int .i64 x)).run Tryz.prog w = .ok () w := by
  rw [show (10000 : Nat) = 9999 + 1 from rfl, Instr.checkKey]
  simp [run_underlying hk]
theorem setM {w : World} {M c : Nat} {es : Array MapEntry} (hM : w.heap[M]? = some (.map es c)) (o : Obj) : (setObj M o).run Tryz.prog w = .ok () (Go.ChangeMaps.setBlock w M o) := MapKept.run_setObj_map o hM
theorem look_none {t k e : TypeId} (ht : Tryz.prog.underlying t = some (.map k e)) (hk : Tryz.prog.underlying k = some (.int .i64)) {z : Value} {w : World} (hz : (zeroValue e).run Tryz.prog w = .ok z w) {M c : Nat} (hM : w.heap[M]? = some (.map #[] c)) (x : Int) (ok : Bool) :
    (Instr.lookup t (.map (some M)) (.int .i64 x) ok).run Tryz.prog w = .ok (if ok then .tuple #[z, .bool false] else z) w := by
  cases ok <;> simp [Instr.lookup, run_underlying ht, run_underlying hk, MapKept.run_getObj_map hM, chk hk, Instr.findKey, Instr.findNow, Instr.sameNow, hz]
theorem look_one {t k e : TypeId} (ht : Tryz.prog.underlying t = some (.map k e)) (hk : Tryz.prog.underlying k = some (.int .i64)) {v : Value} {w : World} {M c b : Nat} {x : Int} (hM : w.heap[M]? = some (.map #[{ key := .int .i64 x, val := v, born := b }] c)) (ok : Bool) :
    (Instr.lookup t (.map (some M)) (.int .i64 x) ok).run Tryz.prog w = .ok (if ok then .tuple #[v, .bool true] else v) w := by
  cases ok <;> simp [Instr.lookup, run_underlying ht, run_underlying hk, MapKept.run_getObj_map hM, chk hk, Instr.findKey, Instr.findNow, Instr.sameNow]
theorem put_none {t k e : TypeId} (ht : Tryz.prog.underlying t = some (.map k e)) (hk : Tryz.prog.underlying k = some (.int .i64)) {w : World} {M c : Nat} (hM : w.heap[M]? = some (.map #[] c)) (x : Int) (v : Value) :
    (Instr.mapUpdate t (.map (some M)) (.int .i64 x) v).run Tryz.prog w = .ok () (Go.ChangeMaps.setBlock w M (.map #[{ key := .int .i64 x, val := v, born := c }] (c + 1))) := by
  simp [Instr.mapUpdate, run_underlying ht, run_underlying hk, MapKept.run_getObj_map hM, chk hk, Instr.findKey, Instr.findNow, Instr.sameNow, setM hM]
theorem put_one {t k e : TypeId} (ht : Tryz.prog.underlying t = some (.map k e)) (hk : Tryz.prog.underlying k = some (.int .i64)) {w : World} {M c b : Nat} {x : Int} {u : Value} (hM : w.heap[M]? = some (.map #[{ key := .int .i64 x, val := u, born := b }] c)) (v : Value) :
    (Instr.mapUpdate t (.map (some M)) (.int .i64 x) v).run Tryz.prog w = .ok () (Go.ChangeMaps.setBlock w M (.map #[{ key := .int .i64 x, val := v, born := b }] c)) := by
  simp [Instr.mapUpdate, run_underlying ht, run_underlying hk, MapKept.run_getObj_map hM, chk hk, Instr.findKey, Instr.findNow, Instr.sameNow, Instr.keyThatStays, Instr.sameBits, setM hM]
theorem entry_none {t k e : TypeId} (ht : Tryz.prog.underlying t = some (.map k e)) (hk : Tryz.prog.underlying k = some (.int .i64)) {z : Value} {w : World} (hz : (zeroValue e).run Tryz.prog w = .ok z w) {M c : Nat} (hM : w.heap[M]? = some (.map #[] c)) (x : Int) :
    (Instr.mapEntry t (.map (some M)) (.int .i64 x)).run Tryz.prog w = .ok (.tuple #[z, .int .i64 c]) (Go.ChangeMaps.setBlock w M (.map #[{ key := .int .i64 x, val := z, born := c }] (c + 1))) := by
  simp [Instr.mapEntry, run_underlying ht, run_underlying hk, MapKept.run_getObj_map hM, chk hk, Instr.findKey, Instr.findNow, Instr.sameNow, hz, setM hM, goInt]
theorem entry_store {t : TypeId} {w : World} {M c b : Nat} {x : Int} {u : Value} (hM : w.heap[M]? = some (.map #[{ key := .int .i64 x, val := u, born := b }] c)) (v : Value) :
    (Instr.entryStore t (.map (some M)) (.int .i64 b) v).run Tryz.prog w = .ok () (Go.ChangeMaps.setBlock w M (.map #[{ key := .int .i64 x, val := v, born := b }] c)) := by
  simp [Instr.entryStore, MapKept.run_getObj_map hM, setM hM, asInt, asIntOf]
theorem heap_setBlock {w : World} {b : Nat} {o : Obj} (h : b < w.heap.size) : (Go.ChangeMaps.setBlock w b o).heap[b]? = some o := by
  unfold Go.ChangeMaps.setBlock
  simp [h]
theorem heap_setBlock_ne {w : World} {b d : Nat} {o : Obj} (h : d ≠ b) : (Go.ChangeMaps.setBlock w d o).heap[b]? = w.heap[b]? := by
  unfold Go.ChangeMaps.setBlock
  simp only [Array.getElem?_setIfInBounds_ne h]
theorem Get79_one (s M c x : Nat) (a b d : Value) (id : Int) (k : Int) (w : World) (hs : w.heap[s]? = some (.cells #[a, b, .map (some M), d] 133 (0, 0))) (hM : w.heap[M]? = some (.map #[{ key := .int .i64 id, val := .int .i64 k, born := x }] c)) :
    Calls Tryz.prog 79 #[.pointer (some ⟨s, 0, none⟩), .int .i64 id] w fun e w' => e = .returned (.tuple #[.int .i64 k, .bool true]) ∧ w = w' := by
  have c2 : w.cell? ⟨s, 2, none⟩ = some (.map (some M)) := cell_of hs 2
  have hl := heap_lt hs
  have hL := look_one Tryz.underlying90 Tryz.underlying3 (w := w) hM true
  simp only [if_true] at hL
  clear hs hM
  go_enter Tryz.func79, Tryz.ntmps79
  go_wp2_with fail
  go_returns
  exact ⟨rfl, rfl⟩
end
end Go.Proofs.YtgfbfklnhmndfaaGreat
