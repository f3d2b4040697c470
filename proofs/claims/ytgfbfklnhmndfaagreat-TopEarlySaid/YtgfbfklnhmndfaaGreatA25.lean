/- The parts of the top that the law of early release walks through: part 25 of 52. -/
import Derived.Maps.AppendAt
import Derived.Maps.OwnOps
import Derived.Shelf.SlIterI.Sorted
import Derived.RangeFuncBox
import Derived.RangeFuncLeaves
import Derived.OwnWalkIn
import Derived.TacticsInMore
import Derived.LoopNIn
import Derived.LoopIn
import Derived.Laws.LoneSync
import Derived.Test.YtgfbfklnhmndfaaGreatA1
import Derived.Test.YtgfbfklnhmndfaaGreatA2
import Derived.Test.YtgfbfklnhmndfaaGreatA3
import Derived.Test.YtgfbfklnhmndfaaGreatA4
import Derived.Test.YtgfbfklnhmndfaaGreatA6
namespace Go.Proofs.YtgfbfklnhmndfaaGreat
open Go.RowKit
set_option linter.unusedSimpArgs false
set_option linter.unusedVariables false
section
attribute [local go_sem ↓] setCell_drewN alloc_drewN grow_cell grow_frozen setCell_grow grow_size cell_alloc_grow frozen_alloc_grow setCell_alloc_grow cell_grow_alloc_grow frozen_grow_alloc_grow setCell_grow_alloc_grow grow_grow
attribute [local go_sem] lt_len size_setCell
theorem sum59 (a b : Rat) (ha : Sm30 a) (hb : Sm30 b) (w : World) : Calls Tryz.prog 59 #[rv a, rv b] w (RetG (rv (a + b)) w) := by
  have A := fun w => Add74 a b ha hb w
  unfold rv RetG at *
  generalize (a + b).num = x at *
  generalize (a + b).den = y at *
  generalize a.num = a1 at *
  generalize a.den = a2 at *
  generalize b.num = b1 at *
  generalize b.den = b2 at *
  clear ha hb
  go_enter Tryz.func59, Tryz.ntmps59
  go_wp2_with fail
  refine (A _).mono ?_
  rintro e w1 ⟨rfl, os, q, rfl⟩
  go_wp2_with fail
  go_returns
  exact ⟨rfl, by repeat (first | exact gr_refl _ | apply gr_alloc | apply gr_grow | apply gr_drewN | apply gr_drew)⟩
theorem less60 (a b : Rat) (ha : Sm30 a) (hb : Sm30 b) (w : World) : Calls Tryz.prog 60 #[rv a, rv b] w (RetG (rv (a - b)) w) := by
  have A := fun w => Sub102 a b ha hb w
  unfold rv RetG at *
  generalize (a - b).num = x at *
  generalize (a - b).den = y at *
  generalize a.num = a1 at *
  generalize a.den = a2 at *
  generalize b.num = b1 at *
  generalize b.den = b2 at *
  clear ha hb
  go_enter Tryz.func60, Tryz.ntmps60
  go_wp2_with fail
  refine (A _).mono ?_
  rintro e w1 ⟨rfl, os, q, rfl⟩
  go_wp2_with fail
  go_returns
  exact ⟨rfl, by repeat (first | exact gr_refl _ | apply gr_alloc | apply gr_grow | apply gr_drewN | apply gr_drew)⟩
theorem whole83 (n : Int) (w : World) : Calls Tryz.prog 83 #[.int .i64 n] w (RetG (.agg #[.int .i64 n, .int .i64 1]) w) := by
  unfold RetG
  go_enter Tryz.func83, Tryz.ntmps83
  go_wp2_with fail
  go_returns
  exact ⟨rfl, by repeat (first | exact gr_refl _ | apply gr_alloc | apply gr_grow | apply gr_drewN | apply gr_drew)⟩
theorem may72 (e p : Int) (he : 1 ≤ e) (hep : e ≤ p) (hp : p ≤ 1048575) (w : World) : Calls Tryz.prog 72 #[.int .i64 e, .int .i64 p] w (RetG (.bool true) w) := by
  have h1 : decide (e ≥ 1) = true := by simpa using he
  have h2 : decide (e ≤ p) = true := by simpa using hep
  have h3 : decide (p ≤ 1048575) = true := by simpa using hp
  clear he hep hp
  unfold RetG
  go_enter Tryz.func72, Tryz.ntmps72
  go_wp2_with fail
  go_returns
  exact ⟨rfl, by repeat (first | exact gr_refl _ | apply gr_alloc | apply gr_grow | apply gr_drewN | apply gr_drew)⟩
theorem within16 (n a b : Int) (h1 : a ≤ n) (h2 : n ≤ b) (w : World) : Calls Tryz.prog 16 #[.int .i64 n, .int .i64 a, .int .i64 b] w (RetG (.bool true) w) := by
  have d1 : decide (n ≥ a) = true := by simpa using h1
  have d2 : decide (n ≤ b) = true := by simpa using h2
  clear h1 h2
  unfold RetG
  go_enter Tryz.func16, Tryz.ntmps16
  go_wp2_with fail
  go_returns
  exact ⟨rfl, by repeat (first | exact gr_refl _ | apply gr_alloc | apply gr_grow | apply gr_drewN | apply gr_drew)⟩
theorem fraction75 (n : Int) (d : Nat) (hd : 0 < d) (hn1 : n.natAbs < 2147483648) (hd1 : d < 2147483648) (w : World) : Calls Tryz.prog 75 #[.int .i64 n, .int .i64 d] w (RetG (rv (mkRat n d)) w) := by
  have A := fun w => Of118 n d hd hn1 hd1 w
  unfold rv RetG at *
  generalize (mkRat n d).num = x at *
  generalize (mkRat n d).den = y at *
  clear hd hn1 hd1
  go_enter Tryz.func75, Tryz.ntmps75
  go_wp2_with fail
  refine (A _).mono ?_
  rintro e w1 ⟨rfl, os, q, rfl⟩
  go_wp2_with fail
  go_returns
  exact ⟨rfl, by repeat (first | exact gr_refl _ | apply gr_alloc | apply gr_grow | apply gr_drewN | apply gr_drew)⟩
end
section
attribute [local go_sem ↓] setCell_drewN alloc_drewN grow_cell grow_frozen setCell_grow grow_size cell_alloc_grow frozen_alloc_grow setCell_alloc_grow cell_grow_alloc_grow frozen_grow_alloc_grow setCell_grow_alloc_grow grow_grow
attribute [local go_sem] lt_len size_setCell
theorem at_add (a : Addr) (x n : Int) (w : World) (hc : w.cell? a = some (.int .i64 x)) (hf : w.frozen? a = false) :
    (callFunc 143 #[.pointer (some a), .int .i64 n]).run Tryz.prog w = .ok (.value (.int .i64 (wrap64 (x + n)))) (w.setCell a (.int .i64 (wrap64 (x + n)))) :=
  run_call_add (P := Tryz.prog) Tryz.func143 (by kernel_rfl) (by kernel_rfl) (by kernel_rfl) .i64 (by kernel_rfl) hc hf (by simp [go_sem, wrap64, IntKind.wrap_i64])
theorem at_load (a : Addr) (x : Int) (w : World) (hc : w.cell? a = some (.int .i64 x)) :
    (callFunc 110 #[.pointer (some a)]).run Tryz.prog w = .ok (.value (.int .i64 x)) w :=
  run_call_load (P := Tryz.prog) Tryz.func110 (by kernel_rfl) (by kernel_rfl) (by kernel_rfl) .i64 (by kernel_rfl) hc
theorem at_store (a : Addr) (x y : Int) (w : World) (hc : w.cell? a = some (.int .i64 x)) (hf : w.frozen? a = false) :
    (callFunc 142 #[.pointer (some a), .int .i64 y]).run Tryz.prog w = .ok (.value (.tuple #[])) (w.setCell a (.int .i64 y)) :=
  run_call_store (P := Tryz.prog) Tryz.func142 (by kernel_rfl) (by kernel_rfl) (by kernel_rfl) (by kernel_rfl) hc hf
theorem int_add (b o : Nat) (x n : Int) (w : World) (hc : w.cell? ⟨b, o, none⟩ = some (.int .i64 x)) (hf : w.frozen? ⟨b, o, none⟩ = false) :
    Calls Tryz.prog 104 #[.pointer (some ⟨b, o, none⟩), .int .i64 n] w fun e w' => e = .returned (.int .i64 (wrap64 (x + n))) ∧ w.setCell ⟨b, o, none⟩ (.int .i64 (wrap64 (x + n))) = w' := by
  have ha := at_add ⟨b, o, none⟩ x n w hc hf
  go_enter Tryz.func104, Tryz.ntmps104
  go_wp2
  go_ret
  exact ⟨rfl, rfl⟩
theorem int_load (b o : Nat) (x : Int) (w : World) (hc : w.cell? ⟨b, o, none⟩ = some (.int .i64 x)) :
    Calls Tryz.prog 67 #[.pointer (some ⟨b, o, none⟩)] w fun e w' => e = .returned (.int .i64 x) ∧ w = w' := by
  have ha := at_load ⟨b, o, none⟩ x w hc
  go_enter Tryz.func67, Tryz.ntmps67
  go_wp2
  go_ret
  exact ⟨rfl, rfl⟩
theorem int_store (b o : Nat) (x y : Int) (w : World) (hc : w.cell? ⟨b, o, none⟩ = some (.int .i64 x)) (hf : w.frozen? ⟨b, o, none⟩ = false) :
    Calls Tryz.prog 103 #[.pointer (some ⟨b, o, none⟩), .int .i64 y] w fun e w' => e = .returned (.tuple #[]) ∧ w.setCell ⟨b, o, none⟩ (.int .i64 y) = w' := by
  have ha := at_store ⟨b, o, none⟩ x y w hc hf
  go_enter Tryz.func103, Tryz.ntmps103
  go_wp2
  go_returns
  exact ⟨rfl, rfl⟩
theorem there66 (b k : Nat) (hk : k < 5) (w : World) : Calls Tryz.prog 66 #[.pointer (some ⟨b, 0, none⟩), .int .i64 k] w fun e w' => e = .returned (.bool true) ∧ w = w' := by
  have h1 : decide ((k : Int) < 5) = true := by simp; omega
  clear hk
  go_enter Tryz.func66, Tryz.ntmps66
  go_wp2_with fail
  go_returns
  exact ⟨rfl, rfl⟩
theorem Add62 (b k : Nat) (n x : Int) (c : Array Value) (T : TypeId) (w : World) (hk : k < 5) (hm : w.heap[b]? = some (.cells c T (0, 0))) (hc : c[k]? = some (.int .i64 x)) :
    Calls Tryz.prog 62 #[.pointer (some ⟨b, 0, none⟩), .int .i64 k, .int .i64 n] w fun e w' => (∃ y, e = .returned (.int .i64 y)) ∧ Kept [b] w w' ∧ w'.heap[b]? = some (.cells (c.setIfInBounds k (.int .i64 (wrap64 (x + n)))) T (0, 0)) := by
  have A := int_add b k x n w (by rw [cell_of hm k, hc]) (frozen_of hm k)
  have T1 := there66 b k hk w
  have h1 : decide ((k : Int) < 5) = true := by simp; omega
  have h2 : decide ((k : Int) < 0) = false := by simp
  have h3 : decide ((k : Int) ≥ 5) = false := by simp; omega
  have h4 : ¬ 5 ≤ (k : Int) := by omega
  replace hm := Lib.hid hm
  clear hc hk
  go_enter Tryz.func62, Tryz.ntmps62
  go_wp2_with fail
  refine T1.mono ?_
  rintro e w1 ⟨rfl, rfl⟩
  go_wp2_with fail
  refine A.mono ?_
  rintro e w1 ⟨rfl, rfl⟩
  go_wp2_with fail
  go_returns
  exact ⟨⟨_, rfl⟩, (Kept.refl _ _).setCell _ _ (Or.inl (by simp)), heap_setCell hm.out⟩
theorem Put61_0 (r : Nat) (B : Option Addr) (x clock a b c n1 d1 n2 d2 : Int) (sl : Bool) (w : World) (hr : w.heap[r]? = some (.cells #[.slice B 0 0, .int .i64 x] 116 (0, 0))) :
    Calls Tryz.prog 61 #[.pointer (some ⟨r, 0, none⟩), .int .i64 clock, .agg #[.int .i64 a, .int .i64 b, .int .i64 c, .int .i64 n1, .int .i64 d1, .int .i64 n2, .int .i64 d2, .bool sl]] w fun e w' => (∃ y, e = .returned (.int .i64 y)) ∧ Kept [r] w w' ∧
      w'.heap[r]? = some (.cells #[.slice B 0 0, .int .i64 (wrap64 (x + 1))] 116 (0, 0)) := by
  have k1 : Kept [] w (w.alloc (.cells #[.int .i64 a, .int .i64 b, .int .i64 c, .int .i64 n1, .int .i64 d1, .int .i64 n2, .int .i64 d2, .bool sl] 53)) := (Kept.refl _ _).alloc _
  have h1 := k1.at hr (by simp)
  have L := int_load r 1 x _ (cell_of h1 1)
  have S := int_store r 1 x (wrap64 (x + 1)) _ (cell_of h1 1) (frozen_of h1 1)
  have c0 : w.cell? ⟨r, 0, none⟩ = some (.slice B 0 0) := cell_of hr 0
  have lr := heap_lt hr
  replace hr := Lib.hid hr
  clear k1 h1
  go_enter Tryz.func61, Tryz.ntmps61
  go_wp2_with fail
  refine L.mono ?_
  rintro e w1 ⟨rfl, rfl⟩
  go_wp2_with fail
  refine S.mono ?_
  rintro e w1 ⟨rfl, rfl⟩
  go_wp2_with fail
  go_returns
  refine ⟨⟨_, rfl⟩, ((Kept.refl [r] w).setCell _ _ (Or.inl (by simp))).alloc _, ?_⟩
  rw [heap_alloc (by rw [size_setCell]; exact lr), heap_setCell hr.out]
  simp
end
end Go.Proofs.YtgfbfklnhmndfaaGreat
