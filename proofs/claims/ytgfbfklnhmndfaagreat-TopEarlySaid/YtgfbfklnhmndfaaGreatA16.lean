/- The parts of the top that the law of early release walks through: part 16 of 52. -/
import Derived.Test.YtgfbfklnhmndfaaGreatA1
import Derived.Test.YtgfbfklnhmndfaaGreatA3
import Derived.Test.YtgfbfklnhmndfaaGreatA4
import Derived.Test.YtgfbfklnhmndfaaGreatA15
namespace Go.Proofs.YtgfbfklnhmndfaaGreat
open Go.RowKit
set_option linter.unusedSimpArgs false
set_option linter.unusedVariables false
section
attribute [local go_sem ↓] setCell_drewN alloc_drewN grow_cell grow_frozen setCell_grow grow_size cell_alloc_grow frozen_alloc_grow setCell_alloc_grow cell_grow_alloc_grow frozen_grow_alloc_grow setCell_grow_alloc_grow grow_grow
attribute [local go_sem] lt_len size_setCell
/-- Some number comes back. -/
def RetI (w : World) (e : Ending) (w' : World) : Prop := ∃ k : Int, e = .returned (.int .i64 k) ∧ ∃ os q, Go.Proofs.YtgfbfklnhmndfaaGreat.grow w os q = w'
theorem RetI.grow {n : Nat} {args : Array Value} {w : World} {os : List Obj} {q : Nat} (h : ∀ W, Calls Tryz.prog n args W (RetI W)) : Calls Tryz.prog n args (Go.Proofs.YtgfbfklnhmndfaaGreat.grow w os q) (fun e w' => ∃ k : Int, e = .returned (.int .i64 k) ∧ ∃ os q, Go.Proofs.YtgfbfklnhmndfaaGreat.grow w os q = w') :=
  (h _).mono fun e w' ⟨k, h1, h2⟩ => ⟨k, h1, by obtain ⟨os', q', rfl⟩ := h2; exact gr_grow _ _ ⟨_, _, rfl⟩⟩
theorem task237 (e p : Int) (he : 1 ≤ e) (hep : e ≤ p) (hp : p ≤ 1048575) (w : World) : Calls Tryz.prog 237 #[.int .i64 e, .int .i64 p] w (RetG (.bool true) w) := by
  have h1 : decide (e ≥ 1) = true := by simpa using he
  have h2 : decide (e ≤ p) = true := by simpa using hep
  have h3 : decide (p ≤ 1048575) = true := by simpa using hp
  clear he hep hp
  unfold RetG
  go_enter Tryz.func237, Tryz.ntmps237
  go_wp2_with fail
  go_returns
  exact ⟨rfl, by repeat (first | exact gr_refl _ | apply gr_alloc | apply gr_grow | apply gr_drewN | apply gr_drew)⟩
theorem May210 (e p i : Int) (he : 1 ≤ e) (hep : e ≤ p) (hp : p ≤ 1048575) (hi : 1 ≤ i) (hie : i ≤ e) (w : World) : Calls Tryz.prog 210 #[.int .i64 e, .int .i64 p, .int .i64 i] w (RetG (.bool true) w) := by
  have T := fun w => task237 e p he hep hp w
  have h1 : decide (i ≥ 1) = true := by simpa using hi
  have h2 : decide (i ≤ e) = true := by simpa using hie
  clear he hep hp hi hie
  unfold RetG
  go_enter Tryz.func210, Tryz.ntmps210
  go_wp2_with fail
  refine (T _).mono ?_
  rintro e' w1 ⟨rfl, os, q, rfl⟩
  go_wp2_with fail
  go_returns
  exact ⟨rfl, by repeat (first | exact gr_refl _ | apply gr_alloc | apply gr_grow | apply gr_drewN | apply gr_drew)⟩
theorem up239 (a b : Int) (hb : b ≠ 0) (w : World) : Calls Tryz.prog 239 #[.int .i64 a, .int .i64 b] w (RetI w) := by
  have h1 : ¬ b = 0 := hb
  have h2 : (b == 0) = false := by simpa using hb
  clear hb
  unfold RetI
  go_enter Tryz.func239, Tryz.ntmps239
  go_wp2_with fail
  go_returns
  exact ⟨_, rfl, by repeat (first | exact gr_refl _ | apply gr_alloc | apply gr_grow | apply gr_drewN | apply gr_drew)⟩
theorem Deadline213 (e p i : Int) (he : 1 ≤ e) (hep : e ≤ p) (hp : p ≤ 1048575) (hi : 1 ≤ i) (hie : i ≤ e) (w : World) : Calls Tryz.prog 213 #[.int .i64 e, .int .i64 p, .int .i64 i] w (RetI w) := by
  have T := fun w => May210 e p i he hep hp hi hie w
  have U := fun a w => up239 a e (by omega) w
  clear he hep hp hi hie
  unfold RetI
  go_enter Tryz.func213, Tryz.ntmps213
  go_wp2_with fail
  refine (T _).mono ?_
  rintro e' w1 ⟨rfl, os, q, rfl⟩
  go_wp2_with fail
  refine (RetI.grow (U _)).mono ?_
  rintro e' w1 ⟨k, rfl, os2, q2, rfl⟩
  go_wp2_with fail
  go_returns
  exact ⟨_, rfl, by repeat (first | exact gr_refl _ | apply gr_alloc | apply gr_grow | apply gr_drewN | apply gr_drew)⟩
theorem Bit214 (e p i : Int) (he : 1 ≤ e) (hep : e ≤ p) (hp : p ≤ 1048575) (hi : 1 ≤ i) (hie : i ≤ e) (w : World) : Calls Tryz.prog 214 #[.int .i64 e, .int .i64 p, .int .i64 i] w (RetI w) := by
  have T := fun w => May210 e p i he hep hp hi hie w
  have h1 : ¬ e = 0 := by omega
  have h2 : (e == 0) = false := by simp; omega
  clear he hep hp hi hie
  unfold RetI
  go_enter Tryz.func214, Tryz.ntmps214
  go_wp2_with fail
  refine (T _).mono ?_
  rintro e' w1 ⟨rfl, os, q, rfl⟩
  go_wp2_with fail
  all_goals go_returns
  all_goals exact ⟨_, rfl, by repeat (first | exact gr_refl _ | apply gr_alloc | apply gr_grow | apply gr_drewN | apply gr_drew)⟩
theorem Heavy240 (e p : Int) (he : 1 ≤ e) (hep : e ≤ p) (hp : p ≤ 1048575) (w : World) : Calls Tryz.prog 240 #[.int .i64 e, .int .i64 p] w fun e' w' => ∃ b, e' = .returned (.bool b) ∧ ∃ os q, grow w os q = w' := by
  have T := fun w => task237 e p he hep hp w
  clear he hep hp
  go_enter Tryz.func240, Tryz.ntmps240
  go_wp2_with fail
  refine (T _).mono ?_
  rintro e' w1 ⟨rfl, os, q, rfl⟩
  go_wp2_with fail
  go_returns
  exact ⟨_, rfl, by repeat (first | exact gr_refl _ | apply gr_alloc | apply gr_grow | apply gr_drewN | apply gr_drew)⟩
theorem Group215 (e p i : Int) (he : 1 ≤ e) (hep : e ≤ p) (hp : p ≤ 1048575) (hi : 1 ≤ i) (hie : i ≤ e) (w : World) : Calls Tryz.prog 215 #[.int .i64 e, .int .i64 p, .int .i64 i] w (RetI w) := by
  have T := fun w => May210 e p i he hep hp hi hie w
  have H := fun w => Heavy240 e p he hep hp w
  have D := fun w => Deadline213 e p i he hep hp hi hie w
  have U := fun a w => up239 a p (by omega) w
  have V := fun (h : e ≠ p) a w => up239 a (p - e) (by omega) w
  have hw : IntKind.i64.wrap (p - e) = p - e := IntWalk.i64_in _ (by omega)
  clear he hep hp hi hie
  by_cases hep : e = p
  · subst hep
    have h1 : (e == e) = true := by simp
    unfold RetI
    go_enter Tryz.func215, Tryz.ntmps215
    go_wp2_with fail
    refine (T _).mono ?_
    rintro e' w1 ⟨rfl, os, q, rfl⟩
    go_wp2_with fail
    refine (H _).mono ?_
    rintro e' w1 ⟨b, rfl, os2, q2, rfl⟩
    cases b <;> go_wp2_with fail
    all_goals go_returns
    all_goals exact ⟨_, rfl, by repeat (first | exact gr_refl _ | apply gr_alloc | apply gr_grow | apply gr_drewN | apply gr_drew)⟩
  · have h1 : (e == p) = false := by simpa using hep
    replace V := V hep
    unfold RetI
    go_enter Tryz.func215, Tryz.ntmps215
    go_wp2_with fail
    refine (T _).mono ?_
    rintro e' w1 ⟨rfl, os, q, rfl⟩
    go_wp2_with fail
    refine (H _).mono ?_
    rintro e' w1 ⟨b, rfl, os2, q2, rfl⟩
    cases b
    · go_wp2_with fail
      go_returns
      exact ⟨_, rfl, by repeat (first | exact gr_refl _ | apply gr_alloc | apply gr_grow | apply gr_drewN | apply gr_drew)⟩
    · go_wp2_with fail
      refine (RetI.grow D).mono ?_
      rintro e' w1 ⟨k, rfl, os3, q3, rfl⟩
      go_wp2_with fail
      refine (RetI.grow (U _)).mono ?_
      rintro e' w1 ⟨k2, rfl, os4, q4, rfl⟩
      go_wp2_with fail
      refine (RetI.grow (V _)).mono ?_
      rintro e' w1 ⟨k3, rfl, os5, q5, rfl⟩
      go_wp2_with fail
      go_returns
      exact ⟨_, rfl, by repeat (first | exact gr_refl _ | apply gr_alloc | apply gr_grow | apply gr_drewN | apply gr_drew)⟩
set_option maxHeartbeats 1000000 in
theorem Of170 (e p i : Int) (he : 1 ≤ e) (hep : e ≤ p) (hp : p ≤ 1048575) (hi : 1 ≤ i) (hie : i ≤ e) (w : World) (rel id : Int) : Calls Tryz.prog 170 #[.int .i64 e, .int .i64 p, .int .i64 i, .int .i64 rel, .int .i64 id] w fun e' w' => ∃ a b c d : Int, e' = .returned (.agg #[.int .i64 a, .int .i64 b, .int .i64 c, .int .i64 d]) ∧ Kept [] w w' := by
  have T := fun w => May210 e p i he hep hp hi hie w
  have D := fun w => Deadline213 e p i he hep hp hi hie w
  have B := fun w => Bit214 e p i he hep hp hi hie w
  have G := fun w => Group215 e p i he hep hp hi hie w
  clear he hep hp hi hie
  go_enter Tryz.func170, Tryz.ntmps170
  go_wp2_with fail
  refine (T _).mono ?_
  rintro e' w1 ⟨rfl, os, q, rfl⟩
  go_wp2_with fail
  refine (RetI.grow D).mono ?_
  rintro e' w1 ⟨k, rfl, os3, q3, rfl⟩
  go_wp2_with fail
  refine (RetI.grow B).mono ?_
  rintro e' w1 ⟨k2, rfl, os4, q4, rfl⟩
  go_wp2_with fail
  have hK : Kept [] w ((Go.Proofs.YtgfbfklnhmndfaaGreat.grow (w.alloc (.cells #[.int .i64 0, .int .i64 0, .int .i64 0, .int .i64 0] 233)) os4 q4).alloc (.cells #[.int .i64 (wrap64 (rel + k)), .int .i64 k2, .int .i64 0, .int .i64 id] 233)) := (((Kept.refl [] w).alloc _).grow _ _).alloc _
  have hB : ((Go.Proofs.YtgfbfklnhmndfaaGreat.grow (w.alloc (.cells #[.int .i64 0, .int .i64 0, .int .i64 0, .int .i64 0] 233)) os4 q4).alloc (.cells #[.int .i64 (wrap64 (rel + k)), .int .i64 k2, .int .i64 0, .int .i64 id] 233)).heap[w.heap.size + 1 + os4.length]? = some (.cells #[.int .i64 (wrap64 (rel + k)), .int .i64 k2, .int .i64 0, .int .i64 id] 233 (0, 0)) := by
    have := heap_alloc_new (w := Go.Proofs.YtgfbfklnhmndfaaGreat.grow (w.alloc (.cells #[.int .i64 0, .int .i64 0, .int .i64 0, .int .i64 0] 233)) os4 q4) (o := .cells #[.int .i64 (wrap64 (rel + k)), .int .i64 k2, .int .i64 0, .int .i64 id] 233)
    rw [grow_size] at this
    simpa using this
  have hA : ((Go.Proofs.YtgfbfklnhmndfaaGreat.grow (w.alloc (.cells #[.int .i64 0, .int .i64 0, .int .i64 0, .int .i64 0] 233)) os4 q4).alloc (.cells #[.int .i64 (wrap64 (rel + k)), .int .i64 k2, .int .i64 0, .int .i64 id] 233)).heap[w.heap.size]? = some (.cells #[.int .i64 0, .int .i64 0, .int .i64 0, .int .i64 0] 233 (0, 0)) := by
    rw [heap_alloc (by rw [grow_size]; simp; omega), heap_grow (by simp), heap_alloc_new]
  generalize ((Go.Proofs.YtgfbfklnhmndfaaGreat.grow (w.alloc (.cells #[.int .i64 0, .int .i64 0, .int .i64 0, .int .i64 0] 233)) os4 q4).alloc (.cells #[.int .i64 (wrap64 (rel + k)), .int .i64 k2, .int .i64 0, .int .i64 id] 233)) = W at *
  obtain ⟨A, hAe⟩ : ∃ A, w.heap.size = A := ⟨_, rfl⟩
  obtain ⟨B2, hBe⟩ : ∃ B, w.heap.size + 1 + os4.length = B := ⟨_, rfl⟩
  have hne : A ≠ B2 := by omega
  have hne2 : B2 ≠ A := by omega
  have hlA : w.heap.size ≤ A := by omega
  have hlB : w.heap.size ≤ B2 := by omega
  rw [hBe] at hB ⊢
  rw [hAe] at hA ⊢
  clear hAe hBe
  refine (G _).mono ?_
  rintro e' w1 ⟨k3, rfl, os5, q5, rfl⟩
  replace hA : (Go.Proofs.YtgfbfklnhmndfaaGreat.grow W os5 q5).heap[A]? = _ := (heap_grow (heap_lt hA)).trans hA
  replace hB : (Go.Proofs.YtgfbfklnhmndfaaGreat.grow W os5 q5).heap[B2]? = _ := (heap_grow (heap_lt hB)).trans hB
  replace hK := hK.grow os5 q5
  generalize Go.Proofs.YtgfbfklnhmndfaaGreat.grow W os5 q5 = W at *
  have la := heap_lt hA
  have lb := heap_lt hB
  have cA0 : W.cell? ⟨A, 0, none⟩ = some (.int .i64 0) := cell_of hA 0
  have fA0 : W.frozen? ⟨A, 0, none⟩ = false := frozen_of hA 0
  have cA1 : W.cell? ⟨A, 1, none⟩ = some (.int .i64 0) := cell_of hA 1
  have fA1 : W.frozen? ⟨A, 1, none⟩ = false := frozen_of hA 1
  have cA2 : W.cell? ⟨A, 2, none⟩ = some (.int .i64 0) := cell_of hA 2
  have fA2 : W.frozen? ⟨A, 2, none⟩ = false := frozen_of hA 2
  have cA3 : W.cell? ⟨A, 3, none⟩ = some (.int .i64 0) := cell_of hA 3
  have fA3 : W.frozen? ⟨A, 3, none⟩ = false := frozen_of hA 3
  have cB0 : W.cell? ⟨B2, 0, none⟩ = some (.int .i64 (wrap64 (rel + k))) := cell_of hB 0
  have fB0 : W.frozen? ⟨B2, 0, none⟩ = false := frozen_of hB 0
  have cB1 : W.cell? ⟨B2, 1, none⟩ = some (.int .i64 k2) := cell_of hB 1
  have fB1 : W.frozen? ⟨B2, 1, none⟩ = false := frozen_of hB 1
  have cB2 : W.cell? ⟨B2, 2, none⟩ = some (.int .i64 0) := cell_of hB 2
  have fB2 : W.frozen? ⟨B2, 2, none⟩ = false := frozen_of hB 2
  have cB3 : W.cell? ⟨B2, 3, none⟩ = some (.int .i64 id) := cell_of hB 3
  have fB3 : W.frozen? ⟨B2, 3, none⟩ = false := frozen_of hB 3
  replace hK := Lib.hid (And.intro hK (And.intro hlA hlB))
  clear hA hB hlA hlB
  by_cases hk3 : k3 > 0
  · have hd : decide (k3 > 0) = true := by simpa using hk3
    have hx : ∀ v i, (W.setCell ⟨B2, 2, none⟩ v).cell? ⟨A, i, none⟩ = W.cell? ⟨A, i, none⟩ := fun v i => World.cell?_setCell_far W ⟨B2, 2, none⟩ ⟨A, i, none⟩ v hne2
    go_wp2_with fail
    (try simp only [Exit.inBlock, Exit.then])
    refine bodyPost_ret (by simp [results, Tryz.results170, go_sem, *]; try rfl) rfl ?_
    obtain ⟨h1, h2, h3⟩ := hK.out
    refine ⟨_, _, _, _, rfl, ?_⟩
    repeat first | exact h1 | refine Kept.setCell ?_ _ _ (Or.inr (by assumption))
  · have hd : decide (k3 > 0) = false := by simpa using hk3
    go_wp2_with fail
    (try simp only [Exit.inBlock, Exit.then])
    refine bodyPost_ret (by simp [results, Tryz.results170, go_sem, *]; try rfl) rfl ?_
    obtain ⟨h1, h2, h3⟩ := hK.out
    refine ⟨_, _, _, _, rfl, ?_⟩
    repeat first | exact h1 | refine Kept.setCell ?_ _ _ (Or.inr (by assumption))
end
section
attribute [local go_sem ↓] setCell_drewN alloc_drewN grow_cell grow_frozen setCell_grow grow_size cell_alloc_grow frozen_alloc_grow setCell_alloc_grow cell_grow_alloc_grow frozen_grow_alloc_grow setCell_grow_alloc_grow grow_grow
attribute [local go_sem] lt_len size_setCell
theorem there166_yes (id e p rel got cnt : Int) (he : 1 ≤ e) (hep : e ≤ p) (hp : p ≤ 1048575) (hg0 : 0 ≤ got) (hge : got < e) (w : World) : Calls Tryz.prog 166 #[taskV id e p true rel got cnt] w (RetG (.bool true) w) := by
  have T := fun w => May210 e p (got + 1) he hep hp (by omega) (by omega) w
  have h1 : decide (got < e) = true := by simpa using hge
  have hw : IntKind.i64.wrap (got + 1) = got + 1 := IntWalk.i64_in _ (by omega)
  clear he hep hp hg0 hge
  unfold RetG
  go_enter Tryz.func166, Tryz.ntmps166
  go_wp2_with fail
  refine (T _).mono ?_
  rintro e' w1 ⟨rfl, os, q, rfl⟩
  go_wp2_with fail
  go_returns
  exact ⟨rfl, by repeat (first | exact gr_refl _ | apply gr_alloc | apply gr_grow | apply gr_drewN | apply gr_drew)⟩
theorem there166_no (id e p rel got cnt : Int) (he : 1 ≤ e) (hep : e ≤ p) (hp : p ≤ 1048575) (hg0 : 0 ≤ got) (hge : ¬ got < e) (w : World) : Calls Tryz.prog 166 #[taskV id e p true rel got cnt] w (RetG (.bool false) w) := by
  have h1 : decide (got < e) = false := by simpa using hge
  clear he hep hp hg0 hge
  unfold RetG
  go_enter Tryz.func166, Tryz.ntmps166
  go_wp2_with fail
  go_returns
  exact ⟨rfl, by repeat (first | exact gr_refl _ | apply gr_alloc | apply gr_grow | apply gr_drewN | apply gr_drew)⟩
theorem Can125_no (id e p rel got cnt : Int) (he : 1 ≤ e) (hep : e ≤ p) (hp : p ≤ 1048575) (hg0 : 0 ≤ got) (hge : ¬ got < e) (clock : Int) (early : Bool) (w : World) : Calls Tryz.prog 125 #[taskV id e p true rel got cnt, .int .i64 clock, .bool early] w (RetG (.bool false) w) := by
  have T := fun w => there166_no id e p rel got cnt he hep hp hg0 hge w
  clear he hep hp hg0 hge
  unfold RetG
  go_enter Tryz.func125, Tryz.ntmps125
  go_wp2_with fail
  refine (T _).mono ?_
  rintro e' w1 ⟨rfl, os, q, rfl⟩
  go_wp2_with fail
  go_returns
  exact ⟨rfl, by repeat (first | exact gr_refl _ | apply gr_alloc | apply gr_grow | apply gr_drewN | apply gr_drew)⟩
theorem Can125_early (id e p rel got cnt : Int) (he : 1 ≤ e) (hep : e ≤ p) (hp : p ≤ 1048575) (hg0 : 0 ≤ got) (hge : got < e) (clock : Int) (hc : rel ≤ clock) (w : World) : Calls Tryz.prog 125 #[taskV id e p true rel got cnt, .int .i64 clock, .bool true] w (RetG (.bool true) w) := by
  have T := fun w => there166_yes id e p rel got cnt he hep hp hg0 hge w
  have h1 : decide (rel > clock) = false := by simp; omega
  clear he hep hp hg0 hge hc
  unfold RetG
  go_enter Tryz.func125, Tryz.ntmps125
  go_wp2_with fail
  refine (T _).mono ?_
  rintro e' w1 ⟨rfl, os, q, rfl⟩
  go_wp2_with fail
  go_quiet (fail)
  go_wp2_with fail
  go_returns
  exact ⟨rfl, by repeat (first | exact gr_refl _ | apply gr_alloc | apply gr_grow | apply gr_drewN | apply gr_drew)⟩
theorem Rank127 (id e p rel got cnt : Int) (he : 1 ≤ e) (hep : e ≤ p) (hp : p ≤ 1048575) (hg0 : 0 ≤ got) (hge : got < e) (w : World) : Calls Tryz.prog 127 #[taskV id e p true rel got cnt] w fun e' w' => ∃ a b c d : Int, e' = .returned (.agg #[.int .i64 a, .int .i64 b, .int .i64 c, .int .i64 d]) ∧ Kept [] w w' := by
  have T := fun w => there166_yes id e p rel got cnt he hep hp hg0 hge w
  have O := fun w => Of170 e p (got + 1) he hep hp (by omega) (by omega) w rel id
  have hw : IntKind.i64.wrap (got + 1) = got + 1 := IntWalk.i64_in _ (by omega)
  clear he hep hp hg0 hge
  go_enter Tryz.func127, Tryz.ntmps127
  go_wp2_with fail
  refine (T _).mono ?_
  rintro e' w1 ⟨rfl, os, q, rfl⟩
  go_wp2_with fail
  refine (O _).mono ?_
  rintro e' w1 ⟨a, b, c, d, rfl, hk⟩
  have hR : w1.heap[w.heap.size + 1]? = some (.cells #[.int .i64 0, .int .i64 0, .int .i64 0, .int .i64 0] 233 (0, 0)) := by
    refine hk.at ?_ (by simp)
    rw [heap_grow (by simp)]
    exact (by simpa using heap_alloc_new (w := w.alloc (.cells #[.int .i64 id, .int .i64 e, .int .i64 p, .bool false, .bool false, .bool false, .bool true, .int .i64 rel, .int .i64 got, .bool false, .int .i64 cnt] 143)) (o := .cells #[.int .i64 0, .int .i64 0, .int .i64 0, .int .i64 0] 233))
  have hK : Kept [] w w1 := Kept.trans ((((Kept.refl [] w).alloc _).alloc _).grow os q) hk (by simp) (by simp)
  have hl := heap_lt hR
  have c0 : w1.cell? ⟨w.heap.size + 1, 0, none⟩ = some (.int .i64 0) := cell_of hR 0
  have f0 : w1.frozen? ⟨w.heap.size + 1, 0, none⟩ = false := frozen_of hR 0
  have c1 : w1.cell? ⟨w.heap.size + 1, 1, none⟩ = some (.int .i64 0) := cell_of hR 1
  have f1 : w1.frozen? ⟨w.heap.size + 1, 1, none⟩ = false := frozen_of hR 1
  have c2 : w1.cell? ⟨w.heap.size + 1, 2, none⟩ = some (.int .i64 0) := cell_of hR 2
  have f2 : w1.frozen? ⟨w.heap.size + 1, 2, none⟩ = false := frozen_of hR 2
  have c3 : w1.cell? ⟨w.heap.size + 1, 3, none⟩ = some (.int .i64 0) := cell_of hR 3
  have f3 : w1.frozen? ⟨w.heap.size + 1, 3, none⟩ = false := frozen_of hR 3
  replace hK := Lib.hid hK
  clear hk hR
  go_wp2_with fail
  (try simp only [Exit.inBlock, Exit.then])
  refine bodyPost_ret (by simp [results, Tryz.results127, go_sem, *]; try rfl) rfl ?_
  refine ⟨_, _, _, _, rfl, ?_⟩
  repeat first | exact hK.out | refine Kept.setCell ?_ _ _ (Or.inr (by simp))
theorem Release167k (e p i : Int) (he : 1 ≤ e) (hep : e ≤ p) (hp : p ≤ 1048575) (hi : 1 ≤ i) (hie : i ≤ e) : ∃ k : Int, ∀ w, Calls Tryz.prog 167 #[.int .i64 e, .int .i64 p, .int .i64 i] w (RetG (.int .i64 k) w) := by
  have T := fun w => May210 e p i he hep hp hi hie w
  have h1 : ¬ e = 0 := by omega
  have h2 : (e == 0) = false := by simp; omega
  clear he hep hp hi hie
  refine ⟨wrap64 (Int.tdiv (wrap64 (wrap64 (i - 1) * p)) e), fun w => ?_⟩
  unfold RetG
  go_enter Tryz.func167, Tryz.ntmps167
  go_wp2_with fail
  refine (T _).mono ?_
  rintro e' w1 ⟨rfl, os, q, rfl⟩
  go_wp2_with fail
  go_returns
  exact ⟨rfl, by repeat (first | exact gr_refl _ | apply gr_alloc | apply gr_grow | apply gr_drewN | apply gr_drew)⟩
end
end Go.Proofs.YtgfbfklnhmndfaaGreat
