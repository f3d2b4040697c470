/- The parts of the top that the law of early release walks through: part 29 of 52. -/
import Derived.WalkSpells
import Derived.Test.YtgfbfklnhmndfaaGreatA1
import Derived.Test.YtgfbfklnhmndfaaGreatA2
import Derived.Test.YtgfbfklnhmndfaaGreatA3
import Derived.Test.YtgfbfklnhmndfaaGreatA4
import Derived.Test.YtgfbfklnhmndfaaGreatA6
import Derived.Test.YtgfbfklnhmndfaaGreatA8
import Derived.Test.YtgfbfklnhmndfaaGreatA10
import Derived.Test.YtgfbfklnhmndfaaGreatA15
import Derived.Test.YtgfbfklnhmndfaaGreatA16
import Derived.Test.YtgfbfklnhmndfaaGreatA18
import Derived.Test.YtgfbfklnhmndfaaGreatA21
import Derived.Test.YtgfbfklnhmndfaaGreatA23
import Derived.Test.YtgfbfklnhmndfaaGreatA28
namespace Go.Proofs.YtgfbfklnhmndfaaGreat
open Go.RowKit
set_option linter.unusedSimpArgs false
set_option linter.unusedVariables false
section
attribute [local go_sem ↓] setCell_drewN alloc_drewN grow_cell grow_frozen setCell_grow grow_size cell_alloc_grow frozen_alloc_grow setCell_alloc_grow cell_grow_alloc_grow frozen_grow_alloc_grow setCell_grow_alloc_grow grow_grow
attribute [local go_sem] lt_len size_setCell
theorem Stable135 (v f : Value) (n : Nat) (hn : n < 2) (w : World) : Calls Tryz.prog 135 #[v, .int .i64 n, f] w (RetG (.tuple #[]) w) := by
  have S := fun w => SortP174 v f n hn w
  have h1 : decide ((20 : Int) ≤ n) = false := by simp; omega
  have h2 : decide ((20 : Int) < n) = false := by simp; omega
  clear hn
  unfold RetG at *
  go_enter Tryz.func135, Tryz.ntmps135
  go_wp2_with fail
  refine wp_loop_rounds 1 ?_
  rw [rounds_succ]
  go_wp2_with fail
  refine (S _).mono ?_
  rintro e w1 ⟨rfl, os, q, rfl⟩
  go_wp2_with fail
  refine wp_loop_rounds 1 ?_
  rw [rounds_succ]
  go_wp2_with fail
  go_returns
  exact ⟨rfl, by repeat (first | exact gr_refl _ | apply gr_alloc | apply gr_grow | apply gr_drewN | apply gr_drew)⟩
theorem Stable94 (g : Option Addr) (f : Value) (n c : Nat) (hn : n < 2) (w : World) : Calls Tryz.prog 94 #[.slice g n c, f] w (RetG (.tuple #[]) w) := by
  have S := fun w => Stable135 (.slice g n c) f n hn w
  clear hn
  unfold RetG at *
  go_enter Tryz.func94, Tryz.ntmps94
  go_wp2_with fail
  refine (S _).mono ?_
  rintro e w1 ⟨rfl, os, q, rfl⟩
  go_wp2_with fail
  go_returns
  exact ⟨rfl, by repeat (first | exact gr_refl _ | apply gr_alloc | apply gr_grow | apply gr_drewN | apply gr_drew)⟩
theorem Clone93_none (w : World) : Calls Tryz.prog 93 #[.slice none 0 0] w (RetG (.slice none 0 0) w) := by
  unfold RetG
  have hE := fun w => Go.Lib.run_eql_slice_nil (P := Tryz.prog) w 32 53 none 0 0 0 0 Tryz.underlying32
  simp only [Option.isNone_none] at hE
  go_enter Tryz.func93, Tryz.ntmps93
  go_wp2_with fail
  go_returns
  exact ⟨rfl, by repeat (first | exact gr_refl _ | apply gr_alloc | apply gr_grow | apply gr_drewN | apply gr_drew)⟩
theorem mkPieces0 (W : World) : (Instr.buildSlice 32 0 #[]).run Tryz.prog W = .ok (.slice (some ⟨W.heap.size, 0, none⟩) 0 0) (W.alloc (.cells #[] 53)) := by kernel_rfl
theorem Clone93_one (g c : Nat) (eng core id n1 d1 n2 d2 : Int) (sl : Bool) (cur : List Value) (w : World) (hg : w.heap[g]? = some (.cells (pieceL eng core id n1 d1 n2 d2 sl cur).toArray 53 (0, 0))) :
    Calls Tryz.prog 93 #[.slice (some ⟨g, 0, none⟩) 1 c] w fun e w' => ∃ G C cur', e = .returned (.slice (some ⟨G, 0, none⟩) 1 C) ∧ 1 ≤ C ∧ w.heap.size ≤ G ∧ w'.heap[G]? = some (.cells (pieceL eng core id n1 d1 n2 d2 sl cur').toArray 53 (0, 0)) ∧ Kept [] w w' := by
  obtain ⟨i0, hi, hz0, hz1, hby⟩ := info_of infoPiece
  have hB := fun w => mkPieces0 w
  have k0 : Kept [] w (w.alloc (.cells #[] 53)) := (Kept.refl _ _).alloc _
  have hg1 := k0.at hg (by simp)
  have lg := heap_lt hg
  replace hg1 := Lib.hid hg1
  clear hg
  have hE := fun w => Go.Lib.run_eql_slice_nil (P := Tryz.prog) w 32 53 (some ⟨g, 0, none⟩) 1 c 0 0 Tryz.underlying32
  simp only [Option.isNone_some] at hE
  go_enter Tryz.func93, Tryz.ntmps93
  go_wp2_with (at_builtin; refine wpList_app rfl _ _ rfl Tryz.underlying32 hi hz0 hz1 rfl rfl (by decide) _ 0 [] rfl (Or.inl ⟨_, rfl, rfl, rfl⟩) g 1 c (pieceL eng core id n1 d1 n2 d2 sl []) rfl rfl ?c1 ?c2 (by decide) (by decide) hby ?_)
  case c1 =>
    intro j u hj
    rw [cell_of hg1.out j]
    match j, hj with
    | 0, hj | 1, hj | 2, hj | 3, hj | 4, hj | 5, hj | 6, hj | 7, hj => exact hj
    | n + 8, hj => cases hj
  case c2 => intro u hu; simp only [List.mem_cons, List.not_mem_nil, or_false] at hu; rcases hu with h | h | h | h | h | h | h | h <;> (subst h; rfl)
  intro v' w3 hown hk1 hat
  have hk2 : Kept [] w w3 := Kept.trans k0 hk1 (by simp) (by simp [own])
  obtain ⟨r1, r2⟩ := hown
  rcases r2 with ⟨_, r2⟩ | ⟨G, C, cr, rfl, _, r4, r5, r6, r7, r8⟩
  · cases r2
  have hG : w.heap.size ≤ G := by
    rcases hat with ⟨hat, h⟩ | ⟨G', hat, hG⟩
    · simp only [Value.ownBlock] at hat h
      cases h
    · cases hat
      have h2 : w.heap.size + 1 ≤ G := hG
      omega
  have hcur : cr = (pieceL eng core id n1 d1 n2 d2 sl (cr.toList.drop 8)).toArray := by
    have h1 := List.take_append_drop 8 cr.toList
    have r8' : cr.toList.take 8 = pieceL eng core id n1 d1 n2 d2 sl [] := r8
    rw [r8'] at h1
    apply Array.ext'
    rw [← h1]
    simp
  rw [hcur] at r4
  have st := Lib.hid (And.intro r5 (And.intro hG (And.intro r4 hk2)))
  clear hk1 hat hk2 r1 r4 r5 r6 r7 r8 hcur hG k0
  go_wp2_with fail
  go_returns
  obtain ⟨r5, hG, r4, hk2⟩ := st.out
  exact ⟨G, C, _, rfl, r5, hG, r4, hk2⟩
theorem Index80 (f : Value) (w : World) : Calls Tryz.prog 80 #[.slice none 0 0, f] w (RetG (.int .i64 (-1)) w) := by
  unfold RetG
  go_enter Tryz.func80, Tryz.ntmps80
  go_wp2_with fail
  refine wp_loop_rounds 1 ?_
  rw [rounds_succ]
  go_wp2_with fail
  go_returns
  exact ⟨rfl, by repeat (first | exact gr_refl _ | apply gr_alloc | apply gr_grow | apply gr_drewN | apply gr_drew)⟩
theorem Delete137 (f : Value) (w : World) : Calls Tryz.prog 137 #[.slice none 0 0, f] w (RetG (.slice none 0 0) w) := by
  have I := fun w => Index80 f w
  unfold RetG at *
  go_enter Tryz.func137, Tryz.ntmps137
  go_wp2_with fail
  refine (I _).mono ?_
  rintro e w1 ⟨rfl, os, q, rfl⟩
  go_wp2_with fail
  go_returns
  exact ⟨rfl, by repeat (first | exact gr_refl _ | apply gr_alloc | apply gr_grow | apply gr_drewN | apply gr_drew)⟩
theorem Give98 (b f : Nat) (w : World) (hb : w.heap[b]? = some (.cells #[.slice none 0 0] 108 (0, 0))) :
    Calls Tryz.prog 98 #[.pointer (some ⟨b, 0, none⟩), .int .i64 f] w fun e w' => e = .returned (.tuple #[.int .i64 0, .slice none 0 0]) ∧ Kept [b] w w' ∧ w'.heap[b]? = some (.cells #[.slice none 0 0] 108 (0, 0)) := by
  have D := fun f w => Delete137 f w
  have c0 : w.cell? ⟨b, 0, none⟩ = some (.slice none 0 0) := cell_of hb 0
  have lb := heap_lt hb
  have f0 : w.frozen? ⟨b, 0, none⟩ = false := frozen_of hb 0
  replace hb := Lib.hid hb
  rcases Nat.eq_zero_or_pos f with rfl | hf
  all_goals
    go_enter Tryz.func98, Tryz.ntmps98
    go_wp2_with fail
    try (have h1 : decide (0 < (f : Int)) = true := by simpa using hf)
    refine wp_loop_rounds 1 ?_
    rw [rounds_succ]
    go_wp2_with fail
    refine (D _ _).mono ?_
    rintro e w1 ⟨rfl, os, q, rfl⟩
    go_wp2_with fail
    go_returns
    exact ⟨rfl, by first | exact ((Kept.refl [b] w).setCell _ _ (Or.inl (by simp))).grow _ _ | exact ((Kept.refl [b] w).grow _ _).setCell _ _ (Or.inl (by simp)), by first | exact (heap_grow (by rw [size_setCell]; exact lb)).trans (heap_setCell hb.out) | exact heap_setCell ((heap_grow lb).trans hb.out)⟩
end
section
attribute [local go_sem ↓] setCell_drewN alloc_drewN grow_cell grow_frozen setCell_grow grow_size cell_alloc_grow frozen_alloc_grow setCell_alloc_grow cell_grow_alloc_grow frozen_grow_alloc_grow setCell_grow_alloc_grow grow_grow
attribute [local go_sem] lt_len size_setCell
theorem mk_num (n : Int) (d : Nat) : (mkRat n d).num.natAbs ≤ n.natAbs := by
  rw [Rat.num_mkRat]
  split
  · omega
  · have := Nat.div_le_self n.natAbs (d.gcd n.natAbs)
    rw [Int.natAbs_ediv_of_dvd (Int.ofNat_dvd_left.2 (Nat.gcd_dvd_right _ _))]
    simpa using this
theorem mk_den (n : Int) (d : Nat) : (mkRat n d).den ≤ max d 1 := by
  rw [Rat.den_mkRat]
  split
  · omega
  · have := Nat.div_le_self d (d.gcd n.natAbs)
    omega
/-- Sizes: numerator and denominator. -/
def Szd (a : Rat) (n d : Nat) : Prop := a.num.natAbs ≤ n ∧ a.den ≤ d
theorem szd_mk (n : Int) (d : Nat) (hd : 0 < d) : Szd (mkRat n d) n.natAbs d := ⟨mk_num n d, by have := mk_den n d; omega⟩
theorem szd_mul {a b : Rat} {n d m e : Nat} (ha : Szd a n d) (hb : Szd b m e) : Szd (a * b) (n * m) (d * e) := by
  rw [Rat.mul_def']
  refine ⟨Nat.le_trans (mk_num _ _) ?_, Nat.le_trans (mk_den _ _) ?_⟩
  · rw [Int.natAbs_mul]
    exact Nat.mul_le_mul ha.1 hb.1
  · have h1 := Nat.mul_le_mul ha.2 hb.2
    have h2 : 0 < d * e := Nat.mul_pos (Nat.lt_of_lt_of_le a.den_pos ha.2) (Nat.lt_of_lt_of_le b.den_pos hb.2)
    omega
theorem szd_sub {a b : Rat} {n d m e : Nat} (ha : Szd a n d) (hb : Szd b m e) : Szd (a - b) (n * e + m * d) (d * e) := by
  rw [Rat.sub_def']
  refine ⟨Nat.le_trans (mk_num _ _) ?_, Nat.le_trans (mk_den _ _) ?_⟩
  · have h1 := Nat.mul_le_mul ha.1 hb.2
    have h2 := Nat.mul_le_mul hb.1 ha.2
    have e1 : (a.num * b.den).natAbs = a.num.natAbs * b.den := by rw [Int.natAbs_mul]; simp
    have e2 : (b.num * a.den).natAbs = b.num.natAbs * a.den := by rw [Int.natAbs_mul]; simp
    omega
  · have h1 := Nat.mul_le_mul ha.2 hb.2
    have h2 : 0 < d * e := Nat.mul_pos (Nat.lt_of_lt_of_le a.den_pos ha.2) (Nat.lt_of_lt_of_le b.den_pos hb.2)
    omega
theorem szd_int (n : Int) : Szd (n : Rat) n.natAbs 1 := ⟨Nat.le_refl _, Nat.le_refl _⟩
theorem rvI (n : Int) : rv (n : Rat) = .agg #[.int .i64 n, .int .i64 1] := rfl
theorem Szd.sm {a : Rat} {n d : Nat} (h : Szd a n d) (hn : n < 1073741824) (hd : d < 1073741824) : Sm30 a := ⟨Nat.lt_of_le_of_lt h.1 hn, Nat.lt_of_le_of_lt h.2 hd⟩
theorem Kept.tr {S : List Nat} {a b c : World} (h : Kept S a b) (g : Kept [] b c) : Kept S a c := Kept.trans h g (fun _ h => h) (by simp)
theorem Kept.tr0 {S : List Nat} {a b c : World} (h : Kept [] a b) (g : Kept S b c) : Kept S a c := Kept.trans h g (by simp) (fun _ h => Or.inl h)
theorem kept_grow {w w' : World} {os : List Obj} {q : Nat} (h : grow w os q = w') : Kept [] w w' := by
  subst h
  exact (Kept.refl _ _).grow _ _
theorem At190' (e p rel clock g1 g2 u1 u2 v1 v2 x1 x2 y1 y2 : Int) (he : 1 ≤ e) (hep : e ≤ p) (hp : p ≤ 1048575) (hrc : rel ≤ clock) (w : World)
    (A114 : ∀ W, Calls Tryz.prog 114 #[.agg #[.int .i64 g1, .int .i64 g2]] W (RetG (.bool true) W))
    (A102 : ∀ W, Calls Tryz.prog 102 #[.agg #[.int .i64 clock, .int .i64 1], .agg #[.int .i64 rel, .int .i64 1]] W (RetG (.tuple #[.agg #[.int .i64 u1, .int .i64 u2], .int .i64 0]) W))
    (A118 : ∀ W, Calls Tryz.prog 118 #[.int .i64 e, .int .i64 p] W (RetG (.tuple #[.agg #[.int .i64 v1, .int .i64 v2], .int .i64 0]) W))
    (A207 : ∀ W, Calls Tryz.prog 207 #[.agg #[.int .i64 u1, .int .i64 u2], .agg #[.int .i64 v1, .int .i64 v2]] W (RetG (.tuple #[.agg #[.int .i64 x1, .int .i64 x2], .int .i64 0]) W))
    (B102 : ∀ W, Calls Tryz.prog 102 #[.agg #[.int .i64 x1, .int .i64 x2], .agg #[.int .i64 g1, .int .i64 g2]] W (RetG (.tuple #[.agg #[.int .i64 y1, .int .i64 y2], .int .i64 0]) W)) :
    Calls Tryz.prog 190 #[.int .i64 e, .int .i64 p, .int .i64 rel, .int .i64 clock, .agg #[.int .i64 g1, .int .i64 g2]] w fun e' w' => e' = .returned (.tuple #[.agg #[.int .i64 y1, .int .i64 y2], .int .i64 0]) ∧ Kept [] w w' := by
  have d1 : decide (e < 1) = false := by simp; omega
  have d2 : decide (e > p) = false := by simp; omega
  have d3 : decide (p > 1048575) = false := by simp; omega
  have d4 : decide (clock < rel) = false := by simp; omega
  clear he hep hp hrc
  unfold RetG at *
  go_enter Tryz.func190, Tryz.ntmps190
  go_wp2_with fail
  refine (A114 _).mono ?_
  rintro e' w1 ⟨rfl, os, q, rfl⟩
  go_wp2_with fail
  refine (A102 _).mono ?_
  rintro e' w1 ⟨rfl, os1, q1, rfl⟩
  go_wp2_with fail
  refine (A118 _).mono ?_
  rintro e' w1 ⟨rfl, os2, q2, rfl⟩
  go_wp2_with fail
  refine (A207 _).mono ?_
  rintro e' w1 ⟨rfl, os3, q3, hw⟩
  have k1 := kept_grow hw
  have k0 : Kept [] ((w.alloc (.cells #[.int .i64 g1, .int .i64 g2] 39)).alloc (.cells #[.int .i64 0, .int .i64 0] 39)) w1 := by
    refine Kept.tr ?_ k1
    repeat first | exact Kept.refl _ _ | refine Kept.grow ?_ _ _ | refine Kept.alloc ?_ _
  have kw : Kept [] w w1 := Kept.tr (((Kept.refl _ _).alloc _).alloc _) k0
  have g9 := k0.at (x := w.heap.size) ((heap_alloc (by simp)).trans heap_alloc_new) (by simp)
  have g10 := k0.at (x := w.heap.size + 1) (heap_alloc_two _ _ _) (by simp)
  have lw : w.heap.size + 1 < w1.heap.size := heap_lt g10
  have lw0 : w.heap.size < w1.heap.size := heap_lt g9
  have c90 : w1.cell? ⟨w.heap.size, 0, none⟩ = some (.int .i64 g1) := cell_of g9 0
  have c91 : w1.cell? ⟨w.heap.size, 1, none⟩ = some (.int .i64 g2) := cell_of g9 1
  have c10 : w1.cell? ⟨w.heap.size + 1, 0, none⟩ = some (.int .i64 0) := cell_of g10 0
  have c11 : w1.cell? ⟨w.heap.size + 1, 1, none⟩ = some (.int .i64 0) := cell_of g10 1
  have f10 : w1.frozen? ⟨w.heap.size + 1, 0, none⟩ = false := frozen_of g10 0
  have f11 : w1.frozen? ⟨w.heap.size + 1, 1, none⟩ = false := frozen_of g10 1
  replace kw := Lib.hid kw
  clear k1 k0 g9 g10 hw A114 A102 A118 A207 d1 d2 d3 d4
  go_wp2_with fail
  refine (B102 _).mono ?_
  rintro e' w2 ⟨rfl, os4, q4, rfl⟩
  go_wp2_with fail
  (try simp only [Exit.inBlock, Exit.then])
  refine bodyPost_ret (by simp [results, Tryz.results190, go_sem, *]; try rfl) rfl ?_
  refine ⟨rfl, ?_⟩
  repeat first | exact kw.out | refine Kept.alloc ?_ _ | refine Kept.grow ?_ _ _ | refine Kept.setCell ?_ _ _ (Or.inr (by simp))
theorem At190 (e p rel clock got : Nat) (he : 1 ≤ e) (hep : e ≤ p) (hp : p ≤ 1024) (hrc : rel ≤ clock) (hc : clock ≤ 65536) (hg : got ≤ 1024) : ∃ x : Rat, Szd x 536870912 1024 ∧ ∀ w,
    Calls Tryz.prog 190 #[.int .i64 e, .int .i64 p, .int .i64 rel, .int .i64 clock, .agg #[.int .i64 got, .int .i64 1]] w fun e' w' => e' = .returned (.tuple #[rv x, .int .i64 0]) ∧ Kept [] w w' := by
  have sc : Szd ((clock : Int) : Rat) clock 1 := szd_int clock
  have sr : Szd ((rel : Int) : Rat) rel 1 := szd_int rel
  have sg : Szd ((got : Int) : Rat) got 1 := szd_int got
  have sw : Szd (mkRat e p) e p := szd_mk e p (by omega)
  have sn := szd_sub sc sr
  have sd := szd_mul sn sw
  have sx := szd_sub sd sg
  have b1 : (clock * 1 + rel * 1) * e ≤ 131072 * 1024 := Nat.mul_le_mul (by omega) (by omega)
  have b2 : got * (1 * 1 * p) ≤ 1024 * 1024 := Nat.mul_le_mul (by omega) (by omega)
  refine ⟨_, ⟨Nat.le_trans sx.1 (by omega), Nat.le_trans sx.2 (by omega)⟩, fun w => At190' e p rel clock got 1 _ _ _ _ _ _ _ _ (by omega) (by omega) (by omega) (by omega) w
    (fun W => May114 ((got : Int) : Rat) ⟨by have := sg.1; omega, by have := sg.2; omega⟩ W)
    (fun W => Sub102 _ _ (sc.sm (by omega) (by omega)) (sr.sm (by omega) (by omega)) W)
    (fun W => Of118 e p (by omega) (by omega) (by omega) W)
    (fun W => Mul207r _ _ (sn.sm (by omega) (by omega)) (sw.sm (by omega) (by omega)) W)
    (fun W => Sub102 _ _ (sd.sm (by omega) (by omega)) (sg.sm (by omega) (by omega)) W)⟩
theorem See144' (la : Nat) (e p rel clock g1 g2 : Int) (x y : Rat) (hx : Szd x 536870912 1024) (hy : Sm30 y) (w : World) (hl : w.heap[la]? = some (.cells #[.int .i64 y.num, .int .i64 y.den] 105 (0, 0)))
    (A : ∀ w, Calls Tryz.prog 190 #[.int .i64 e, .int .i64 p, .int .i64 rel, .int .i64 clock, .agg #[.int .i64 g1, .int .i64 g2]] w fun e' w' => e' = .returned (.tuple #[rv x, .int .i64 0]) ∧ Kept [] w w') :
    Calls Tryz.prog 144 #[.pointer (some ⟨la, 0, none⟩), .int .i64 e, .int .i64 p, .int .i64 rel, .int .i64 clock, .agg #[.int .i64 g1, .int .i64 g2]] w fun e' w' => e' = .returned (.int .i64 0) ∧ Kept [la] w w' ∧ ∃ z : Rat, Sm30 z ∧ w'.heap[la]? = some (.cells #[.int .i64 z.num, .int .i64 z.den] 105 (0, 0)) := by
  have sx : Sm30 x := hx.sm (by omega) (by omega)
  have sx' : Sm30 (0 - x) := by
    have := szd_sub (szd_int 0) hx
    exact Szd.sm this (by simp) (by simp)
  have C1 := fun W => Cmp97 x y sx hy W
  have C2 := fun W => Cmp97 (0 - x) y sx' hy W
  have S := fun W => Sub102 0 x sm_zero sx W
  unfold rv at *
  simp only [show (0 : Rat).num = 0 from rfl, show ((0 : Rat).den : Int) = 1 from rfl] at S
  have hl' := Lib.hid hl
  clear hx hl
  go_enter Tryz.func144, Tryz.ntmps144
  go_wp2_with fail
  refine (A _).mono ?_
  rintro e' w1 ⟨rfl, k1⟩
  have kW : Kept [] w (w1.alloc (.cells #[.int .i64 x.num, .int .i64 x.den] 39)) := (Kept.tr ((Kept.refl _ _).alloc _) k1).alloc _
  have hl := hl'.out
  have hlW := kW.at hl (by simp)
  have htW : (w1.alloc (.cells #[.int .i64 x.num, .int .i64 x.den] 39)).heap[w1.heap.size]? = some (.cells #[.int .i64 x.num, .int .i64 x.den] 39 (0, 0)) := heap_alloc_new
  obtain ⟨B, hB⟩ : ∃ B, w1.heap.size = B := ⟨_, rfl⟩
  rw [hB] at htW
  obtain ⟨W, hW⟩ : ∃ W, w1.alloc (.cells #[.int .i64 x.num, .int .i64 x.den] 39) = W := ⟨_, rfl⟩
  rw [hW] at htW hlW kW
  have nB : B ≠ la := by
    have := heap_lt hl
    have := k1.1
    simp at this
    omega
  have st := Lib.hid (And.intro hlW (And.intro htW (And.intro kW nB)))
  have hww := k1.1
  clear k1 hl hl' A
  by_cases hn : x.num < 0
  · have dn : decide (x.num < 0) = true := by simpa using hn
    have cB0 : W.cell? ⟨B, 0, none⟩ = some (.int .i64 (x).num) := cell_of htW 0
    have cB1 : W.cell? ⟨B, 1, none⟩ = some (.int .i64 ((x).den : Int)) := cell_of htW 1
    have cl0 : W.cell? ⟨la, 0, none⟩ = some (.int .i64 y.num) := cell_of hlW 0
    have cl1 : W.cell? ⟨la, 1, none⟩ = some (.int .i64 y.den) := cell_of hlW 1
    have lB := heap_lt htW
    have lla := heap_lt hlW
    have fB0 : W.frozen? ⟨B, 0, none⟩ = false := frozen_of htW 0
    have fB1 : W.frozen? ⟨B, 1, none⟩ = false := frozen_of htW 1
    clear hlW htW kW
    go_wp2_with fail
    refine (S _).mono ?_
    rintro e' w2 ⟨rfl, os2, q2, hw2⟩
    obtain ⟨hlW, htW, kW, nB⟩ := st.out
    have k2 := Kept.tr kW (kept_grow hw2)
    have hl2 := (kept_grow hw2).at hlW (by simp)
    have ht2 := (kept_grow hw2).at htW (by simp)
    have e0 : w2.frozen? ⟨B, 0, none⟩ = false := frozen_of ht2 0
    have e1 : w2.frozen? ⟨B, 1, none⟩ = false := frozen_of ht2 1
    have b0 : w2.cell? ⟨B, 0, none⟩ = some (.int .i64 x.num) := cell_of ht2 0
    have b1 : w2.cell? ⟨B, 1, none⟩ = some (.int .i64 (x.den : Int)) := cell_of ht2 1
    have lB2 := heap_lt ht2
    have hwB : w.heap.size ≤ B := by have := heap_lt hlW; have := kW.1; rw [← hB]; have := hww; simp at this; omega
    have htV : ((w2.setCell ⟨B, 0, none⟩ (.int .i64 (0 - x).num)).setCell ⟨B, 1, none⟩ (.int .i64 ((0 - x).den : Int))).heap[B]? = some (.cells #[.int .i64 (0 - x).num, .int .i64 ((0 - x).den : Int)] 39 (0, 0)) := heap_setCell (heap_setCell ht2)
    have hlV : ((w2.setCell ⟨B, 0, none⟩ (.int .i64 (0 - x).num)).setCell ⟨B, 1, none⟩ (.int .i64 ((0 - x).den : Int))).heap[la]? = _ := (heap_setCell_ne nB).trans ((heap_setCell_ne nB).trans hl2)
    have kV := (k2.setCell ⟨B, 0, none⟩ (.int .i64 (0 - x).num) (Or.inr hwB)).setCell ⟨B, 1, none⟩ (.int .i64 ((0 - x).den : Int)) (Or.inr hwB)
    clear cB0 cB1 cl0 cl1 lB lla fB0 fB1 hlW htW kW k2 hl2 ht2 hw2 hW hww st hwB hB
    obtain ⟨W, hW⟩ : ∃ W, ((w2.setCell ⟨B, 0, none⟩ (.int .i64 (0 - x).num)).setCell ⟨B, 1, none⟩ (.int .i64 ((0 - x).den : Int))) = W := ⟨_, rfl⟩
    rw [hW] at htV hlV kV
    have htW := htV
    have hlW := hlV
    have kW := kV
    have cB0 : W.cell? ⟨B, 0, none⟩ = some (.int .i64 (0 - x).num) := cell_of htW 0
    have cB1 : W.cell? ⟨B, 1, none⟩ = some (.int .i64 ((0 - x).den : Int)) := cell_of htW 1
    have cl0 : W.cell? ⟨la, 0, none⟩ = some (.int .i64 y.num) := cell_of hlW 0
    have cl1 : W.cell? ⟨la, 1, none⟩ = some (.int .i64 y.den) := cell_of hlW 1
    have lB := heap_lt htW
    have lla := heap_lt hlW
    have C := C2
    have st := Lib.hid (And.intro hlW (And.intro htW kW))
    clear hlW htW kW htV hlV kV
    go_wp2_with fail
    obtain ⟨hlW, htW, kW⟩ := st.out
    refine sBegin (fun X => ∃ os q, Go.Proofs.YtgfbfklnhmndfaaGreat.grow W os q = X) 7 (by kernel_rfl) (gr_drew (gr_refl _)) ?_
    refine sTake (i := 0) (v := ?_) rfl (by kernel_rfl) (fun _ _ _ h => h) (gLoad (by rfl) ?_) ?_
    rotate_left 1
    · intro W hW; (try dsimp only at hW); obtain ⟨os', q', hW'⟩ := hW; subst hW'; go_simp; all_goals with_reducible rfl
    try simp only [Act.put, zA, zB, zC]
    refine sTake (i := 1) (v := ?_) rfl (by kernel_rfl) (fun _ _ _ h => h) (gLoad (by rfl) ?_) ?_
    rotate_left 1
    · intro W hW; (try dsimp only at hW); obtain ⟨os', q', hW'⟩ := hW; subst hW'; go_simp; all_goals with_reducible rfl
    try simp only [Act.put, zA, zB, zC]
    refine sTake (i := 2) (v := ?_) rfl (by kernel_rfl) (fun _ _ _ h => h) (gLoad (by rfl) ?_) ?_
    rotate_left 1
    · intro W hW; (try dsimp only at hW); obtain ⟨os', q', hW'⟩ := hW; subst hW'; go_simp; all_goals with_reducible rfl
    try simp only [Act.put, zA, zB, zC]
    refine sTake (i := 3) (v := ?_) rfl (by kernel_rfl) (fun _ _ _ h => h) (gLoad (by rfl) ?_) ?_
    rotate_left 1
    · intro W hW; (try dsimp only at hW); obtain ⟨os', q', hW'⟩ := hW; subst hW'; go_simp; all_goals with_reducible rfl
    try simp only [Act.put, zA, zB, zC]
    refine sTake (i := 4) (v := ?_) rfl (by kernel_rfl) (fun _ _ _ h => h) (gLoad (by rfl) ?_) ?_
    rotate_left 1
    · intro W hW; (try dsimp only at hW); obtain ⟨os', q', hW'⟩ := hW; subst hW'; go_simp; all_goals with_reducible rfl
    try simp only [Act.put, zA, zB, zC]
    refine sTake (i := 5) rfl (by kernel_rfl) (fun _ _ _ h => h) (gCall (by rfl) ?_ (fun W hW => RetG.into C hW)) ?_
    · intro W hW; go_simp; all_goals with_reducible rfl
    try simp only [Act.put, zA, zB, zC]
    refine sTake (i := 6) (v := ?_) rfl (by kernel_rfl) (fun _ _ _ h => h) (gLoad (by rfl) ?_) ?_
    rotate_left 1
    · intro W hW; (try dsimp only at hW); obtain ⟨os', q', hW'⟩ := hW; subst hW'; go_simp; all_goals with_reducible rfl
    try simp only [Act.put, zA, zB, zC]
    refine sDone (by kernel_rfl) ?_
    intro X hX
    obtain ⟨os3, q3, hX⟩ := hX
    have kX := Kept.tr kW (kept_grow hX)
    have hlX := (kept_grow hX).at hlW (by simp)
    have htX := (kept_grow hX).at htW (by simp)
    have l0 : X.cell? ⟨la, 0, none⟩ = some (.int .i64 y.num) := cell_of hlX 0
    have l1 : X.cell? ⟨la, 1, none⟩ = some (.int .i64 y.den) := cell_of hlX 1
    have m0 : X.frozen? ⟨la, 0, none⟩ = false := frozen_of hlX 0
    have m1 : X.frozen? ⟨la, 1, none⟩ = false := frozen_of hlX 1
    have t0 : X.cell? ⟨B, 0, none⟩ = some (.int .i64 (0 - x).num) := cell_of htX 0
    have t1 : X.cell? ⟨B, 1, none⟩ = some (.int .i64 (0 - x).den) := cell_of htX 1
    have ll := heap_lt hlX
    have lt := heap_lt htX
    have h2 := heap_setCell (v := .int .i64 ((0 - x).den : Int)) (i := 1) (heap_setCell (v := .int .i64 (0 - x).num) (i := 0) hlX)
    have k2 := ((kX.mono (U := [la]) (by simp)).setCell ⟨la, 0, none⟩ (.int .i64 (0 - x).num) (Or.inl (by simp))).setCell ⟨la, 1, none⟩ (.int .i64 ((0 - x).den : Int)) (Or.inl (by simp))
    replace kX := Lib.hid (And.intro kX (And.intro hlX (And.intro h2 k2)))
    clear hX hlX htX kW hlW htW cB0 cB1 cl0 cl1 lB lla C h2 k2
    by_cases hz : cmpR (0 - x) y > 0
    · have dz : decide (cmpR (0 - x) y > 0) = true := by simpa using hz
      go_wp2_with fail
      go_returns
      obtain ⟨kX, hlX, h2, k2⟩ := kX.out
      exact ⟨rfl, k2, 0 - x, by assumption, h2⟩
    · have dz : decide (cmpR (0 - x) y > 0) = false := by simpa using hz
      go_wp2_with fail
      go_returns
      obtain ⟨kX, hlX, h2, k2⟩ := kX.out
      exact ⟨rfl, kX.mono (by simp), y, hy, hlX⟩
  · have dn : decide (x.num < 0) = false := by simpa using hn
    have cB0 : W.cell? ⟨B, 0, none⟩ = some (.int .i64 (x).num) := cell_of htW 0
    have cB1 : W.cell? ⟨B, 1, none⟩ = some (.int .i64 ((x).den : Int)) := cell_of htW 1
    have cl0 : W.cell? ⟨la, 0, none⟩ = some (.int .i64 y.num) := cell_of hlW 0
    have cl1 : W.cell? ⟨la, 1, none⟩ = some (.int .i64 y.den) := cell_of hlW 1
    have lB := heap_lt htW
    have lla := heap_lt hlW
    have C := C1
    clear hlW htW kW
    go_wp2_with fail
    obtain ⟨hlW, htW, kW, nB⟩ := st.out
    refine sBegin (fun X => ∃ os q, Go.Proofs.YtgfbfklnhmndfaaGreat.grow W os q = X) 7 (by kernel_rfl) (gr_drew (gr_refl _)) ?_
    refine sTake (i := 0) (v := ?_) rfl (by kernel_rfl) (fun _ _ _ h => h) (gLoad (by rfl) ?_) ?_
    rotate_left 1
    · intro W hW; (try dsimp only at hW); obtain ⟨os', q', hW'⟩ := hW; subst hW'; go_simp; all_goals with_reducible rfl
    try simp only [Act.put, zA, zB, zC]
    refine sTake (i := 1) (v := ?_) rfl (by kernel_rfl) (fun _ _ _ h => h) (gLoad (by rfl) ?_) ?_
    rotate_left 1
    · intro W hW; (try dsimp only at hW); obtain ⟨os', q', hW'⟩ := hW; subst hW'; go_simp; all_goals with_reducible rfl
    try simp only [Act.put, zA, zB, zC]
    refine sTake (i := 2) (v := ?_) rfl (by kernel_rfl) (fun _ _ _ h => h) (gLoad (by rfl) ?_) ?_
    rotate_left 1
    · intro W hW; (try dsimp only at hW); obtain ⟨os', q', hW'⟩ := hW; subst hW'; go_simp; all_goals with_reducible rfl
    try simp only [Act.put, zA, zB, zC]
    refine sTake (i := 3) (v := ?_) rfl (by kernel_rfl) (fun _ _ _ h => h) (gLoad (by rfl) ?_) ?_
    rotate_left 1
    · intro W hW; (try dsimp only at hW); obtain ⟨os', q', hW'⟩ := hW; subst hW'; go_simp; all_goals with_reducible rfl
    try simp only [Act.put, zA, zB, zC]
    refine sTake (i := 4) (v := ?_) rfl (by kernel_rfl) (fun _ _ _ h => h) (gLoad (by rfl) ?_) ?_
    rotate_left 1
    · intro W hW; (try dsimp only at hW); obtain ⟨os', q', hW'⟩ := hW; subst hW'; go_simp; all_goals with_reducible rfl
    try simp only [Act.put, zA, zB, zC]
    refine sTake (i := 5) rfl (by kernel_rfl) (fun _ _ _ h => h) (gCall (by rfl) ?_ (fun W hW => RetG.into C hW)) ?_
    · intro W hW; go_simp; all_goals with_reducible rfl
    try simp only [Act.put, zA, zB, zC]
    refine sTake (i := 6) (v := ?_) rfl (by kernel_rfl) (fun _ _ _ h => h) (gLoad (by rfl) ?_) ?_
    rotate_left 1
    · intro W hW; (try dsimp only at hW); obtain ⟨os', q', hW'⟩ := hW; subst hW'; go_simp; all_goals with_reducible rfl
    try simp only [Act.put, zA, zB, zC]
    refine sDone (by kernel_rfl) ?_
    intro X hX
    obtain ⟨os3, q3, hX⟩ := hX
    have kX := Kept.tr kW (kept_grow hX)
    have hlX := (kept_grow hX).at hlW (by simp)
    have htX := (kept_grow hX).at htW (by simp)
    have l0 : X.cell? ⟨la, 0, none⟩ = some (.int .i64 y.num) := cell_of hlX 0
    have l1 : X.cell? ⟨la, 1, none⟩ = some (.int .i64 y.den) := cell_of hlX 1
    have m0 : X.frozen? ⟨la, 0, none⟩ = false := frozen_of hlX 0
    have m1 : X.frozen? ⟨la, 1, none⟩ = false := frozen_of hlX 1
    have t0 : X.cell? ⟨B, 0, none⟩ = some (.int .i64 (x).num) := cell_of htX 0
    have t1 : X.cell? ⟨B, 1, none⟩ = some (.int .i64 (x).den) := cell_of htX 1
    have ll := heap_lt hlX
    have lt := heap_lt htX
    have h2 := heap_setCell (v := .int .i64 ((x).den : Int)) (i := 1) (heap_setCell (v := .int .i64 (x).num) (i := 0) hlX)
    have k2 := ((kX.mono (U := [la]) (by simp)).setCell ⟨la, 0, none⟩ (.int .i64 (x).num) (Or.inl (by simp))).setCell ⟨la, 1, none⟩ (.int .i64 ((x).den : Int)) (Or.inl (by simp))
    replace kX := Lib.hid (And.intro kX (And.intro hlX (And.intro h2 k2)))
    clear hX hlX htX kW hlW htW cB0 cB1 cl0 cl1 lB lla C h2 k2
    by_cases hz : cmpR (x) y > 0
    · have dz : decide (cmpR (x) y > 0) = true := by simpa using hz
      go_wp2_with fail
      go_returns
      obtain ⟨kX, hlX, h2, k2⟩ := kX.out
      exact ⟨rfl, k2, x, by assumption, h2⟩
    · have dz : decide (cmpR (x) y > 0) = false := by simpa using hz
      go_wp2_with fail
      go_returns
      obtain ⟨kX, hlX, h2, k2⟩ := kX.out
      exact ⟨rfl, kX.mono (by simp), y, hy, hlX⟩
end
end Go.Proofs.YtgfbfklnhmndfaaGreat
