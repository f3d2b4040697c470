/- The parts of the top that the law of early release walks through: part 50 of 52. -/
import Derived.Test.YtgfbfklnhmndfaaGreatA1
import Derived.Test.YtgfbfklnhmndfaaGreatA3
import Derived.Test.YtgfbfklnhmndfaaGreatA4
import Derived.Test.YtgfbfklnhmndfaaGreatA11
import Derived.Test.YtgfbfklnhmndfaaGreatA15
import Derived.Test.YtgfbfklnhmndfaaGreatA16
import Derived.Test.YtgfbfklnhmndfaaGreatA20
import Derived.Test.YtgfbfklnhmndfaaGreatA21
import Derived.Test.YtgfbfklnhmndfaaGreatA24
import Derived.Test.YtgfbfklnhmndfaaGreatA29
import Derived.Test.YtgfbfklnhmndfaaGreatA30
import Derived.Test.YtgfbfklnhmndfaaGreatA32
import Derived.Test.YtgfbfklnhmndfaaGreatA33
import Derived.Test.YtgfbfklnhmndfaaGreatA34
import Derived.Test.YtgfbfklnhmndfaaGreatA35
import Derived.Test.YtgfbfklnhmndfaaGreatA36
import Derived.Test.YtgfbfklnhmndfaaGreatA41
import Derived.Test.YtgfbfklnhmndfaaGreatA47
import Derived.Test.YtgfbfklnhmndfaaGreatA48
import Derived.Test.YtgfbfklnhmndfaaGreatA49
namespace Go.Proofs.YtgfbfklnhmndfaaGreat
open Go.RowKit
set_option linter.unusedSimpArgs false
set_option linter.unusedVariables false
section
attribute [local go_sem ↓] setCell_drewN alloc_drewN grow_cell grow_frozen setCell_grow grow_size cell_alloc_grow frozen_alloc_grow setCell_alloc_grow cell_grow_alloc_grow frozen_grow_alloc_grow setCell_grow_alloc_grow grow_grow
attribute [local go_sem] lt_len size_setCell
theorem appNil (W : World) : (Builtin.append_ #[32, 32] 32 #[.slice none 0 0, .slice none 0 0]).run Tryz.prog W = .ok (.slice none 0 0) W := by kernel_rfl
set_option maxHeartbeats 16000000 in
set_option maxRecDepth 100000 in
theorem tick_twin1 {S0 : List Nat} {w0 w : World} {c : Pm} {N : Nat} {rest : List Value} {all : Value} {xs : List Value} {Lp C : Nat} {cl : List Value} {lc : Array Value} (T : TX S0 w0 w c (⟨N, true, 0, 1, 1, 1, 0, 0, 1, 2, rest, all, 1, xs⟩ : Dy) 1 Lp C cl lc) (hm : ModeIs c.mode true) (he : c.e = 1) (hp : c.p = 2) :
    Calls Tryz.prog 41 #[pt c.z.x] w fun e' W => e' = .returned (.slice none 0 0) ∧ ∃ N', TX S0 w0 W c (⟨N', false, 0, 0, 1, 2, 1, 0, 1, 2, rest, all, 1, xs⟩ : Dy) 1 Lp C cl lc := by
  have R := release54_shut T hm rfl
  have AN := fun W => appNil W
  have eqs := Lib.hid (And.intro he hp)
  have st := Lib.hid T
  replace hm := Lib.hid hm
  clear T he hp
  have hw0 : IntKind.i64.wrap 1 = 1 := IntWalk.i64_in _ (by omega)
  have hw1 : IntKind.i64.wrap 2 = 2 := IntWalk.i64_in _ (by omega)
  go_enter Tryz.func41, Tryz.ntmps41
  go_wp2_with fail
  refine R.mono ?_
  rintro e' w1 ⟨rfl, k1⟩
  have T1 := st.out.step0 k1
  have T1d := T1.step0 ((Kept.refl [] w1).drew)
  obtain ⟨he, hp⟩ := eqs.out
  have SL := Slot56_no (w := w1.drew) T1d.ex.hJ c.z.q c.sp N c.T c.early T1d.ex.hQ (ndn T1d.ex.nodup (i := 11) (j := 12) rfl rfl (by decide)) 1 (fun W => by rw [he, hp]; exact Can125_no c.id 1 2 0 1 1 (by omega) (by omega) (by omega) (by omega) (by omega) 1 c.early W)
  have O := slots55 (w := w1) (z := c.z) T1.ex.hx hm.out
  have hx := T1.ex.hx
  unfold XAt at hx
  have c5 : w1.cell? ⟨c.z.x, 5, none⟩ = some (.int .i64 1) := cell_of hx 5
  have c7 : w1.cell? ⟨c.z.x, 7, none⟩ = some (.pointer (some ⟨c.z.j, 0, none⟩)) := cell_of hx 7
  have c8 : w1.cell? ⟨c.z.x, 8, none⟩ = some (.pointer (some ⟨c.z.q, 0, none⟩)) := cell_of hx 8
  have lhx := heap_lt hx
  clear hx
  replace st := Lib.hid T1d
  clear R k1 T1 T1d he hp
  go_wp2_with fail
  refine O.mono ?_
  rintro e' w2 ⟨rfl, rfl⟩
  go_wp2_with fail
  refine wp_region_any (by kernel_rfl) ?_
  rw [List.size_toArray]
  refine wpAnyS_any (S := fun X => X = w1.drew) (k := 12) _ _ _ ?_ _ rfl
  refine sTake (i := 0) rfl (by kernel_rfl) (fun _ _ _ h => h) (gLoad (by rfl) (fun W hW => by (try dsimp only at hW); subst hW; go_simp; first | done | rfl)) ?_
  try simp only [Act.put, zA, zB, zC]
  refine sTake (i := 1) rfl (by kernel_rfl) (fun _ _ _ h => h) (gLoad (by rfl) (fun W hW => by (try dsimp only at hW); subst hW; go_simp; first | done | rfl)) ?_
  try simp only [Act.put, zA, zB, zC]
  refine sTake (i := 2) rfl (by kernel_rfl) (fun _ _ _ h => h) (gLoad (by rfl) (fun W hW => by (try dsimp only at hW); subst hW; go_simp; first | done | rfl)) ?_
  try simp only [Act.put, zA, zB, zC]
  refine sTake (i := 3) rfl (by kernel_rfl) (fun _ _ _ h => h) (gLoad (by rfl) (fun W hW => by (try dsimp only at hW); subst hW; go_simp; first | done | rfl)) ?_
  try simp only [Act.put, zA, zB, zC]
  refine sTake (i := 4) rfl (by kernel_rfl) (fun _ _ _ h => h) (gLoad (by rfl) (fun W hW => by (try dsimp only at hW); subst hW; go_simp; first | done | rfl)) ?_
  try simp only [Act.put, zA, zB, zC]
  refine sTake (i := 5) rfl (by kernel_rfl) (fun _ _ _ h => h) (gLoad (by rfl) (fun W hW => by (try dsimp only at hW); subst hW; go_simp; first | done | rfl)) ?_
  try simp only [Act.put, zA, zB, zC]
  refine sTake (i := 6) rfl (by kernel_rfl) (fun _ _ _ h => h) (gLoad (by rfl) (fun W hW => by (try dsimp only at hW); subst hW; go_simp; first | done | rfl)) ?_
  try simp only [Act.put, zA, zB, zC]
  refine sTake (i := 7) rfl (by kernel_rfl) (fun _ _ _ h => h) (gLoad (by rfl) (fun W hW => by (try dsimp only at hW); subst hW; go_simp; first | done | rfl)) ?_
  try simp only [Act.put, zA, zB, zC]
  refine sTake (i := 8) rfl (by kernel_rfl) (fun _ _ _ h => h) (gLoad (by rfl) (fun W hW => by (try dsimp only at hW); subst hW; go_simp; first | done | rfl)) ?_
  try simp only [Act.put, zA, zB, zC]
  refine sTake (i := 9) rfl (by kernel_rfl) (fun _ _ _ h => h) (gLoad (by rfl) (fun W hW => by (try dsimp only at hW); subst hW; go_simp; first | done | rfl)) ?_
  try simp only [Act.put, zA, zB, zC]
  refine sTake (i := 10) rfl (by kernel_rfl) (fun _ _ _ h => h) (gLoad (by rfl) (fun W hW => by (try dsimp only at hW); subst hW; go_simp; first | done | rfl)) ?_
  try simp only [Act.put, zA, zB, zC]
  refine sTake (i := 11) rfl (by kernel_rfl) (fun _ _ _ h => h) (gLoad (by rfl) (fun W hW => by (try dsimp only at hW); subst hW; go_simp; first | done | rfl)) ?_
  try simp only [Act.put, zA, zB, zC]
  refine sRest (by kernel_rfl) ?_
  rintro X rfl
  clear c5 c7 c8 lhx O
  refine aCall (i := 12) rfl (by kernel_rfl) (by rfl) (by go_simp; first | done | rfl | exact ⟨rfl, rfl⟩) (SL.mono ?_)
  rintro e' w3 ⟨rfl, k3, N2, hN2, hQ2⟩
  refine ⟨_, rfl, ?_⟩
  try simp only [Act.put, zA, zB, zC]
  refine aVal (i := 13) (v := ?_) rfl (by kernel_rfl) (by rfl) ?_ ?_
  rotate_left 1
  · go_simp; all_goals with_reducible rfl
  try simp only [Act.put, zA, zB, zC]
  refine wpAny_done (by kernel_rfl) ?_ _
  have ex3 : EX w3 c (⟨N2, true, 0, 1, 1, 1, 0, 0, 1, 2, rest, all, 1, xs⟩ : Dy) := st.out.ex.slotN k3 hN2 hQ2
  have T3 := st.out.step k3 (by intro b hb; simp only [List.mem_cons, List.not_mem_nil, or_false] at hb; subst hb; simp [feet, blocks]) (by simp [(ndn st.out.ex.nodup (i := 14) (j := 5) rfl rfl (by decide))]) ex3 (Or.inr hN2) rfl
  have CT := count57_none c.z c.tasks c.mode c.ring 1 0 0 all w3 T3.ex.hx T3.ex.hb (Int.le_refl _) (by decide) (Int.le_refl _) (by decide)
  replace st := Lib.hid T3
  clear SL k3 hN2 hQ2 ex3 T3
  go_wp2_with fail
  refine CT.mono ?_
  rintro e' w4 ⟨rfl, hx4, hb4, k4⟩
  have T3 := st.out
  have nm : c.z.m ∉ [c.z.x, c.z.bk] := by simp [(ndn T3.ex.nodup (i := 10) (j := 0) rfl rfl (by decide)), (ndn T3.ex.nodup (i := 10) (j := 7) rfl rfl (by decide))]
  have nl : c.z.ls ∉ [c.z.x, c.z.bk] := by simp [(ndn T3.ex.nodup (i := 15) (j := 0) rfl rfl (by decide)), (ndn T3.ex.nodup (i := 15) (j := 7) rfl rfl (by decide))]
  have ex4 : EX w4 c (⟨N2, true, 0, 1, 1, 1, 1, 0, 1, 2, rest, all, 1, xs⟩ : Dy) := T3.ex.counted (k4.mono (fun x hx => Or.inl (by simp only [List.mem_cons, List.not_mem_nil, or_false] at hx ⊢; rcases hx with h | h <;> simp [h]))) hx4 hb4 (T3.ex.hm.kept k4 nm) (T3.ex.hl.kept k4 nl)
  have T4 := T3.step k4 (by intro b hb; simp only [List.mem_cons, List.not_mem_nil, or_false] at hb; rcases hb with rfl | rfl <;> simp [feet, blocks]) (by simp [(ndn T3.ex.nodup (i := 14) (j := 0) rfl rfl (by decide)), (ndn T3.ex.nodup (i := 14) (j := 7) rfl rfl (by decide))]) ex4 (Or.inl rfl) rfl
  have T4d := T4.step0 ((Kept.refl [] w4).drew)
  have TK := Tick58_1 c.z.s Lp C cl w4.drew T4d.hs T4d.hp
  have O := slices30 (w := w4) (z := c.z) T4.ex.hx hm.out
  have hx := T4.ex.hx
  unfold XAt at hx
  have c5 : w4.cell? ⟨c.z.x, 5, none⟩ = some (.int .i64 1) := cell_of hx 5
  have c9 : w4.cell? ⟨c.z.x, 9, none⟩ = some (.pointer (some ⟨c.z.s, 0, none⟩)) := cell_of hx 9
  have lhx := heap_lt hx
  clear hx
  replace st := Lib.hid T4
  clear CT T3 hx4 hb4 k4 nm nl ex4 T4 T4d
  go_wp2_with fail
  refine O.mono ?_
  rintro e' w4' ⟨rfl, rfl⟩
  go_wp2_with fail
  refine wp_region_any (by kernel_rfl) ?_
  rw [List.size_toArray]
  refine wpAnyS_any (S := fun X => X = w4.drew) (k := 8) _ _ _ ?_ _ rfl
  refine sTake (i := 0) rfl (by kernel_rfl) (fun _ _ _ h => h) (gLoad (by rfl) (fun W hW => by (try dsimp only at hW); subst hW; go_simp; first | done | rfl)) ?_
  try simp only [Act.put, zA, zB, zC]
  refine sTake (i := 1) rfl (by kernel_rfl) (fun _ _ _ h => h) (gLoad (by rfl) (fun W hW => by (try dsimp only at hW); subst hW; go_simp; first | done | rfl)) ?_
  try simp only [Act.put, zA, zB, zC]
  refine sTake (i := 2) rfl (by kernel_rfl) (fun _ _ _ h => h) (gLoad (by rfl) (fun W hW => by (try dsimp only at hW); subst hW; go_simp; first | done | rfl)) ?_
  try simp only [Act.put, zA, zB, zC]
  refine sTake (i := 3) rfl (by kernel_rfl) (fun _ _ _ h => h) (gLoad (by rfl) (fun W hW => by (try dsimp only at hW); subst hW; go_simp; first | done | rfl)) ?_
  try simp only [Act.put, zA, zB, zC]
  refine sTake (i := 4) rfl (by kernel_rfl) (fun _ _ _ h => h) (gLoad (by rfl) (fun W hW => by (try dsimp only at hW); subst hW; go_simp; first | done | rfl)) ?_
  try simp only [Act.put, zA, zB, zC]
  refine sTake (i := 5) rfl (by kernel_rfl) (fun _ _ _ h => h) (gLoad (by rfl) (fun W hW => by (try dsimp only at hW); subst hW; go_simp; first | done | rfl)) ?_
  try simp only [Act.put, zA, zB, zC]
  refine sTake (i := 6) rfl (by kernel_rfl) (fun _ _ _ h => h) (gLoad (by rfl) (fun W hW => by (try dsimp only at hW); subst hW; go_simp; first | done | rfl)) ?_
  try simp only [Act.put, zA, zB, zC]
  refine sTake (i := 7) rfl (by kernel_rfl) (fun _ _ _ h => h) (gLoad (by rfl) (fun W hW => by (try dsimp only at hW); subst hW; go_simp; first | done | rfl)) ?_
  try simp only [Act.put, zA, zB, zC]
  refine sRest (by kernel_rfl) ?_
  rintro X rfl
  clear c5 c9 lhx O
  refine aCall (i := 8) rfl (by kernel_rfl) (by rfl) (by go_simp; first | done | rfl | exact ⟨rfl, rfl⟩) (TK.mono ?_)
  rintro e' w5 ⟨rfl, k5⟩
  refine ⟨_, rfl, ?_⟩
  try simp only [Act.put, zA, zB, zC]
  refine aVal (i := 9) (v := ?_) rfl (by kernel_rfl) (by rfl) ?_ ?_
  rotate_left 1
  · go_simp; all_goals with_reducible rfl
  try simp only [Act.put, zA, zB, zC]
  refine wpAny_done (by kernel_rfl) ?_ _
  have T5 := st.out.step0 (Kept.tr ((Kept.refl [] w4).drew) k5)
  have O := slots55 (w := w5) (z := c.z) T5.ex.hx hm.out
  have MT := meter_add (k := 0) (n := 1) T5.ex.hm (by omega)
  have hx := T5.ex.hx
  unfold XAt at hx
  have c13 : w5.cell? ⟨c.z.x, 13, none⟩ = some (.pointer (some ⟨c.z.m, 0, none⟩)) := cell_of hx 13
  have lhx := heap_lt hx
  clear hx
  replace st := Lib.hid T5
  clear TK k5 T5
  go_wp2_with fail
  refine wp_loop_rounds 1 ?_
  rw [rounds_succ]
  go_wp2_with fail
  refine O.mono ?_
  rintro e' w5' ⟨rfl, rfl⟩
  clear O
  go_wp2_with fail
  refine wp_loop_rounds 1 ?_
  rw [rounds_succ]
  go_wp2_with fail
  refine MT.mono ?_
  rintro e' w11 ⟨⟨y, rfl⟩, k11, hm11⟩
  have ex11 : EX w11 c (⟨N2, true, 0, 1, 1, 1, 1, 0, 1, 2, rest, all, 1, xs⟩ : Dy) := st.out.ex.meter k11 hm11
  have T11 := st.out.step k11 (by intro b hb; simp only [List.mem_cons, List.not_mem_nil, or_false] at hb; subst hb; simp [feet, blocks]) (by simp [(ndn st.out.ex.nodup (i := 14) (j := 10) rfl rfl (by decide))]) ex11 (Or.inl rfl) rfl
  have hx11 := T11.ex.hx
  unfold XAt at hx11
  have c5 : w11.cell? ⟨c.z.x, 5, none⟩ = some (.int .i64 1) := cell_of hx11 5
  have f5 : w11.frozen? ⟨c.z.x, 5, none⟩ = false := frozen_of hx11 5
  have lx11 := heap_lt hx11
  have hx12 := heap_setCell (i := 5) (v := .int .i64 2) hx11
  have k12 : Kept [c.z.x] w11 (w11.setCell ⟨c.z.x, 5, none⟩ (.int .i64 2)) := (Kept.refl _ _).setCell _ _ (Or.inl (by simp))
  have ex12 : EX (w11.setCell ⟨c.z.x, 5, none⟩ (.int .i64 2)) c (⟨N2, true, 0, 1, 1, 2, 1, 0, 1, 2, rest, all, 1, xs⟩ : Dy) := T11.ex.clocked k12 (clock := 2) hx12
  have T12 := T11.step k12 (by intro b hb; simp only [List.mem_cons, List.not_mem_nil, or_false] at hb; subst hb; simp [feet, blocks]) (by simp [(ndn T11.ex.nodup (i := 14) (j := 0) rfl rfl (by decide))]) ex12 (Or.inl rfl) rfl
  obtain ⟨W12, hW12⟩ : ∃ W, w11.setCell ⟨c.z.x, 5, none⟩ (.int .i64 2) = W := ⟨_, rfl⟩
  rw [hW12] at T12
  obtain ⟨he, hp⟩ := eqs.out
  have SE := settle63_twin_due T12.ex rfl hm.out (by rw [he]; decide) (by rw [he, hp]; decide) (by rw [hp]; decide) (Int.le_refl _) (show (0 : Int) ≤ 2 by decide) (show (2 : Int) ≤ 65536 by decide) (show (0 : Int) ≤ 1 by decide) (show (1 : Int) ≤ 1024 by decide) (by rw [hp]; show (0 : Int) + 2 ≤ 2; decide) (by rw [he]; exact T12.hw)
  replace st := Lib.hid T12
  clear MT k11 hm11 ex11 T11 hx11 hx12 k12 ex12 T12 c13 lhx he hp
  go_wp2_with fail
  refine SE.mono ?_
  rintro e' w13 ⟨rfl, ex13, k13⟩
  have T13 := st.out.step k13 (by intro b hb; simp only [List.mem_cons, List.not_mem_nil, or_false] at hb; rcases hb with rfl | rfl | rfl <;> simp [feet, blocks]) (by simp [(ndn st.out.ex.nodup (i := 14) (j := 6) rfl rfl (by decide)), (ndn st.out.ex.nodup (i := 14) (j := 3) rfl rfl (by decide)), (ndn st.out.ex.nodup (i := 14) (j := 10) rfl rfl (by decide))]) ex13 (Or.inl rfl) rfl
  replace st := Lib.hid T13
  clear SE ex13 k13 T13 hW12 c5 f5 lx11
  go_wp2_with fail
  go_returns
  exact ⟨rfl, N2, st.out⟩
end
end Go.Proofs.YtgfbfklnhmndfaaGreat
