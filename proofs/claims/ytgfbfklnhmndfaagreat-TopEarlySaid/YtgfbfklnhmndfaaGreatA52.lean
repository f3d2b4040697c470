/- The parts of the top that the law of early release walks through: part 52 of 52. -/
import Derived.Test.YtgfbfklnhmndfaaGreatA1
import Derived.Test.YtgfbfklnhmndfaaGreatA3
import Derived.Test.YtgfbfklnhmndfaaGreatA15
import Derived.Test.YtgfbfklnhmndfaaGreatA20
import Derived.Test.YtgfbfklnhmndfaaGreatA21
import Derived.Test.YtgfbfklnhmndfaaGreatA24
import Derived.Test.YtgfbfklnhmndfaaGreatA29
import Derived.Test.YtgfbfklnhmndfaaGreatA30
import Derived.Test.YtgfbfklnhmndfaaGreatA32
import Derived.Test.YtgfbfklnhmndfaaGreatA33
import Derived.Test.YtgfbfklnhmndfaaGreatA35
import Derived.Test.YtgfbfklnhmndfaaGreatA36
import Derived.Test.YtgfbfklnhmndfaaGreatA37
import Derived.Test.YtgfbfklnhmndfaaGreatA40
import Derived.Test.YtgfbfklnhmndfaaGreatA41
import Derived.Test.YtgfbfklnhmndfaaGreatA48
import Derived.Test.YtgfbfklnhmndfaaGreatA49
import Derived.Test.YtgfbfklnhmndfaaGreatA50
import Derived.Test.YtgfbfklnhmndfaaGreatA51
namespace Go.Proofs.YtgfbfklnhmndfaaGreat
open Go.RowKit
set_option linter.unusedSimpArgs false
set_option linter.unusedVariables false
section
attribute [local go_sem ↓] setCell_drewN alloc_drewN grow_cell grow_frozen setCell_grow grow_size cell_alloc_grow frozen_alloc_grow setCell_alloc_grow cell_grow_alloc_grow frozen_grow_alloc_grow setCell_grow_alloc_grow grow_grow
attribute [local go_sem] lt_len size_setCell
theorem doTwin0 {S0 : List Nat} {w : World} {c : Pm} {N : Nat} {rest : List Value} {lc : Array Value} (ex : EX w c (d0 N rest)) (hm : ModeIs c.mode true) (hid : c.id = 3) (he : c.e = 1) (hp : c.p = 2) (hrk : c.rk = 9) (hear : c.early = false)
    (hse : w.heap[c.z.s]? = some (.cells #[.int .i64 1, .bool false, .int .i64 0, .slice none 0 0] 103 (0, 0))) (hl : w.heap[c.z.l]? = some (.cells lc 92 (0, 0))) (hS0 : ∀ b ∈ S0, b < w.heap.size) (fb : ∀ b ∈ feet c (d0 N rest), b ∈ S0) (fs : c.z.s ∈ S0) (fl : c.z.l ∈ S0) :
    Calls Tryz.prog 12 #[pt c.z.x, .agg #[.int .i64 8, .int .i64 0, .int .i64 0, .int .i64 0]] w fun e' V => ∃ g n cap, e' = .returned (.agg #[.int .i64 0, .int .i64 1, .slice g n cap]) ∧ n = 2 ∧ ∃ N' all xs Lp C cl, TX S0 w V c (⟨N', true, 0, 1, 1, 1, 0, 0, 1, 2, rest, all, 1, xs⟩ : Dy) 1 Lp C cl lc := by
  refine (Do12_tick (t := 0) (t2 := 1) (fun W n V => n = 2 ∧ ∃ N' all xs Lp C cl, TX S0 W V c (⟨N', true, 0, 1, 1, 1, 0, 0, 1, 2, rest, all, 1, xs⟩ : Dy) 1 Lp C cl lc) (fun n V => n = 2 ∧ ∃ N' all xs Lp C cl, TX S0 w V c (⟨N', true, 0, 1, 1, 1, 0, 0, 1, 2, rest, all, 1, xs⟩ : Dy) 1 Lp C cl lc) (fun W hk => ?_) ?_ ?_ (cell_of ex.hx 5) (by omega) (heap_lt ex.hx))
  · refine (tick_twin0 (ex.kept0 hk) hm hid he hp hrk hear (hk.at hse (by simp)) (hk.at hl (by simp)) (Kept.refl S0 W) (fun b hb => Or.inl (fb b hb)) (Or.inl fs) (Or.inl fl)).mono ?_
    rintro e' V ⟨g, cap, rfl, h⟩
    exact ⟨g, 2, cap, rfl, rfl, h⟩
  · rintro W n V hk ⟨rfl, N', all, xs, Lp, C, cl, T⟩
    refine ⟨cell_of T.ex.hx 5, heap_lt T.ex.hx, fun b hb hb2 => T.k0.2 b hb2 fun hin => ?_⟩
    have := hS0 b hin
    omega
  · rintro W n V S V' hk ⟨rfl, N', all, xs, Lp, C, cl, T⟩ kS hS
    exact ⟨rfl, N', all, xs, Lp, C, cl, T.after hk kS hS hS0⟩
theorem doTwin1 {S0 : List Nat} {w0 w : World} {c : Pm} {N : Nat} {rest : List Value} {all : Value} {xs : List Value} {Lp C : Nat} {cl : List Value} {lc : Array Value} (T : TX S0 w0 w c (⟨N, true, 0, 1, 1, 1, 0, 0, 1, 2, rest, all, 1, xs⟩ : Dy) 1 Lp C cl lc) (hm : ModeIs c.mode true) (he : c.e = 1) (hp : c.p = 2) :
    Calls Tryz.prog 12 #[pt c.z.x, .agg #[.int .i64 8, .int .i64 0, .int .i64 0, .int .i64 0]] w fun e' V => ∃ g n cap, e' = .returned (.agg #[.int .i64 0, .int .i64 2, .slice g n cap]) ∧ n = 0 ∧ ∃ N', TX (feet c (⟨N, true, 0, 1, 1, 1, 0, 0, 1, 2, rest, all, 1, xs⟩ : Dy) ++ [c.z.s, Lp, c.z.l]) w V c (⟨N', false, 0, 0, 1, 2, 1, 0, 1, 2, rest, all, 1, xs⟩ : Dy) 1 Lp C cl lc := by
  have hS0 : ∀ b ∈ feet c (⟨N, true, 0, 1, 1, 1, 0, 0, 1, 2, rest, all, 1, xs⟩ : Dy) ++ [c.z.s, Lp, c.z.l], b < w.heap.size := by
    intro b hb
    rcases List.mem_append.1 hb with h | h
    · exact T.ex.feet_lt h
    · simp only [List.mem_cons, List.not_mem_nil, or_false] at h
      rcases h with rfl | rfl | rfl
      · exact heap_lt T.hs
      · exact heap_lt T.hp
      · exact heap_lt T.hl
  refine (Do12_tick (t := 1) (t2 := 2) (fun W n V => n = 0 ∧ ∃ N', TX (feet c (⟨N, true, 0, 1, 1, 1, 0, 0, 1, 2, rest, all, 1, xs⟩ : Dy) ++ [c.z.s, Lp, c.z.l]) W V c (⟨N', false, 0, 0, 1, 2, 1, 0, 1, 2, rest, all, 1, xs⟩ : Dy) 1 Lp C cl lc) (fun n V => n = 0 ∧ ∃ N', TX (feet c (⟨N, true, 0, 1, 1, 1, 0, 0, 1, 2, rest, all, 1, xs⟩ : Dy) ++ [c.z.s, Lp, c.z.l]) w V c (⟨N', false, 0, 0, 1, 2, 1, 0, 1, 2, rest, all, 1, xs⟩ : Dy) 1 Lp C cl lc) (fun W hk => ?_) ?_ ?_ (cell_of T.ex.hx 5) (by omega) (heap_lt T.ex.hx))
  · refine (tick_twin1 (T.restart hk) hm he hp).mono ?_
    rintro e' V ⟨rfl, h⟩
    exact ⟨none, 0, 0, rfl, rfl, h⟩
  · rintro W n V hk ⟨rfl, N', T'⟩
    refine ⟨cell_of T'.ex.hx 5, heap_lt T'.ex.hx, fun b hb hb2 => T'.k0.2 b hb2 fun hin => ?_⟩
    have := hS0 b hin
    omega
  · rintro W n V S V' hk ⟨rfl, N', T'⟩ kS hS
    exact ⟨rfl, N', T'.after hk kS hS hS0⟩
end
section
attribute [local go_sem ↓] setCell_drewN alloc_drewN grow_cell grow_frozen setCell_grow grow_size cell_alloc_grow frozen_alloc_grow setCell_alloc_grow cell_grow_alloc_grow frozen_grow_alloc_grow setCell_grow_alloc_grow grow_grow
attribute [local go_sem] lt_len size_setCell
theorem field42_6 (a b c d e f g h i ma mb mc md me en : Int) (W : World) : (Instr.field 42 (.agg #[.int .i64 a, .int .i64 b, .int .i64 c, .int .i64 d, .int .i64 e, .int .i64 f, .int .i64 g, .int .i64 h, .int .i64 i, .int .i64 ma, .int .i64 mb, .int .i64 mc, .int .i64 md, .int .i64 me, .int .i64 en]) 6).run Tryz.prog W = .ok (.agg #[.int .i64 ma, .int .i64 mb, .int .i64 mc, .int .i64 md, .int .i64 me]) W := by kernel_rfl
theorem index40_4 (ma mb mc md me : Int) (W : World) : (Instr.index 40 (.agg #[.int .i64 ma, .int .i64 mb, .int .i64 mc, .int .i64 md, .int .i64 me]) (.int .i64 4)).run Tryz.prog W = .ok (.int .i64 me) W := by kernel_rfl
set_option maxHeartbeats 8000000 in
set_option maxRecDepth 100000 in
theorem awake8 (w : World) : Calls Tryz.prog 8 #[] w fun e' W => e' = .returned (.bool true) ∧ Kept [] w W := by
  have F6 := field42_6
  have F4 := index40_4
  go_enter Tryz.func8, Tryz.ntmps8
  go_wp2_with fail
  refine (newTwin w).mono ?_
  rintro e' w1 ⟨c, N, I, U, F, A, B, v, rfl, nx, x1, x2, x3, x4, x5⟩
  have J := doJoin nx (Or.inr rfl) 3 1 2 (by omega) (by omega) (by omega) (by omega) (by omega)
  have bs := Lib.hid (And.intro nx (And.intro x2 (And.intro x4 x5)))
  clear nx x1 x2 x3 x4 x5
  go_wp2_with fail
  refine J.mono ?_
  rintro e' w2 ⟨rfl, rest, ex, kj, s1, s2, hl⟩
  obtain ⟨nx, x2, x4, x5⟩ := bs.out
  have k0 : Kept [] w w2 := Kept.trans nx.hS.kept kj (by simp) (fun b hb => Or.inr (nx.joinS_in hb).1)
  have fb : ∀ b ∈ feet { c with id := 3, e := ((1 : Nat) : Int), p := ((2 : Nat) : Int) } (d0 N rest), w.heap.size ≤ b := fun b hb => (nx.feet_in hb).1
  have fs : w.heap.size ≤ c.z.s := nx.new _ (by simp)
  have fl : w.heap.size ≤ c.z.l := nx.new _ (by simp)
  have hse := kj.at nx.hse (nx.notC (tg_cells nx.hse) (by decide))
  obtain ⟨CT, hCT⟩ : ∃ CT : Pm, { c with id := 3, e := ((1 : Nat) : Int), p := ((2 : Nat) : Int) } = CT := ⟨_, rfl⟩
  have zc : c.z = CT.z := by rw [← hCT]
  have hm : ModeIs CT.mode true := by rw [← hCT]; exact Or.inr (Or.inr ⟨x2, rfl⟩)
  have hid : CT.id = 3 := by rw [← hCT]
  have he : CT.e = 1 := by rw [← hCT]; rfl
  have hp : CT.p = 2 := by rw [← hCT]; rfl
  have hrk : CT.rk = 9 := by rw [← hCT]; exact x4
  have hear : CT.early = false := by rw [← hCT]; exact x5
  rw [hCT] at ex fb
  rw [zc] at hl hse fs fl
  try rw [zc]
  obtain ⟨va, hva⟩ : ∃ va : Value, va = .map (some A) := ⟨_, rfl⟩
  obtain ⟨vb, hvb⟩ : ∃ vb : Value, vb = .map (some B) := ⟨_, rfl⟩
  rw [← hva, ← hvb] at hl
  have kA : Kept [] w2 (w2.alloc (.cells #[.int .i64 0, .int .i64 0, .slice none 0 0] 34)) := (Kept.refl _ _).alloc _
  have hR3 := heap_alloc_new (w := w2) (o := .cells #[.int .i64 0, .int .i64 0, .slice none 0 0] 34)
  obtain ⟨S0, hS0⟩ : ∃ S0, feet CT (d0 N rest) ++ [CT.z.s, CT.z.l] = S0 := ⟨_, rfl⟩
  have S0lt : ∀ b ∈ S0, b < w2.heap.size := by
    intro b hb
    rw [← hS0] at hb
    rcases List.mem_append.1 hb with h | h
    · exact ex.feet_lt h
    · simp only [List.mem_cons, List.not_mem_nil, or_false] at h
      rcases h with rfl | rfl
      · exact heap_lt hse
      · exact heap_lt hl
  have S0ge : ∀ b ∈ S0, w.heap.size ≤ b := by
    intro b hb
    rw [← hS0] at hb
    rcases List.mem_append.1 hb with h | h
    · exact fb b h
    · simp only [List.mem_cons, List.not_mem_nil, or_false] at h
      rcases h with rfl | rfl
      · exact fs
      · exact fl
  replace zc := Lib.hid (And.intro ex (And.intro hm (And.intro hid (And.intro he (And.intro hp (And.intro hrk (And.intro hear (And.intro hse (And.intro hl (And.intro k0 (And.intro kA (And.intro hR3 (And.intro S0lt S0ge)))))))))))))
  replace hS0 := Lib.hid hS0
  clear J nx x2 x4 x5 ex kj hl k0 fb fs fl hse hCT hm hid he hp hrk hear hva hvb kA hR3 S0lt S0ge
  go_wp2_with fail
  obtain ⟨ex, hm, hid, he, hp, hrk, hear, hse, hl, k0, kA, hR3, S0lt, S0ge⟩ := zc.out
  replace hS0 := hS0.out
  obtain ⟨W3, hW3⟩ : ∃ W3, w2.alloc (.cells #[.int .i64 0, .int .i64 0, .slice none 0 0] 34) = W3 := ⟨_, rfl⟩
  have s3 : W3.heap.size = w2.heap.size + 1 := by rw [← hW3]; simp
  obtain ⟨R3, hR3e⟩ : ∃ R3, w2.heap.size = R3 := ⟨_, rfl⟩
  rw [hW3] at kA hR3
  rw [hR3e] at hR3 S0lt
  have D0 := doTwin0 (S0 := S0) (ex.kept0 kA) hm hid he hp hrk hear (kA.at hse (by simp)) (kA.at hl (by simp)) (fun b hb => by have := S0lt b hb; omega) (fun b hb => by rw [← hS0]; exact List.mem_append_left _ hb) (by rw [← hS0]; simp) (by rw [← hS0]; simp)
  have bs := Lib.hid (And.intro (Kept.tr k0 kA) (And.intro hR3 (And.intro S0lt (And.intro S0ge (And.intro hm (And.intro he (And.intro hp (And.intro s3 (And.intro hR3e k0.1)))))))))
  clear zc ex hl k0 hse hm hid he hp hrk hear kA hR3 hS0 S0lt S0ge s3
  try rw [hW3]
  try rw [hR3e]
  refine D0.mono ?_
  rintro e' w4 ⟨g1, n1, cap1, rfl, rfl, N1, all1, xs1, Lp, C, cl, T⟩
  obtain ⟨k3, hR3, S0lt, S0ge, hm, he, hp, s3, hr3, g0⟩ := bs.out
  have hR34 := T.k0.at hR3 (fun hin => by have := S0lt _ hin; omega)
  have kB : Kept [] w4 (w4.alloc (.cells #[.int .i64 0, .int .i64 1, .slice g1 2 cap1] 34)) := (Kept.refl _ _).alloc _
  have hR4 := heap_alloc_new (w := w4) (o := .cells #[.int .i64 0, .int .i64 1, .slice g1 2 cap1] 34)
  have T5 := T.step0 kB
  have k4 : Kept [] w w4 := Kept.trans k3 T.k0 (by simp) (fun b hb => Or.inr (S0ge b hb))
  have S1 : ∀ b ∈ feet CT (⟨N1, true, 0, 1, 1, 1, 0, 0, 1, 2, rest, all1, 1, xs1⟩ : Dy) ++ [CT.z.s, Lp, CT.z.l], (b ∈ S0 ∨ W3.heap.size ≤ b) ∧ b < w4.heap.size := by
    intro b hb
    rcases List.mem_append.1 hb with h | h
    · exact ⟨T.fb b h, T.ex.feet_lt h⟩
    · simp only [List.mem_cons, List.not_mem_nil, or_false] at h
      rcases h with rfl | rfl | rfl
      · exact ⟨T.fz, heap_lt T.hs⟩
      · exact ⟨T.fp, heap_lt T.hp⟩
      · exact ⟨T.fl, heap_lt T.hl⟩
  obtain ⟨W5, hW5⟩ : ∃ W5, w4.alloc (.cells #[.int .i64 0, .int .i64 1, .slice g1 2 cap1] 34) = W5 := ⟨_, rfl⟩
  obtain ⟨R4, hR4e⟩ : ∃ R4, w4.heap.size = R4 := ⟨_, rfl⟩
  rw [hW5] at kB hR4 T5
  rw [hR4e] at hR4 S1
  have D1 := doTwin1 T5 hm he hp
  have r3n : R3 ∉ feet CT (⟨N1, true, 0, 1, 1, 1, 0, 0, 1, 2, rest, all1, 1, xs1⟩ : Dy) ++ [CT.z.s, Lp, CT.z.l] := fun hin => by
    rcases (S1 _ hin).1 with h | h
    · have := S0lt _ h
      omega
    · omega
  have r4n : R4 ∉ feet CT (⟨N1, true, 0, 1, 1, 1, 0, 0, 1, 2, rest, all1, 1, xs1⟩ : Dy) ++ [CT.z.s, Lp, CT.z.l] := fun hin => by
    have := (S1 _ hin).2
    omega
  have S1ge : ∀ b ∈ feet CT (⟨N1, true, 0, 1, 1, 1, 0, 0, 1, 2, rest, all1, 1, xs1⟩ : Dy) ++ [CT.z.s, Lp, CT.z.l], w.heap.size ≤ b := fun b hb => by
    rcases (S1 _ hb).1 with h | h
    · exact S0ge b h
    · exact Nat.le_trans k3.1 h
  have bs := Lib.hid (And.intro (Kept.tr k4 kB) (And.intro (kB.at hR34 (by simp)) (And.intro hR4 (And.intro r3n (And.intro r4n (And.intro S1ge hm))))))
  clear D0 T T5 k3 hR3 S0lt S0ge hm he hp s3 hr3 g0 hR34 kB hR4 k4 S1 r3n r4n S1ge hW3 hR3e
  go_wp2_with fail
  try rw [hW5]
  try rw [hR4e]
  refine D1.mono ?_
  rintro e' w6 ⟨g2, n2, cap2, rfl, rfl, N2, T⟩
  obtain ⟨k5, hR3, hR4, r3n, r4n, S1ge, hm⟩ := bs.out
  have hR36 := T.k0.at hR3 r3n
  have hR46 := T.k0.at hR4 r4n
  have k6 : Kept [] w w6 := Kept.trans k5 T.k0 (by simp) (fun b hb => Or.inr (S1ge b hb))
  have kC : Kept [] w6 (w6.alloc (.cells #[.int .i64 0, .int .i64 2, .slice g2 0 cap2] 34)) := (Kept.refl _ _).alloc _
  have hR5 := heap_alloc_new (w := w6) (o := .cells #[.int .i64 0, .int .i64 2, .slice g2 0 cap2] 34)
  have T7 := T.step0 kC
  obtain ⟨W7, hW7⟩ : ∃ W7, w6.alloc (.cells #[.int .i64 0, .int .i64 2, .slice g2 0 cap2] 34) = W7 := ⟨_, rfl⟩
  obtain ⟨R5, hR5e⟩ : ∃ R5, w6.heap.size = R5 := ⟨_, rfl⟩
  rw [hW7] at kC hR5 T7
  rw [hR5e] at hR5
  have IN := Info13 T7 hm
  have hR37 := kC.at hR36 (by simp)
  have hR47 := kC.at hR46 (by simp)
  have a0 : w6.cell? ⟨R3, 0, none⟩ = some (.int .i64 0) := cell_of hR36 0
  have b1 : w6.cell? ⟨R4, 1, none⟩ = some (.int .i64 1) := cell_of hR46 1
  have b2 : w6.cell? ⟨R4, 2, none⟩ = some (.slice g1 2 cap1) := cell_of hR46 2
  have l3 := heap_lt hR36
  have l4 := heap_lt hR46
  have a0' : W7.cell? ⟨R3, 0, none⟩ = some (.int .i64 0) := cell_of hR37 0
  have b1' : W7.cell? ⟨R4, 1, none⟩ = some (.int .i64 1) := cell_of hR47 1
  have b2' : W7.cell? ⟨R4, 2, none⟩ = some (.slice g1 2 cap1) := cell_of hR47 2
  have c2' : W7.cell? ⟨R5, 2, none⟩ = some (.slice g2 0 cap2) := cell_of hR5 2
  have l3' := heap_lt hR37
  have l4' := heap_lt hR47
  have l5' := heap_lt hR5
  have bs := Lib.hid (Kept.tr k6 kC)
  clear D1 T T7 k5 hR3 hR4 r3n r4n S1ge hm hR36 hR46 k6 kC hR5 hR37 hR47 hW5 hR4e
  go_wp2_with fail
  try rw [hW7]
  try rw [hR5e]
  refine IN.mono ?_
  rintro e' w8 ⟨⟨y1, y2, ma, mb, mc, md, en, rfl⟩, k8⟩
  have fin := Lib.hid (Kept.tr bs.out k8)
  clear IN k8 bs a0 b1 b2 l3 l4 a0' b1' b2' c2' l3' l4' l5' hW7 hR5e
  go_wp2_with fail
  go_returns
  exact ⟨rfl, fin.out⟩
end
section
attribute [local go_sem ↓] setCell_drewN alloc_drewN grow_cell grow_frozen setCell_grow grow_size cell_alloc_grow frozen_alloc_grow setCell_alloc_grow cell_grow_alloc_grow frozen_grow_alloc_grow setCell_grow_alloc_grow grow_grow
attribute [local go_sem] lt_len size_setCell
theorem below_of_kept {a b : World} (h : Kept [] a b) : Below a.heap.size a b := ⟨h.os, h.tape, h.output, h.1, fun k hk => h.2 k hk (by simp)⟩
set_option maxHeartbeats 2000000 in
theorem early_walk (e p tk : Int) (he : (Lit.int .i64 e).wf = true) (hp : (Lit.int .i64 p).wf = true) (htk : (Lit.int .u8 tk).wf = true) (w : World) :
    Calls Tryz.prog 7 #[.int .i64 e, .int .i64 p, .int .u8 tk] w fun e' W => e' = .returned (.bool true) ∧ Below w.heap.size w W := by
  have t0 : 0 ≤ tk ∧ tk ≤ 255 := by
    have a1 : IntKind.u8.min = 0 := by decide
    have a2 : IntKind.u8.max = 255 := by decide
    simp [Lit.wf, a1, a2] at htk
    omega
  suffices h : Calls Tryz.prog 7 #[.int .i64 e, .int .i64 p, .int .u8 tk] w fun e' W => e' = .returned (.bool true) ∧ Kept [] w W from
    h.mono fun e' W hh => ⟨hh.1, below_of_kept hh.2⟩
  clear he hp htk
  by_cases h1 : 1 ≤ p ∧ p ≤ 1048575 ∧ 1 ≤ e ∧ e ≤ p
  · by_cases h2 : p ≤ 60
    · obtain ⟨E, rfl⟩ := Int.eq_ofNat_of_zero_le (a := e) (by omega)
      obtain ⟨P, rfl⟩ := Int.eq_ofNat_of_zero_le (a := p) (by omega)
      obtain ⟨tn, rfl⟩ := Int.eq_ofNat_of_zero_le (a := tk) t0.1
      exact early7 awake8 E P tn (by omega) (by omega) (by omega) (by omega) w
    · have A := awake8 w
      have M := fun W => taskMay15 e p W
      rw [decide_eq_true h1] at M
      have hd : decide (p > 60) = true := decide_eq_true (by omega)
      clear h1 h2 t0
      go_enter Tryz.func7, Tryz.ntmps7
      go_wp2_with fail
      refine A.mono ?_
      rintro e' w1 ⟨rfl, k1⟩
      replace k1 := Lib.hid k1
      clear A
      go_wp2_with fail
      refine (M w1).mono ?_
      rintro e' w2 ⟨rfl, os2, q2, h2⟩
      have k2 := Lib.hid (Kept.tr k1.out (kept_grow h2))
      clear h2 k1 M
      go_wp2_with fail
      go_returns
      exact ⟨rfl, k2.out⟩
  · have A := awake8 w
    have M := fun W => taskMay15 e p W
    rw [decide_eq_false h1] at M
    clear h1 t0
    go_enter Tryz.func7, Tryz.ntmps7
    go_wp2_with fail
    refine A.mono ?_
    rintro e' w1 ⟨rfl, k1⟩
    replace k1 := Lib.hid k1
    clear A
    go_wp2_with fail
    refine (M w1).mono ?_
    rintro e' w2 ⟨rfl, os2, q2, h2⟩
    have k2 := Lib.hid (Kept.tr k1.out (kept_grow h2))
    clear h2 k1 M
    go_wp2_with fail
    go_returns
    exact ⟨rfl, k2.out⟩
end
end Go.Proofs.YtgfbfklnhmndfaaGreat
