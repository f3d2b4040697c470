/- The parts of the top that the law of early release walks through: part 41 of 52. -/
import Derived.Test.YtgfbfklnhmndfaaGreatA1
import Derived.Test.YtgfbfklnhmndfaaGreatA3
import Derived.Test.YtgfbfklnhmndfaaGreatA4
import Derived.Test.YtgfbfklnhmndfaaGreatA9
import Derived.Test.YtgfbfklnhmndfaaGreatA10
import Derived.Test.YtgfbfklnhmndfaaGreatA11
import Derived.Test.YtgfbfklnhmndfaaGreatA15
import Derived.Test.YtgfbfklnhmndfaaGreatA16
import Derived.Test.YtgfbfklnhmndfaaGreatA20
import Derived.Test.YtgfbfklnhmndfaaGreatA21
import Derived.Test.YtgfbfklnhmndfaaGreatA24
import Derived.Test.YtgfbfklnhmndfaaGreatA29
import Derived.Test.YtgfbfklnhmndfaaGreatA30
import Derived.Test.YtgfbfklnhmndfaaGreatA32
import Derived.Test.YtgfbfklnhmndfaaGreatA33
import Derived.Test.YtgfbfklnhmndfaaGreatA35
import Derived.Test.YtgfbfklnhmndfaaGreatA36
import Derived.Test.YtgfbfklnhmndfaaGreatA37
import Derived.Test.YtgfbfklnhmndfaaGreatA38
import Derived.Test.YtgfbfklnhmndfaaGreatA39
namespace Go.Proofs.YtgfbfklnhmndfaaGreat
open Go.RowKit
set_option linter.unusedSimpArgs false
set_option linter.unusedVariables false
section
attribute [local go_sem ↓] setCell_drewN alloc_drewN grow_cell grow_frozen setCell_grow grow_size cell_alloc_grow frozen_alloc_grow setCell_alloc_grow cell_grow_alloc_grow frozen_grow_alloc_grow setCell_grow_alloc_grow grow_grow
attribute [local go_sem] lt_len size_setCell
/-- At clock T, the job of now having got g. -/
structure At (w : World) (c : Pm) (d : Dy) (P T g : Nat) : Prop where
  inv : ∃ i : Int, i ≤ T ∧ Inv w c d (decide (T % P ≠ 0)) (if T % P = 0 then 0 else ((T - T % P : Nat) : Int)) (g : Int) T T i
  g0 : g ≤ T % P
theorem next_mod {T P : Nat} (hP : 0 < P) : (T + 1) % P = if T % P + 1 = P then 0 else T % P + 1 := by
  have hlt := Nat.mod_lt T hP
  rw [Nat.add_mod]
  by_cases h1 : P = 1
  · subst h1
    simp [Nat.mod_one]
  · rw [Nat.mod_eq_of_lt (show 1 < P by omega)]
    split
    · next h => rw [h, Nat.mod_self]
    · exact Nat.mod_eq_of_lt (by omega)
set_option maxHeartbeats 1000000 in
theorem tickE {w : World} {c : Pm} {d : Dy} {E P T g : Nat} (hf : Fix c false) (hrk : c.rk = 0) (he : c.e = E) (hp : c.p = P) (h : At w c d P T g) (hg : g ≤ E) (hT : T ≤ 1000) :
    Calls Tryz.prog 41 #[pt c.z.x] w fun e' W => ∃ gg n cap, e' = .returned (.slice gg n cap) ∧ ∃ d' g', At W c d' P (T + 1) g' ∧ Fr c d w d' W ∧ n ≤ 1 ∧ g + n ≤ E ∧ (c.early = true → g < E → n = 1) ∧ g' = if (T + 1) % P = 0 then 0 else g + n := by
  obtain ⟨⟨i, hi, inv⟩, g0⟩ := h
  have e1 := hf.e1
  have ep := hf.ep
  have p1 := hf.p1
  have hP : 0 < P := by omega
  have hlt := Nat.mod_lt T hP
  have hle := Nat.mod_le T P
  obtain ⟨R, hR⟩ : ∃ R : Int, R = ((T - T % P : Nat) : Int) := ⟨_, rfl⟩
  have hR' : R = T - ((T % P : Nat) : Int) := by rw [hR, Int.ofNat_sub hle]
  have rel : Calls Tryz.prog 54 #[pt c.z.x] w fun e' W => e' = .returned (.tuple #[]) ∧ ∃ d', Inv W c d' true R (g : Int) T (T + 1) i ∧ Fr c d w d' W := by
    by_cases h0 : T % P = 0
    · rw [if_pos h0, show decide (T % P ≠ 0) = false by simp [h0]] at inv
      have hg0 : g = 0 := by omega
      have hRT : R = T := by rw [hR', h0]; simp
      subst hg0
      rw [hRT]
      exact rel_go inv hf (by omega)
    · rw [if_neg h0, show decide (T % P ≠ 0) = true by simp [h0], ← hR] at inv
      exact rel_no inv hf
  have nm := next_mod (T := T) hP
  -- how the job ends
  have fin : ∀ (n : Nat) (j : Int), g + n ≤ E → n ≤ 1 → ∀ W d', Inv W c d' true R ((g : Int) + (n : Int)) (T + 1) (T + 1) j → Calls Tryz.prog 63 #[pt c.z.x] W fun e' V => e' = .returned (.tuple #[]) ∧ ∃ d'', Inv V c d'' (decide ((T + 1) % P ≠ 0)) (if (T + 1) % P = 0 then 0 else R) (if (T + 1) % P = 0 then 0 else (g : Int) + (n : Int)) (T + 1) (T + 1) j ∧ Fr c d' W d'' V := by
    intro n j hn h1 W d' iv
    by_cases hd : T % P + 1 = P
    · have hz : (T + 1) % P = 0 := by rw [nm, if_pos hd]
      rw [if_pos hz, if_pos hz, show decide ((T + 1) % P ≠ 0) = false by simp [hz]]
      exact end_yes iv hf (by omega) (by omega) (by omega) (by omega) (by omega) (by omega)
    · have hz : (T + 1) % P ≠ 0 := by rw [nm, if_neg hd]; omega
      rw [if_neg hz, if_neg hz, show decide ((T + 1) % P ≠ 0) = true by simp [hz]]
      exact end_no iv hf (by omega) (by omega) (by omega) (by omega) (by omega) (by omega)
  -- what stands behind it
  have at' : ∀ (n : Nat) (j : Int), n ≤ 1 → j ≤ T + 1 → ∀ W d', Inv W c d' (decide ((T + 1) % P ≠ 0)) (if (T + 1) % P = 0 then 0 else R) (if (T + 1) % P = 0 then 0 else (g : Int) + (n : Int)) (T + 1) (T + 1) j → At W c d' P (T + 1) (if (T + 1) % P = 0 then 0 else g + n) := by
    intro n j h1 hj W d' iv
    refine ⟨⟨j, by simpa using hj, ?_⟩, ?_⟩
    · have hx : (if (T + 1) % P = 0 then (0 : Int) else (((T + 1) - (T + 1) % P : Nat) : Int)) = if (T + 1) % P = 0 then 0 else R := by
        split
        · rfl
        · next hz =>
          have hd : T % P + 1 ≠ P := fun hd => hz (by rw [nm, if_pos hd])
          rw [nm, if_neg hd, hR]
          congr 1
          omega
      have hy : (((if (T + 1) % P = 0 then 0 else g + n : Nat)) : Int) = if (T + 1) % P = 0 then 0 else (g : Int) + (n : Int) := by
        split <;> simp
      rw [hx, hy]
      simpa using iv
    · by_cases hd : T % P + 1 = P
      · rw [nm, if_pos hd]; simp
      · rw [nm, if_neg hd, if_neg (by omega)]; omega
  have goal : ∀ (n : Nat) (gg : Option Addr) (cap : Nat) (j : Int) (W : World) (d' : Dy), g + n ≤ E → n ≤ 1 → j ≤ T + 1 → (c.early = true → g < E → n = 1) → Inv W c d' (decide ((T + 1) % P ≠ 0)) (if (T + 1) % P = 0 then 0 else R) (if (T + 1) % P = 0 then 0 else (g : Int) + (n : Int)) (T + 1) (T + 1) j → Fr c d w d' W →
      ∃ gg' n' cap', Ending.returned (.slice gg n cap) = Ending.returned (.slice gg' n' cap') ∧ ∃ d' g', At W c d' P (T + 1) g' ∧ Fr c d w d' W ∧ n' ≤ 1 ∧ g + n' ≤ E ∧ (c.early = true → g < E → n' = 1) ∧ g' = if (T + 1) % P = 0 then 0 else g + n' :=
    fun n gg cap j W d' h1 h2 h3 h4 h5 h6 => ⟨gg, n, cap, rfl, d', _, at' n j h2 h3 W d' h5, h6, h2, h1, h4, rfl⟩
  have one : g < E → (∀ cnt W, Calls Tryz.prog 125 #[taskV c.id c.e c.p true R (g : Int) cnt, .int .i64 T, .bool c.early] W (RetG (.bool true) W)) → Calls Tryz.prog 41 #[pt c.z.x] w fun e' W => ∃ gg n cap, e' = .returned (.slice gg n cap) ∧ ∃ d' g', At W c d' P (T + 1) g' ∧ Fr c d w d' W ∧ n ≤ 1 ∧ g + n ≤ E ∧ (c.early = true → g < E → n = 1) ∧ g' = if (T + 1) % P = 0 then 0 else g + n := by
    intro hlt C
    refine (tick_one inv hf hrk (by omega) (by omega) (by omega) rel C (by omega) (by omega) (fin 1 i (by omega) (by omega))).mono ?_
    rintro e' W ⟨G, cap, rfl, d', iv, fr⟩
    exact goal 1 _ _ i W d' (by omega) (by omega) (by omega) (fun _ _ => rfl) iv fr
  have none' : (c.early = true → ¬ g < E) → (∀ cnt W, Calls Tryz.prog 125 #[taskV c.id c.e c.p true R (g : Int) cnt, .int .i64 T, .bool c.early] W (RetG (.bool false) W)) → Calls Tryz.prog 41 #[pt c.z.x] w fun e' W => ∃ gg n cap, e' = .returned (.slice gg n cap) ∧ ∃ d' g', At W c d' P (T + 1) g' ∧ Fr c d w d' W ∧ n ≤ 1 ∧ g + n ≤ E ∧ (c.early = true → g < E → n = 1) ∧ g' = if (T + 1) % P = 0 then 0 else g + n := by
    intro hne C
    have fin0 := fin 0 (i + 1) (by omega) (by omega)
    rw [show (g : Int) + ((0 : Nat) : Int) = g by omega] at fin0
    refine (tick_none inv hf hrk (by omega) (by omega) (by omega) rel C fin0).mono ?_
    rintro e' W ⟨rfl, d', iv, fr⟩
    refine goal 0 _ _ (i + 1) W d' (by omega) (by omega) (by omega) (fun h1 h2 => absurd h2 (hne h1)) ?_ fr
    rw [show (g : Int) + ((0 : Nat) : Int) = g by omega]
    exact iv
  by_cases hgE : g < E
  · by_cases hearly : c.early = true
    · refine one hgE (fun cnt W => ?_)
      rw [hearly]
      exact Can125_early c.id c.e c.p R g cnt e1 ep (by omega) (by omega) (by omega) T (by omega) W
    · have hearly' : c.early = false := by simpa using hearly
      obtain ⟨b, hb⟩ := Can125_slow' c.id c.e c.p R g e1 ep (by omega) (by omega) (by omega) T (by omega)
      cases b with
      | true => exact one hgE (fun cnt W => by rw [hearly']; exact hb cnt W)
      | false => exact none' (fun h => absurd h hearly) (fun cnt W => by rw [hearly']; exact hb cnt W)
  · refine none' (fun _ => hgE) (fun cnt W => ?_)
    exact Can125_no c.id c.e c.p R g cnt e1 ep (by omega) (by omega) (by omega) T c.early W
end
section
attribute [local go_sem ↓] setCell_drewN alloc_drewN grow_cell grow_frozen setCell_grow grow_size cell_alloc_grow frozen_alloc_grow setCell_alloc_grow cell_grow_alloc_grow frozen_grow_alloc_grow setCell_grow_alloc_grow grow_grow
attribute [local go_sem] lt_len size_setCell
theorem taskMay15 (e p : Int) (w : World) : Calls Tryz.prog 15 #[.int .i64 e, .int .i64 p] w (RetG (.bool (decide (1 ≤ p ∧ p ≤ 1048575 ∧ 1 ≤ e ∧ e ≤ p))) w) := by
  by_cases h1 : p ≥ 1
  · have d1 : decide (p ≥ 1) = true := by simpa using h1
    by_cases h2 : p ≤ 1048575
    · have d2 : decide (p ≤ 1048575) = true := by simpa using h2
      by_cases h3 : e ≥ 1
      · have d3 : decide (e ≥ 1) = true := by simpa using h3
        have hd : decide (1 ≤ p ∧ p ≤ 1048575 ∧ 1 ≤ e ∧ e ≤ p) = decide (e ≤ p) := by
          apply decide_eq_decide.2
          constructor
          · rintro ⟨_, _, _, h⟩; exact h
          · intro h; exact ⟨h1, h2, h3, h⟩
        rw [hd]
        clear h1 h2 h3 hd
        go_enter Tryz.func15, Tryz.ntmps15
        go_wp2_with fail
        go_returns
        exact ⟨rfl, by repeat (first | exact gr_refl _ | apply gr_alloc | apply gr_grow | apply gr_drewN | apply gr_drew)⟩
      · have d3 : decide (e ≥ 1) = false := by simpa using h3
        have hd : decide (1 ≤ p ∧ p ≤ 1048575 ∧ 1 ≤ e ∧ e ≤ p) = false := by
          apply decide_eq_false
          rintro ⟨_, _, h, _⟩; exact h3 h
        rw [hd]
        clear h1 h2 h3 hd
        go_enter Tryz.func15, Tryz.ntmps15
        go_wp2_with fail
        go_returns
        exact ⟨rfl, by repeat (first | exact gr_refl _ | apply gr_alloc | apply gr_grow | apply gr_drewN | apply gr_drew)⟩
    · have d2 : decide (p ≤ 1048575) = false := by simpa using h2
      have hd : decide (1 ≤ p ∧ p ≤ 1048575 ∧ 1 ≤ e ∧ e ≤ p) = false := by
        apply decide_eq_false
        rintro ⟨_, h, _, _⟩; exact h2 h
      rw [hd]
      clear h1 h2 hd
      go_enter Tryz.func15, Tryz.ntmps15
      go_wp2_with fail
      go_returns
      exact ⟨rfl, by repeat (first | exact gr_refl _ | apply gr_alloc | apply gr_grow | apply gr_drewN | apply gr_drew)⟩
  · have d1 : decide (p ≥ 1) = false := by simpa using h1
    have hd : decide (1 ≤ p ∧ p ≤ 1048575 ∧ 1 ≤ e ∧ e ≤ p) = false := by
      apply decide_eq_false
      rintro ⟨h, _, _, _⟩; exact h1 h
    rw [hd]
    clear h1 hd
    go_enter Tryz.func15, Tryz.ntmps15
    go_wp2_with fail
    go_returns
    exact ⟨rfl, by repeat (first | exact gr_refl _ | apply gr_alloc | apply gr_grow | apply gr_drewN | apply gr_drew)⟩
theorem doJoin {w0 w : World} {c : Pm} {N I U F A B n : Nat} {v : Value} (h : NX w0 w c N I U F A B n v) (hn : n = 1 ∨ n = 2) (id : Int) (e p : Nat) (hi0 : 0 ≤ id) (hi1 : id ≤ 65535) (he : 1 ≤ e) (hep : e ≤ p) (hp : p ≤ 1048575) :
    Calls Tryz.prog 12 #[pt c.z.x, .agg #[.int .i64 1, .int .i64 id, .int .i64 (e : Int), .int .i64 (p : Int)]] w fun e' V => e' = .returned (.agg #[.int .i64 0, .int .i64 0, .slice none 0 0]) ∧
      ∃ rest, EX V { c with id := id, e := e, p := p } (d0 N rest) ∧ Kept (joinS c I U F A B v) w V ∧ ∃ s1 s2 : Int, V.heap[c.z.l]? = some (.cells #[.int .i64 1, .map (some A), .map (some B), .int .i64 s1, .int .i64 s2] 92 (0, 0)) := by
  have hid : (Lit.int .i64 id).wf = true := by
    have a1 : IntKind.i64.min = -9223372036854775808 := by decide
    have a2 : IntKind.i64.max = 9223372036854775807 := by decide
    simp [Lit.wf, a1, a2]
    omega
  refine Do12_join hi0 hi1 (fun W V => ∃ rest, EX V { c with id := id, e := e, p := p } (d0 N rest) ∧ Kept (joinS c I U F A B v) W V ∧ ∃ s1 s2 : Int, V.heap[c.z.l]? = some (.cells #[.int .i64 1, .map (some A), .map (some B), .int .i64 s1, .int .i64 s2] 92 (0, 0))) _ (t2 := 0) (fun W hk => join35 (h.kept0 hk) hn id e p hid he hep hp) ?_ ?_ (heap_lt h.hx)
  · rintro W V hk ⟨rest, ex, k, _⟩
    refine ⟨cell_of ex.hx 5, heap_lt ex.hx, fun b hb hb2 => k.2 b hb2 fun hin => ?_⟩
    have := (h.joinS_in hin).2
    omega
  · rintro W V S V' hk ⟨rest, ex, k, s1, s2, hl⟩ kS hS
    have out : ∀ b, b < w.heap.size → b ∉ S := fun b hb hin => by
      have := (hS b hin).1
      omega
    exact ⟨rest, ex.frame kS (fun b hb => out b (h.feet_in hb).2), Kept.trans (Kept.tr0 hk k) kS (fun x hx => hx) (fun x hx => Or.inr (hS x hx).1), s1, s2, kS.at hl (out _ (heap_lt h.hle))⟩
theorem At.kept0 {w : World} {c : Pm} {d : Dy} {P T g : Nat} (h : At w c d P T g) {W : World} (k : Kept [] w W) : At W c d P T g := by
  obtain ⟨⟨i, hi, inv⟩, g0⟩ := h
  exact ⟨⟨i, hi, inv.kept0 k⟩, g0⟩
theorem At.ex {w : World} {c : Pm} {d : Dy} {P T g : Nat} (h : At w c d P T g) : EX w c d := by
  obtain ⟨⟨i, hi, inv⟩, g0⟩ := h
  exact inv.ex
theorem At.frame {w : World} {c : Pm} {d : Dy} {P T g : Nat} (h : At w c d P T g) {S : List Nat} {W : World} (k : Kept S w W) (hd : ∀ b ∈ feet c d, b ∉ S) : At W c d P T g := by
  obtain ⟨⟨i, hi, inv⟩, g0⟩ := h
  exact ⟨⟨i, hi, ⟨inv.ex.frame k hd, inv.act, inv.rel, inv.got, inv.clk, inv.idle0, inv.idle1, inv.given, inv.cnt0, inv.cnt1, inv.jobs0, inv.jobs1, inv.k1⟩⟩, g0⟩
theorem At.clock {w : World} {c : Pm} {d : Dy} {P T g : Nat} (h : At w c d P T g) : w.cell? ⟨c.z.x, 5, none⟩ = some (.int .i64 T) := by
  obtain ⟨⟨i, hi, inv⟩, g0⟩ := h
  exact cell_of inv.x 5
theorem doTick {w : World} {c : Pm} {d : Dy} {E P T g : Nat} (hf : Fix c false) (hrk : c.rk = 0) (he : c.e = E) (hp : c.p = P) (h : At w c d P T g) (hg : g ≤ E) (hT : T ≤ 1000) :
    Calls Tryz.prog 12 #[pt c.z.x, .agg #[.int .i64 8, .int .i64 0, .int .i64 0, .int .i64 0]] w fun e' V => ∃ gg n cap, e' = .returned (.agg #[.int .i64 0, .int .i64 ((T + 1 : Nat) : Int), .slice gg n cap]) ∧
      ∃ d' g', At V c d' P (T + 1) g' ∧ Fr c d w d' V ∧ n ≤ 1 ∧ g + n ≤ E ∧ (c.early = true → g < E → n = 1) ∧ g' = if (T + 1) % P = 0 then 0 else g + n := by
  refine Do12_tick (t := T) (t2 := ((T + 1 : Nat) : Int)) (fun W n V => ∃ d' g', At V c d' P (T + 1) g' ∧ Fr c d W d' V ∧ n ≤ 1 ∧ g + n ≤ E ∧ (c.early = true → g < E → n = 1) ∧ g' = if (T + 1) % P = 0 then 0 else g + n) _ (fun W hk => tickE hf hrk he hp (h.kept0 hk) hg hT) ?_ ?_ h.clock (by omega) (heap_lt h.ex.hx)
  · rintro W n V hk ⟨d', g', a, f, _⟩
    refine ⟨a.clock, heap_lt a.ex.hx, fun b hb hb2 => f.k.2 b hb2 fun hin => ?_⟩
    have := h.ex.feet_lt hin
    omega
  · rintro W n V S V' hk ⟨d', g', a, f, h1, h2, h3, h4⟩ kS hS
    have hk' : Fr c d w d W := Fr.of hk (by simp) (Or.inl rfl) (fun g hg => Or.inl hg)
    have f2 := hk'.trans f
    refine ⟨d', g', a.frame kS (fun b hb hin => ?_), ⟨Kept.trans f2.k kS (fun x hx => hx) (fun x hx => Or.inr (hS x hx).1), f2.f⟩, h1, h2, h3, h4⟩
    rcases f.f b hb with h5 | h5
    · have := h.ex.feet_lt h5
      have := (hS b hin).1
      omega
    · have := (hS b hin).2
      omega
theorem At.first {w : World} {c : Pm} {N : Nat} {rest : List Value} {P : Nat} (h : EX w c (d0 N rest)) : At w c (d0 N rest) P 0 0 := by
  refine ⟨⟨0, by simp, ?_⟩, by simp⟩
  have h0 : (0 % P) = 0 := Nat.zero_mod P
  rw [h0]
  exact ⟨h, by simp [d0], by simp [d0], rfl, rfl, Int.le_refl _, by simp [d0], rfl, Int.le_refl _, by simp [d0], Int.le_refl _, by simp [d0], by simp [d0]⟩
theorem size_extract {A : Array Obj} {n : Nat} (h : n ≤ A.size) : (A.extract 0 n).size = n := by
  simp
  omega
/-- Whatever turns only what is older than an executive leaves it as it was. -/
theorem NX.rebase {w0 w W : World} {c : Pm} {N I U F A B n : Nat} {v : Value} (h : NX w0 w c N I U F A B n v) {S : List Nat} (k : Kept S w W) (hS : ∀ b ∈ S, b < w0.heap.size) (hn0 : 0 < n) : ∃ w1 : World, w1.heap.size = w0.heap.size ∧ NX w1 W c N I U F A B n v := by
  have hn := h.hS.new
  have hnew := h.new
  have hsz : w0.heap.size ≤ W.heap.size := Nat.le_trans h.hS.kept.1 k.1
  have hs1 : (W.heap.extract 0 w0.heap.size).size = w0.heap.size := size_extract hsz
  have out : ∀ b, w0.heap.size ≤ b → b ∉ S := fun b hb hin => by
    have := hS b hin
    omega
  have hnew' := hnew
  simp only [List.mem_cons, List.not_mem_nil, or_false, forall_eq_or_imp, forall_eq] at hnew'
  obtain ⟨n1, n2, n3, n4, n5, n6, n7, n8, n9, n10, n11, n12, n13, n14, n15, n16, n17, n18⟩ := hnew'
  obtain ⟨y, hy, hla⟩ := h.hla
  obtain ⟨m1, m2, m3, m4, hm⟩ := h.hm
  obtain ⟨r1, rc, r2, r3⟩ := h.hr
  refine ⟨{ W with heap := W.heap.extract 0 w0.heap.size }, hs1, k.at h.hx (out _ n1), ⟨k.at h.hS.hs (out _ hn.1), k.at h.hS.hI (out _ hn.2.1), k.at h.hS.hU (out _ hn.2.2.1), k.at h.hS.hM (out _ hn.2.2.2.1), k.at h.hS.hF (out _ hn.2.2.2.2), ?_, fun g hg => ?_, ⟨?_, fun b hb _ => ?_, rfl, rfl, rfl⟩, ?_, h.hS.apart⟩, k.at h.hj (out _ n2), k.at h.hL (out _ n3), h.hLv, h.hjv, fun id => (h.hQ id).kept k (out _ n4) (out _ n5) (out _ n12) (out _ n11), ⟨y, hy, k.at hla (out _ n6)⟩, k.at h.hb (out _ n7), ⟨m1, m2, m3, m4, k.at hm (out _ n10)⟩, k.at h.hl (out _ n14), k.at h.hw (out _ n13), ⟨k.at r1 (out _ n8), rc, k.at r2 (out _ n9), r3⟩, k.at h.hle (out _ n15), k.at h.hA (out _ n16), k.at h.hB (out _ n17), k.at h.hse (out _ n18), h.nd, h.cn, ?_⟩
  · rcases h.hS.row with h1 | h1
    · exact Or.inl h1
    · refine Or.inr (row_kept k h1 (fun g hg => ?_))
      refine out g ?_
      exact (h.hS.off g (by rw [own_sub h1 hn0, hg]; simp)).2.2.2.2.2
  · have := h.hS.off g hg
    refine ⟨this.1, this.2.1, this.2.2.1, this.2.2.2.1, this.2.2.2.2.1, ?_⟩
    show (W.heap.extract 0 w0.heap.size).size ≤ g
    rw [hs1]
    exact this.2.2.2.2.2
  · show (W.heap.extract 0 w0.heap.size).size ≤ W.heap.size
    rw [hs1]
    exact hsz
  · have hb' : b < w0.heap.size := by
      have : b < (W.heap.extract 0 w0.heap.size).size := hb
      omega
    show W.heap[b]? = (W.heap.extract 0 w0.heap.size)[b]?
    rw [Array.getElem?_extract]
    simp
    omega
  · show (W.heap.extract 0 w0.heap.size).size ≤ _ ∧ _
    rw [hs1]
    exact hn
  · intro b hb
    show (W.heap.extract 0 w0.heap.size).size ≤ b
    rw [hs1]
    exact hnew b hb
end
section
attribute [local go_sem ↓] setCell_drewN alloc_drewN grow_cell grow_frozen setCell_grow grow_size cell_alloc_grow frozen_alloc_grow setCell_alloc_grow cell_grow_alloc_grow frozen_grow_alloc_grow setCell_grow_alloc_grow grow_grow
attribute [local go_sem] lt_len size_setCell
theorem next_div {T P : Nat} (hP : 0 < P) : (T + 1) / P = if T % P + 1 = P then T / P + 1 else T / P := by
  have h := Nat.div_add_mod T P
  have hlt := Nat.mod_lt T hP
  have h1 : T + 1 = P * (T / P) + (T % P + 1) := by omega
  rw [h1, Nat.mul_add_div hP]
  split
  · next h2 => rw [h2, Nat.div_self hP]
  · next h2 => rw [Nat.div_eq_of_lt (show T % P + 1 < P by omega)]; rfl
theorem early_law {T P E A0 n gx g' : Nat} (hP : 0 < P) (hEP : E ≤ P) (hA : A0 = T / P * E + gx) (hg : gx = min E (T % P)) (h1 : n ≤ 1) (h2 : gx + n ≤ E) (h3 : gx < E → n = 1) (hg' : g' = if (T + 1) % P = 0 then 0 else gx + n) :
    A0 + n = (T + 1) / P * E + min E ((T + 1) % P) ∧ g' = min E ((T + 1) % P) := by
  have hlt := Nat.mod_lt T hP
  have nm := next_mod (T := T) hP
  have nd := next_div (T := T) hP
  by_cases hd : T % P + 1 = P
  · rw [if_pos hd] at nm nd
    rw [nm] at hg' ⊢
    rw [nd, Nat.add_mul]
    simp only [if_true] at hg'
    refine ⟨?_, by omega⟩
    have : gx + n = E := by omega
    omega
  · rw [if_neg hd] at nm nd
    rw [nm] at hg' ⊢
    rw [nd]
    rw [if_neg (by omega)] at hg'
    have : gx + n = min E (T % P + 1) := by omega
    omega
theorem pfair_law {T P E B0 n gy g' : Nat} (hP : 0 < P) (hB : B0 ≤ T / P * E + gy) (h2 : gy + n ≤ E) (hg' : g' = if (T + 1) % P = 0 then 0 else gy + n) :
    B0 + n ≤ (T + 1) / P * E + g' ∧ g' ≤ E := by
  have hlt := Nat.mod_lt T hP
  have nm := next_mod (T := T) hP
  have nd := next_div (T := T) hP
  by_cases hd : T % P + 1 = P
  · rw [if_pos hd] at nm nd
    rw [nm] at hg'
    rw [nd, Nat.add_mul]
    simp only [if_true] at hg'
    omega
  · rw [if_neg hd] at nm nd
    rw [nm] at hg'
    rw [nd]
    rw [if_neg (by omega)] at hg'
    omega
theorem field34_0 (a b : Int) (g : Option Addr) (n c : Nat) (W : World) : (Instr.field 34 (.agg #[.int .i64 a, .int .i64 b, .slice g n c]) 0).run Tryz.prog W = .ok (.int .i64 a) W := by kernel_rfl
theorem field34_2 (a b : Int) (g : Option Addr) (n c : Nat) (W : World) : (Instr.field 34 (.agg #[.int .i64 a, .int .i64 b, .slice g n c]) 2).run Tryz.prog W = .ok (.slice g n c) W := by kernel_rfl
set_option maxHeartbeats 4000000 in
set_option maxRecDepth 100000 in
theorem early7 (A : ∀ w, Calls Tryz.prog 8 #[] w fun e' W => e' = .returned (.bool true) ∧ Kept [] w W) (E P tk : Nat) (hE : 1 ≤ E) (hEP : E ≤ P) (hP : P ≤ 60) (htk : tk ≤ 255) (w : World) :
    Calls Tryz.prog 7 #[.int .i64 (E : Int), .int .i64 (P : Int), .int .u8 tk] w fun e' W => e' = .returned (.bool true) ∧ Kept [] w W := by
  have M := fun W => taskMay15 E P W
  have hd : decide (1 ≤ (P : Int) ∧ (P : Int) ≤ 1048575 ∧ 1 ≤ (E : Int) ∧ (E : Int) ≤ P) = true := by
    apply decide_eq_true
    omega
  rw [hd] at M
  have F0 := field34_0
  have F2 := field34_2
  have hp60 : decide ((P : Int) > 60) = false := by
    apply decide_eq_false
    omega
  replace hE := Lib.hid hE
  replace hEP := Lib.hid hEP
  replace hP := Lib.hid hP
  clear hd
  go_enter Tryz.func7, Tryz.ntmps7
  go_wp2_with fail
  refine (A w).mono ?_
  rintro e' w1 ⟨rfl, k1⟩
  replace k1 := Lib.hid k1
  go_wp2_with fail
  refine (M w1).mono ?_
  rintro e' w2 ⟨rfl, os2, q2, h2⟩
  have k2 := Lib.hid (Kept.tr k1.out (kept_grow h2))
  clear h2 k1 A M
  go_wp2_with fail
  refine (newEarly w2).mono ?_
  rintro e' w3 ⟨cx, Nx, Ix, Ux, Fx, Ax, Bx, vx, rfl, nx, x1, x2, x3, x4, x5⟩
  replace nx := Lib.hid nx
  replace x1 := Lib.hid (And.intro x1 (And.intro x2 (And.intro x3 (And.intro x4 x5))))
  clear x2 x3 x4 x5
  go_wp2_with fail
  refine (newPfair w3).mono ?_
  rintro e' w4 ⟨cy, Ny, Iy, Uy, Fy, Ay, By, vy, rfl, ny, y1, y2, y3, y4, y5⟩
  replace ny := Lib.hid ny
  replace y1 := Lib.hid (And.intro y1 (And.intro y2 (And.intro y3 (And.intro y4 y5))))
  clear y2 y3 y4 y5
  have J := doJoin (nx.out.kept0 ny.out.hS.kept) (Or.inl rfl) 0 E P (by omega) (by omega) hE.out hEP.out (by have := hP.out; omega)
  go_wp2_with fail
  refine J.mono ?_
  rintro e' w5 ⟨rfl, rx, ex, kx, _⟩
  have inx := fun b hb => (nx.out.kept0 ny.out.hS.kept).joinS_in (b := b) hb
  have hltx : ∀ b ∈ joinS cx Ix Ux Fx Ax Bx vx, b < w3.heap.size := fun b hb => (nx.out.joinS_in hb).2
  obtain ⟨wy, hwy, ny2⟩ := ny.out.rebase kx hltx (by omega)
  have J2 := doJoin ny2 (Or.inl rfl) 0 E P (by omega) (by omega) hE.out hEP.out (by have := hP.out; omega)
  have k5 := Lib.hid (And.intro ex kx)
  clear J ex kx
  replace ny2 := Lib.hid ny2
  replace hwy := Lib.hid hwy
  clear inx
  replace hltx := Lib.hid hltx
  go_wp2_with fail
  refine J2.mono ?_
  rintro e' w6 ⟨rfl, ry, ey, ky, _⟩
  obtain ⟨ex, kx⟩ := k5.out
  clear J2
  have fx : ∀ b ∈ feet { cx with id := 0, e := (E : Int), p := (P : Int) } (d0 Nx rx), w2.heap.size ≤ b ∧ b < w3.heap.size := fun b hb => nx.out.feet_in hb
  have fy : ∀ b ∈ feet { cy with id := 0, e := (E : Int), p := (P : Int) } (d0 Ny ry), w3.heap.size ≤ b := fun b hb => by
    have := (ny2.out.feet_in hb).1
    rw [hwy.out] at this
    exact this
  have jy : ∀ b ∈ joinS cy Iy Uy Fy Ay By vy, w3.heap.size ≤ b := fun b hb => by
    have := (ny2.out.joinS_in hb).1
    rw [hwy.out] at this
    exact this
  have ex6 := ex.frame ky (fun b hb hin => by
    have := (fx b hb).2
    have := jy b hin
    omega)
  have ap : Apart { cx with id := 0, e := (E : Int), p := (P : Int) } (d0 Nx rx) { cy with id := 0, e := (E : Int), p := (P : Int) } (d0 Ny ry) := fun b h1 h2 => by
    have := (fx b h1).2
    have := fy b h2
    omega
  have w23 := nx.out.hS.kept.1
  have w34 := ny.out.hS.kept.1
  have kk : Kept [] w w6 := by
    have a1 : Kept [] w w4 := Kept.tr (Kept.tr k2.out nx.out.hS.kept) ny.out.hS.kept
    have a2 := k2.out.1
    have a3 : Kept [] w w5 := Kept.trans a1 kx (by simp) (fun x hx => Or.inr (by have := (nx.out.joinS_in hx).1; omega))
    exact Kept.trans a3 ky (by simp) (fun x hx => Or.inr (by have := jy x hx; omega))
  have bx : ∀ b ∈ feet { cx with id := 0, e := (E : Int), p := (P : Int) } (d0 Nx rx), w.heap.size ≤ b := fun b hb => by
    have := (fx b hb).1
    have := k2.out.1
    omega
  have by' : ∀ b ∈ feet { cy with id := 0, e := (E : Int), p := (P : Int) } (d0 Ny ry), w.heap.size ≤ b := fun b hb => by
    have := fy b hb
    have := k2.out.1
    omega
  obtain ⟨x1, x2, x3, x4, x5⟩ := x1.out
  obtain ⟨y1, y2, y3, y4, y5⟩ := y1.out
  have hfx : Fix { cx with id := 0, e := (E : Int), p := (P : Int) } false := ⟨by rw [x2]; exact Or.inr (Or.inl ⟨rfl, rfl⟩), by show (1 : Int) ≤ (E : Int); have := hE.out; omega, by show (E : Int) ≤ (P : Int); have := hEP.out; omega, by show (P : Int) ≤ 1024; have := hP.out; omega⟩
  have hfy : Fix { cy with id := 0, e := (E : Int), p := (P : Int) } false := ⟨by rw [y2]; exact Or.inl ⟨rfl, rfl⟩, by show (1 : Int) ≤ (E : Int); have := hE.out; omega, by show (E : Int) ≤ (P : Int); have := hEP.out; omega, by show (P : Int) ≤ 1024; have := hP.out; omega⟩
  have atx := At.first (P := P) ex6
  have aty := At.first (P := P) ey
  obtain ⟨CX, hCX⟩ : ∃ CX : Pm, { cx with id := 0, e := (E : Int), p := (P : Int) } = CX := ⟨_, rfl⟩
  obtain ⟨CY, hCY⟩ : ∃ CY : Pm, { cy with id := 0, e := (E : Int), p := (P : Int) } = CY := ⟨_, rfl⟩
  have zx : cx.z = CX.z := by rw [← hCX]
  have zy : cy.z = CY.z := by rw [← hCY]
  have xr : CX.rk = 0 := by rw [← hCX]; exact x4
  have yr : CY.rk = 0 := by rw [← hCY]; exact y4
  have xe : CX.e = (E : Int) := by rw [← hCX]
  have ye : CY.e = (E : Int) := by rw [← hCY]
  have xp : CX.p = (P : Int) := by rw [← hCX]
  have yp : CY.p = (P : Int) := by rw [← hCY]
  have xa : CX.early = true := by rw [← hCX]; exact x5
  rw [hCX] at hfx atx ap bx
  rw [hCY] at hfy aty ap by'
  try rw [zx]
  try rw [zy]
  have st := Lib.hid (And.intro atx (And.intro aty (And.intro ap (And.intro kk (And.intro bx by')))))
  replace hfx := Lib.hid hfx
  replace hfy := Lib.hid hfy
  clear k2 nx ny hltx ny2 hwy k5 ey ky ex kx fx fy jy ex6 ap w23 w34 kk bx by' x1 x2 x3 x4 x5 y1 y2 y3 y4 y5 atx aty hCX hCY
  clear zx zy
  replace xr := Lib.hid (And.intro xr (And.intro yr (And.intro xe (And.intro ye (And.intro xp (And.intro yp xa))))))
  clear yr xe ye xp yp xa hp60
  go_wp2_with fail
  go_loopw [11, 12, 13] (fun a b ci wr => ∃ (T A0 B0 gx gy : Nat) (dx dy : Dy), T ≤ tk ∧ a = .int .i64 (A0 : Int) ∧ b = .int .i64 (B0 : Int) ∧ ci = .int .i64 (T : Int) ∧ A0 = T / P * E + gx ∧ gx = min E (T % P) ∧ gy ≤ E ∧ B0 ≤ T / P * E + gy ∧ At wr CX dx P T gx ∧ At wr CY dy P T gy ∧ Apart CX dx CY dy ∧ Kept [] w wr ∧ (∀ b ∈ feet CX dx, w.heap.size ≤ b) ∧ (∀ b ∈ feet CY dy, w.heap.size ≤ b)) (fun _ _ ci _ => tk - (iv ci).toNat)
  case atStart =>
    obtain ⟨atx, aty, ap, kk, bx, by'⟩ := st.out
    exact ⟨0, 0, 0, 0, 0, _, _, by omega, rfl, rfl, rfl, by simp, by simp, by omega, by omega, atx, aty, ap, kk, bx, by'⟩
  case round =>
    obtain ⟨T, A0, B0, gx, gy, dx, dy, hT, rfl, rfl, rfl, hA0, hgx, hgy, hB0, atx, aty, ap, kk, bx, by'⟩ := hrel
    clear st
    have hgxE : gx ≤ E := by omega
    have TX := doTick hfx.out xr.out.1 xr.out.2.2.1 xr.out.2.2.2.2.1 atx hgxE (by omega)
    replace hA0 := Lib.hid (And.intro hA0 (And.intro hgx (And.intro hgy (And.intro hB0 (And.intro hgxE hT)))))
    clear hgx hgy hB0 hgxE
    have st := Lib.hid (And.intro atx (And.intro aty (And.intro ap (And.intro kk (And.intro bx by')))))
    clear atx aty ap kk bx by'
    by_cases hlt : T < tk
    · have hc : decide ((T : Int) < (tk : Int)) = true := decide_eq_true (by omega)
      replace hlt := Lib.hid hlt
      clear hT
      go_wp2_with fail
      refine TX.mono ?_
      rintro e' W1 ⟨g1, n1, c1, rfl, dx', gx', atx', fx', hn1, hs1, he1, hg1⟩
      obtain ⟨atx, aty, ap, kk, bx, by'⟩ := st.out
      obtain ⟨hA1, hgx, hgy, hB0, hgxE, hTT⟩ := hA0.out
      have aty1 : At W1 CY dy P T gy := aty.frame fx'.k (ap.symm)
      have ap1 : Apart CX dx' CY dy := ap.step fx' aty.ex
      have TY := doTick hfy.out xr.out.2.1 xr.out.2.2.2.1 xr.out.2.2.2.2.2.1 aty1 hgy (by omega)
      have hw1 : IntKind.i64.wrap ((A0 : Int) + (n1 : Int)) = ((A0 + n1 : Nat) : Int) := by
        have := Nat.mul_le_mul (Nat.div_le_self T P) (Nat.le_trans hEP.out hP.out)
        have := hP.out
        have := hEP.out
        rw [IntWalk.i64_in _ (by omega)]
        omega
      have kk1 : Kept [] w W1 := Kept.trans kk fx'.k (by simp) (fun x hx => Or.inr (bx x hx))
      have bx1 : ∀ b ∈ feet CX dx', w.heap.size ≤ b := fun b hb => by
        rcases fx'.f b hb with h | h
        · exact bx b h
        · have := kk.1
          omega
      replace st := Lib.hid (And.intro atx' (And.intro aty1 (And.intro ap1 (And.intro kk1 (And.intro bx1 by')))))
      replace he1 := Lib.hid (And.intro hn1 (And.intro hs1 (And.intro he1 hg1)))
      clear TX atx aty ap kk bx by' hA1 hgx hgy hB0 hgxE hTT aty1 ap1 kk1 bx1 atx' fx' hn1 hs1 hg1 hc
      go_wp2_with fail
      refine TY.mono ?_
      rintro e' W2 ⟨g2, n2, c2, rfl, dy', gy', aty', fy', hn2, hs2, he2, hg2⟩
      obtain ⟨atx, aty, ap, kk, bx, by'⟩ := st.out
      obtain ⟨hA1, hgx, hgy, hB0, hgxE, hTT⟩ := hA0.out
      have atx2 : At W2 CX dx' P (T + 1) gx' := atx.frame fy'.k ap
      have ap2 : Apart CX dx' CY dy' := (ap.symm.step fy' atx.ex).symm
      have kk2 : Kept [] w W2 := Kept.trans kk fy'.k (by simp) (fun x hx => Or.inr (by' x hx))
      have by2 : ∀ b ∈ feet CY dy', w.heap.size ≤ b := fun b hb => by
        rcases fy'.f b hb with h | h
        · exact by' b h
        · have := kk.1
          omega
      have hw2 : IntKind.i64.wrap ((B0 : Int) + (n2 : Int)) = ((B0 + n2 : Nat) : Int) := by
        have := Nat.mul_le_mul (Nat.div_le_self T P) (Nat.le_trans hEP.out hP.out)
        have := hP.out
        have := hEP.out
        rw [IntWalk.i64_in _ (by omega)]
        omega
      have hw3 : IntKind.i64.wrap ((T : Int) + 1) = ((T + 1 : Nat) : Int) := by
        rw [IntWalk.i64_in _ (by omega)]
        omega
      obtain ⟨hn1, hs1, hh1, hg1⟩ := he1.out
      have hP0 : 0 < P := by have := hE.out; have := hEP.out; omega
      obtain ⟨LA, LG⟩ := early_law hP0 hEP.out hA1 hgx hn1 hs1 (hh1 xr.out.2.2.2.2.2.2) hg1
      obtain ⟨LB, LH⟩ := pfair_law hP0 hB0 hs2 hg2
      have hgy2 : gy' ≤ (T + 1) % P := aty'.g0
      have bQ := Nat.div_le_self (T + 1) P
      have bM := Nat.mul_le_mul bQ (Nat.le_trans hEP.out hP.out)
      have bR := Nat.mod_lt (T + 1) hP0
      have hABn : ¬ ((A0 : Int) + (n1 : Int) < (B0 : Int) + (n2 : Int)) := by
        clear hw1 hw2 hw3
        omega
      have hAB : decide ((A0 : Int) + (n1 : Int) < (B0 : Int) + (n2 : Int)) = false := decide_eq_false hABn
      clear hABn
      have hE60 : E ≤ 60 := Nat.le_trans hEP.out hP.out
      have hq : wrap64 (((T : Int) + 1).tdiv (P : Int)) = (((T + 1) / P : Nat) : Int) := by
        have e1 : ((T : Int) + 1).tdiv (P : Int) = (((T + 1) / P : Nat) : Int) := by
          rw [Int.tdiv_eq_ediv_of_nonneg (by omega)]
          norm_cast
        rw [e1]
        clear e1
        generalize (T + 1) / P = Q at bQ ⊢
        unfold wrap64
        omega
      have hr : ((T : Int) + 1).tmod (P : Int) = (((T + 1) % P : Nat) : Int) := by
        rw [Int.tmod_eq_emod_of_nonneg (by omega)]
        norm_cast
      obtain ⟨Q0, hQ0⟩ : ∃ Q0, (T + 1) / P = Q0 := ⟨_, rfl⟩
      obtain ⟨R0, hR0⟩ : ∃ R0, (T + 1) % P = R0 := ⟨_, rfl⟩
      rw [hQ0] at hq LA LB bQ bM
      rw [hR0] at hr LA LG hgy2 bR
      have hm : IntKind.i64.wrap ((Q0 : Int) * (E : Int)) = ((Q0 * E : Nat) : Int) := by
        rw [IntWalk.i64_in _ (by rw [← Int.natCast_mul]; omega)]
        norm_cast
      obtain ⟨M0, hM0⟩ : ∃ M0, Q0 * E = M0 := ⟨_, rfl⟩
      rw [hM0] at hm LA LB bM
      have hm2 : wrap64 (((T : Int) + 1) / (P : Int) * (E : Int)) = (M0 : Int) := by
        have e1 : ((T : Int) + 1) / (P : Int) * (E : Int) = (M0 : Int) := by
          rw [← hM0, ← hQ0]
          norm_cast
        rw [e1]
        clear hw1 hw2 hw3 hq hr hm hAB e1
        unfold wrap64
        omega
      have hs5 : wrap64 ((M0 : Int) + if R0 < E then (R0 : Int) else (E : Int)) = (A0 : Int) + (n1 : Int) := by
        clear hw1 hw2 hw3 hq hr hm hm2 hAB
        unfold wrap64
        split <;> omega
      have hPz : ¬ P = 0 := by omega
      replace LA := Lib.hid (And.intro LA (And.intro LG (And.intro LB (And.intro LH (And.intro hgy2 (And.intro hQ0 (And.intro hR0 (And.intro hM0 bR))))))))
      replace st := Lib.hid (And.intro atx2 (And.intro aty' (And.intro ap2 (And.intro kk2 (And.intro bx by2)))))
      replace he2 := Lib.hid (And.intro hn2 (And.intro hs2 (And.intro he2 hg2)))
      clear TY atx aty ap kk bx by' hA1 hgx hgy hB0 hgxE hTT atx2 ap2 kk2 by2 aty' fy' hn2 hs2 hg2 hn1 hs1 hh1 hg1 hP0 LG LB LH hgy2 bQ bM bR hQ0 hR0 hM0 hE60
      go_wp2_with fail
      go_roundw
      case rel =>
        obtain ⟨a1, a2, a3, a4, a5, a6⟩ := st.out
        obtain ⟨b1, b2, b3, b4, b5, b6, b7, b8, b9⟩ := LA.out
        refine ⟨T + 1, A0 + n1, B0 + n2, gx', gy', dx', dy', by have := hlt.out; omega, by simp, by simp, by simp, ?_, ?_, b4, ?_, a1, a2, a3, a4, a5, a6⟩
        · rw [b6, b8, b2]; exact b1
        · rw [b7]; exact b2
        · rw [b6, b8]; exact b3
      case measure =>
        have := hlt.out
        simp [iv]
        omega
    · have hc : decide ((T : Int) < (tk : Int)) = false := decide_eq_false (by omega)
      replace hlt := Lib.hid hlt
      clear hT TX
      go_wp2_with fail
      go_returns
      exact ⟨rfl, st.out.2.2.2.1⟩
end
end Go.Proofs.YtgfbfklnhmndfaaGreat
