/- A number in so many bytes, behind bytes of the call's own: what else stays. -/
import Derived.Test.YtbanlnacoidccaaW14
import Derived.Maps.AppendAt
namespace Go.Proofs.Ytbanlnacoidccaa
open Go.RowKit
set_option linter.unusedSimpArgs false
set_option linter.unusedVariables false

/-- From w to w' nothing was changed but the own block of v; the own block of v' is that one, or a new one. -/
structure Gr (w : World) (v : Value) (w' : World) (v' : Value) : Prop where
  os : w'.os = w.os
  tape : w'.tape = w.tape
  output : w'.output = w.output
  size : w.heap.size ≤ w'.heap.size
  block : ∀ k, k < w.heap.size → v.ownBlock ≠ some k → w'.heap[k]? = w.heap[k]?
  own : v'.ownBlock = v.ownBlock ∨ ∀ k, v'.ownBlock = some k → w.heap.size ≤ k

theorem Gr.refl (w : World) (v : Value) : Gr w v w v := ⟨rfl, rfl, rfl, Nat.le_refl _, fun _ _ _ => rfl, Or.inl rfl⟩

theorem Gr.notown {w w1 : World} {v v1 : Value} (h : Gr w v w1 v1) {k : Nat} (hk : k < w.heap.size) (hv : v.ownBlock ≠ some k) : v1.ownBlock ≠ some k := by
  intro e
  rcases h.own with h1 | h1
  · exact hv (h1 ▸ e)
  · have := h1 k e
    omega

theorem Gr.trans {w w1 w2 : World} {v v1 v2 : Value} (h : Gr w v w1 v1) (k : Gr w1 v1 w2 v2) : Gr w v w2 v2 :=
  ⟨k.os.trans h.os, k.tape.trans h.tape, k.output.trans h.output, Nat.le_trans h.size k.size,
    fun i hi hv => (k.block i (Nat.lt_of_lt_of_le hi h.size) (h.notown hi hv)).trans (h.block i hi hv),
    by
      rcases k.own with h1 | h1
      · rw [h1]; exact h.own
      · exact Or.inr fun i hi => Nat.le_trans h.size (h1 i hi)⟩

theorem Gr.alloc {w w1 : World} {v v1 : Value} (h : Gr w v w1 v1) (o : Obj) : Gr w v (w1.alloc o) v1 :=
  ⟨h.os, h.tape, h.output, by have := h.size; simp; omega, fun i hi hv => by
    have h1 := h.size
    rw [← h.block i hi hv]
    exact ((Below.refl w1.heap.size w1).alloc (Nat.le_refl _) o).block i (by omega), h.own⟩

theorem Gr.drewN {w w1 : World} {v v1 : Value} (h : Gr w v w1 v1) (q : Nat) : Gr w v (w1.drewN q) v1 := ⟨h.os, h.tape, h.output, h.size, h.block, h.own⟩

theorem Gr.step {w wr w3 : World} {v u v' : Value} (h : Gr w v wr u) (o : Obj) (hg : (wr.alloc o).grownBy w3 u.ownBlock) (ha : v'.ownBlock = u.ownBlock ∨ v'.ownBlock = some (wr.heap.size + 1)) : Gr w v w3 v' := by
  have h1 := h.alloc o
  refine h1.trans ⟨hg.os, hg.tape, hg.output, hg.size, fun k hk hn => hg.block k hk (fun e => hn e.symm), ?_⟩
  rcases ha with ha | ha
  · exact Or.inl ha
  · exact Or.inr fun k hk => by rw [ha] at hk; injection hk with e; simp; omega

theorem Gr.below {w w' : World} {v v' : Value} {base : Nat} {xs : List Int} (h : Gr w v w' v') (hO : OB w base v xs) (hb : base ≤ w.heap.size) : Below base w w' :=
  ⟨h.os, h.tape, h.output, h.size, fun k hk => h.block k (by omega) (fun e => by have := ownBlock_ge hO e; omega)⟩

theorem Gr.cell {w w' : World} {v v' : Value} (h : Gr w v w' v') {p : Addr} (hp : p.block < w.heap.size) (hv : v.ownBlock ≠ some p.block) : w'.cell? p = w.cell? p :=
  World.cell?_of_block (w := w) (h.block p.block hp hv)

/-- What a call that puts bytes behind bytes hands back. -/
def PutG (base : Nat) (v : Value) (ys : List Int) (w : World) (e : Ending) (w' : World) : Prop := ∃ v', e = .returned v' ∧ OB w' base v' ys ∧ Gr w v w' v'

theorem put20G (base : Nat) (v : Value) (xs : List Int) (n : Int) (k : Nat) (w : World) (h0 : 0 ≤ n) (h1 : n < 18446744073709551616) (hk : k ≤ 8) (hl : xs.length ≤ 1000000000000) (hown : OB w base v xs) (hbase : base ≤ w.heap.size) :
    Calls Try.prog 20 #[v, .int .u64 n, .int .i64 k] w (PutG base v (xs ++ be n k) w) := by
  obtain ⟨i0, hi, hz0, hz1, hz2⟩ := info_parts info5
  go_enter Try.func20, Try.ntmps20
  go_wp2_with fail
  go_loopw [0, 7] (fun u i wr => ∃ m : Nat, m ≤ k ∧ i = .int .i64 ((m : Int) - 1) ∧ ∃ ys, OB wr base u ys ∧ ys ++ be n m = xs ++ be n k ∧ Gr w v wr u) (fun _ i _ => (intOf i + 1).toNat)
  case atStart => exact ⟨k, by omega, rfl, xs, hown, rfl, Gr.refl _ _⟩
  case round =>
    obtain ⟨m, hm, rfl, ys, hown, hys, hB⟩ := hrel
    have HYS := Lib.hid hys
    clear hys
    by_cases hm0 : 0 < m
    · have hd : decide (1 ≤ (m : Int)) = true := by simp; omega
      have hmi : (1 : Int) ≤ m := by omega
      have hyl : ys.length ≤ 1000000000008 := by
        have h := congrArg List.length HYS.out
        simp only [List.length_append, be_len] at h
        omega
      have hsz := hB.size
      go_wp2_with (at_builtin; refine Go.wpList_append_own_at _ rfl _ _ 24 rfl base 5 i0 _ 1 1 Try.underlying24 hi hz0 hz1 hz2 rfl (by decide) _ _ _ rfl (hown.alloc _) ⟨wr.heap.size, 0, none⟩ 1 1 [.int .u8 (n / 2 ^ (8 * (m - 1)) % 256)] rfl rfl ?c1 ?c2 ?c3 ?c4 ?c5 ?_)
      case c1 => exact cell_one_new _ _ _
      case c2 => intro u hu; simp at hu; subst hu; rfl
      case c3 => unfold maxLen; omega
      case c4 => omega
      case c5 => simp; omega
      intro v' w3 hown3 hgrow _ hat
      have HB3 : Gr w v w3 v' := hB.step _ hgrow hat
      have hO3 : OB w3 base v' (ys ++ [n / 2 ^ (8 * (m - 1)) % 256]) := by
        unfold OB bv
        rw [List.map_append, List.length_append]
        exact hown3
      clear hgrow hown hB hown3 hat
      go_wp2_with fail
      go_roundw
      case rel => exact ⟨m - 1, by omega, by rw [show ((m - 1 : Nat) : Int) = (m : Int) - 1 by omega], _, hO3, by
        rw [← HYS.out, List.append_assoc, be_cons n m hm0]; rfl, HB3⟩
      case measure => simp [intOf]; omega
    · have hm0' : m = 0 := by omega
      have hd : decide (1 ≤ (m : Int)) = false := by simp; omega
      have hmi : (m : Int) < 1 := by omega
      go_wp2_with fail
      go_returns
      have e := HYS.out
      rw [hm0'] at e
      exact ⟨_, rfl, by rw [← e]; simpa [be] using hown, hB⟩

theorem put21G (base : Nat) (v : Value) (xs : List Int) (n : Int) (k : Nat) (w : World) (h0 : 0 ≤ n) (h1 : n < 18446744073709551616) (hk : k ≤ 8) (hl : xs.length ≤ 1000000000000) (hown : OB w base v xs) (hbase : base ≤ w.heap.size) :
    Calls Try.prog 21 #[v, .int .u64 n, .int .i64 k] w (PutG base v (xs ++ be n k) w) := by
  obtain ⟨i0, hi, hz0, hz1, hz2⟩ := info_parts info5
  go_enter Try.func21, Try.ntmps21
  go_wp2_with fail
  go_loopw [0, 7] (fun u i wr => ∃ m : Nat, m ≤ k ∧ i = .int .i64 ((m : Int) - 1) ∧ ∃ ys, OB wr base u ys ∧ ys ++ be n m = xs ++ be n k ∧ Gr w v wr u) (fun _ i _ => (intOf i + 1).toNat)
  case atStart => exact ⟨k, by omega, rfl, xs, hown, rfl, Gr.refl _ _⟩
  case round =>
    obtain ⟨m, hm, rfl, ys, hown, hys, hB⟩ := hrel
    have HYS := Lib.hid hys
    clear hys
    by_cases hm0 : 0 < m
    · have hd : decide (1 ≤ (m : Int)) = true := by simp; omega
      have hmi : (1 : Int) ≤ m := by omega
      have hyl : ys.length ≤ 1000000000008 := by
        have h := congrArg List.length HYS.out
        simp only [List.length_append, be_len] at h
        omega
      have hsz := hB.size
      go_wp2_with (at_builtin; refine Go.wpList_append_own_at _ rfl _ _ 24 rfl base 5 i0 _ 1 1 Try.underlying24 hi hz0 hz1 hz2 rfl (by decide) _ _ _ rfl (hown.alloc _) ⟨wr.heap.size, 0, none⟩ 1 1 [.int .u8 (n / 2 ^ (8 * (m - 1)) % 256)] rfl rfl ?c1 ?c2 ?c3 ?c4 ?c5 ?_)
      case c1 => exact cell_one_new _ _ _
      case c2 => intro u hu; simp at hu; subst hu; rfl
      case c3 => unfold maxLen; omega
      case c4 => omega
      case c5 => simp; omega
      intro v' w3 hown3 hgrow _ hat
      have HB3 : Gr w v w3 v' := hB.step _ hgrow hat
      have hO3 : OB w3 base v' (ys ++ [n / 2 ^ (8 * (m - 1)) % 256]) := by
        unfold OB bv
        rw [List.map_append, List.length_append]
        exact hown3
      clear hgrow hown hB hown3 hat
      go_wp2_with fail
      go_roundw
      case rel => exact ⟨m - 1, by omega, by rw [show ((m - 1 : Nat) : Int) = (m : Int) - 1 by omega], _, hO3, by
        rw [← HYS.out, List.append_assoc, be_cons n m hm0]; rfl, HB3⟩
      case measure => simp [intOf]; omega
    · have hm0' : m = 0 := by omega
      have hd : decide (1 ≤ (m : Int)) = false := by simp; omega
      have hmi : (m : Int) < 1 := by omega
      go_wp2_with fail
      go_returns
      have e := HYS.out
      rw [hm0'] at e
      exact ⟨_, rfl, by rw [← e]; simpa [be] using hown, hB⟩

end Go.Proofs.Ytbanlnacoidccaa
