/- Bytes that a call owns; a number in so many bytes. -/
import Derived.Test.YtbanlnacoidccaaW1
namespace Go.Proofs.Ytbanlnacoidccaa
open Go.RowKit
set_option linter.unusedSimpArgs false
set_option linter.unusedVariables false

def bv (xs : List Int) : List Value := xs.map (Value.int .u8)
/-- v is a slice of bytes of the call's own (in blocks from base on) that holds xs. -/
def OB (w : World) (base : Nat) (v : Value) (xs : List Int) : Prop := w.ownsRow base 5 1 v xs.length (bv xs)

theorem info5 : (Try.prog.info? 5).map (fun i => (i.zero, i.size, i.bytes)) = some (some (.int .u8 0), 1, 1) := by kernel_rfl

theorem cell_alloc_new (w : World) (cs : Array Value) (t : TypeId) (j : Nat) : (w.alloc (.cells cs t)).cell? ⟨w.heap.size, j, none⟩ = cs[j]? := by
  have h : (w.alloc (.cells cs t)).heap[w.heap.size]? = some (.cells cs t) := (MapKept.heap_alloc w _).1
  unfold World.cell?
  simp only [h]
  rfl

theorem cell_one_new (w : World) (x : Value) (t : TypeId) (j : Nat) (u : Value) (h : [x][j]? = some u) : (w.alloc (.cells #[x] t)).cell? ((⟨w.heap.size, 0, none⟩ : Addr).add j) = some u := by
  have ea : (⟨w.heap.size, 0, none⟩ : Addr).add j = ⟨w.heap.size, j, none⟩ := by unfold Addr.add; split <;> simp_all
  rw [ea, cell_alloc_new]
  simpa using h

theorem ownBlock_ge {w : World} {base : Nat} {e : TypeId} {size : Nat} {v : Value} {n : Nat} {xs : List Value} (h : w.ownsRow base e size v n xs) {k : Nat} (hk : v.ownBlock = some k) : base ≤ k := by
  obtain ⟨h1, h2⟩ := h
  rcases h2 with ⟨rfl, _⟩ | ⟨g, cap, cur, rfl, hg, hh, r⟩
  · simp [Value.ownBlock] at hk
  · simp [Value.ownBlock] at hk
    omega

/-- A number in k bytes, the highest first. -/
def be (n : Int) : Nat → List Int
  | 0 => []
  | k + 1 => (n / 2 ^ (8 * k) % 256) :: be n k

theorem be_len (n : Int) (k : Nat) : (be n k).length = k := by
  induction k with
  | zero => rfl
  | succ k ih => simp [be, ih]

theorem be_cons (n : Int) (m : Nat) (h : 0 < m) : be n m = (n / 2 ^ (8 * (m - 1)) % 256) :: be n (m - 1) := by
  obtain ⟨k, rfl⟩ : ∃ k, m = k + 1 := ⟨m - 1, by omega⟩
  rfl

/-- What a call that puts bytes behind bytes hands back. -/
def PutB (base : Nat) (ys : List Int) (w : World) (e : Ending) (w' : World) : Prop := ∃ v, e = .returned v ∧ OB w' base v ys ∧ Below base w w'

theorem put20 (base : Nat) (v : Value) (xs : List Int) (n : Int) (k : Nat) (w : World) (h0 : 0 ≤ n) (h1 : n < 18446744073709551616) (hk : k ≤ 8) (hl : xs.length ≤ 1000000000000) (hown : OB w base v xs) (hbase : base ≤ w.heap.size) :
    Calls Try.prog 20 #[v, .int .u64 n, .int .i64 k] w (PutB base (xs ++ be n k) w) := by
  obtain ⟨i0, hi, hz0, hz1, hz2⟩ := info_parts info5
  go_enter Try.func20, Try.ntmps20
  go_wp2_with fail
  go_loopw [0, 7] (fun u i wr => ∃ m : Nat, m ≤ k ∧ i = .int .i64 ((m : Int) - 1) ∧ ∃ ys, OB wr base u ys ∧ ys ++ be n m = xs ++ be n k ∧ Below base w wr) (fun _ i _ => (intOf i + 1).toNat)
  case atStart => exact ⟨k, by omega, rfl, xs, hown, rfl, Below.refl _ _⟩
  case round =>
    obtain ⟨m, hm, rfl, ys, hown, hys, hB⟩ := hrel
    have HYS := Lib.hid hys
    clear hys
    by_cases hm0 : 0 < m
    · have hd : decide (1 ≤ (m : Int)) = true := by simp; omega
      have hmi : (1 : Int) ≤ m := by omega
      have hyl : ys.length ≤ 1000000000008 := by
        have h := congrArg List.length HYS.out
        simp only [List.length_append, be_len] at h
        omega
      have hsz := hB.size
      go_wp2_with (at_builtin; refine wpList_append_own _ rfl _ _ 24 rfl base 5 i0 _ 1 1 Try.underlying24 hi hz0 hz1 hz2 rfl (by decide) _ _ _ rfl (hown.alloc _) ⟨wr.heap.size, 0, none⟩ 1 1 [.int .u8 (n / 2 ^ (8 * (m - 1)) % 256)] rfl rfl ?c1 ?c2 ?c3 ?c4 ?c5 ?_)
      case c1 => exact cell_one_new _ _ _
      case c2 => intro u hu; simp at hu; subst hu; rfl
      case c3 => unfold maxLen; omega
      case c4 => omega
      case c5 => simp; omega
      intro v' w3 hown3 hgrow _
      have HB3 : Below base w w3 := (hB.alloc (by omega) _).grown hgrow (by simp; omega) (fun j hj => ownBlock_ge hown hj)
      have hO3 : OB w3 base v' (ys ++ [n / 2 ^ (8 * (m - 1)) % 256]) := by
        unfold OB bv
        rw [List.map_append, List.length_append]
        exact hown3
      clear hgrow hown hB hown3
      go_wp2_with fail
      go_roundw
      case rel => exact ⟨m - 1, by omega, by rw [show ((m - 1 : Nat) : Int) = (m : Int) - 1 by omega], _, hO3, by
        rw [← HYS.out, List.append_assoc, be_cons n m hm0]; rfl, HB3⟩
      case measure => simp [intOf]; omega
    · have hm0' : m = 0 := by omega
      have hd : decide (1 ≤ (m : Int)) = false := by simp; omega
      have hmi : (m : Int) < 1 := by omega
      go_wp2_with fail
      go_returns
      have e := HYS.out
      rw [hm0'] at e
      exact ⟨_, rfl, by rw [← e]; simpa [be] using hown, hB⟩

theorem put21 (base : Nat) (v : Value) (xs : List Int) (n : Int) (k : Nat) (w : World) (h0 : 0 ≤ n) (h1 : n < 18446744073709551616) (hk : k ≤ 8) (hl : xs.length ≤ 1000000000000) (hown : OB w base v xs) (hbase : base ≤ w.heap.size) :
    Calls Try.prog 21 #[v, .int .u64 n, .int .i64 k] w (PutB base (xs ++ be n k) w) := by
  obtain ⟨i0, hi, hz0, hz1, hz2⟩ := info_parts info5
  go_enter Try.func21, Try.ntmps21
  go_wp2_with fail
  go_loopw [0, 7] (fun u i wr => ∃ m : Nat, m ≤ k ∧ i = .int .i64 ((m : Int) - 1) ∧ ∃ ys, OB wr base u ys ∧ ys ++ be n m = xs ++ be n k ∧ Below base w wr) (fun _ i _ => (intOf i + 1).toNat)
  case atStart => exact ⟨k, by omega, rfl, xs, hown, rfl, Below.refl _ _⟩
  case round =>
    obtain ⟨m, hm, rfl, ys, hown, hys, hB⟩ := hrel
    have HYS := Lib.hid hys
    clear hys
    by_cases hm0 : 0 < m
    · have hd : decide (1 ≤ (m : Int)) = true := by simp; omega
      have hmi : (1 : Int) ≤ m := by omega
      have hyl : ys.length ≤ 1000000000008 := by
        have h := congrArg List.length HYS.out
        simp only [List.length_append, be_len] at h
        omega
      have hsz := hB.size
      go_wp2_with (at_builtin; refine wpList_append_own _ rfl _ _ 24 rfl base 5 i0 _ 1 1 Try.underlying24 hi hz0 hz1 hz2 rfl (by decide) _ _ _ rfl (hown.alloc _) ⟨wr.heap.size, 0, none⟩ 1 1 [.int .u8 (n / 2 ^ (8 * (m - 1)) % 256)] rfl rfl ?c1 ?c2 ?c3 ?c4 ?c5 ?_)
      case c1 => exact cell_one_new _ _ _
      case c2 => intro u hu; simp at hu; subst hu; rfl
      case c3 => unfold maxLen; omega
      case c4 => omega
      case c5 => simp; omega
      intro v' w3 hown3 hgrow _
      have HB3 : Below base w w3 := (hB.alloc (by omega) _).grown hgrow (by simp; omega) (fun j hj => ownBlock_ge hown hj)
      have hO3 : OB w3 base v' (ys ++ [n / 2 ^ (8 * (m - 1)) % 256]) := by
        unfold OB bv
        rw [List.map_append, List.length_append]
        exact hown3
      clear hgrow hown hB hown3
      go_wp2_with fail
      go_roundw
      case rel => exact ⟨m - 1, by omega, by rw [show ((m - 1 : Nat) : Int) = (m : Int) - 1 by omega], _, hO3, by
        rw [← HYS.out, List.append_assoc, be_cons n m hm0]; rfl, HB3⟩
      case measure => simp [intOf]; omega
    · have hm0' : m = 0 := by omega
      have hd : decide (1 ≤ (m : Int)) = false := by simp; omega
      have hmi : (m : Int) < 1 := by omega
      go_wp2_with fail
      go_returns
      have e := HYS.out
      rw [hm0'] at e
      exact ⟨_, rfl, by rw [← e]; simpa [be] using hown, hB⟩
end Go.Proofs.Ytbanlnacoidccaa
