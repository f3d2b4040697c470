/- The document's example of the wire; a command cut. -/
import Derived.Test.YtbanlnacoidccaaW10
import Derived.Test.YtbanlnacoidccaaL
import Derived.OpenShut
namespace Go.Proofs.Ytbanlnacoidccaa
open Go.RowKit
set_option linter.unusedSimpArgs false
set_option linter.unusedVariables false

theorem Sl_new (w : World) (xs : List Int) (n k : Nat) (cs : Array Value) (hk : w.heap.size = k) (hc : cs = (bv xs).toArray) (hn : xs.length = n) (hm : n ≤ 9223372036854775807) (h : AllB xs) : Sl (w.alloc (.cells cs 5)) (some ⟨k, 0, none⟩) n n xs := by
  subst hk hc hn
  refine ⟨rfl, Nat.le_refl _, hm, h, fun h0 => ⟨_, _, rfl, by simp, fun i hi => ⟨?_, h i hi⟩⟩⟩
  rw [Nat.zero_add, cell_alloc_new]
  simp [bv, List.getElem?_eq_getElem hi, List.getD_eq_getElem?_getD]

theorem read_e {w : World} {A : Option Addr} {len cap : Nat} {xs : List Int} (op id e p n : Int) (h : Sl w A len cap xs) (hg : good xs = true) (h1 : rdOp xs = op) (h2 : rdID xs = id) (h3 : rdE xs = e) (h4 : rdP xs = p) (h5 : (csize (rdOp xs) : Int) = n) :
    Calls Try.prog 13 #[.slice A len cap] w (ReadPost op id e p n 0 w) := by
  subst h5 h1 h2 h3 h4
  exact read_yes h hg

theorem bytes_e (op id e p : Int) (ys : List Int) (w : World) (h : valid op id e p = true) (hy : enc op id e p = ys) :
    Calls Try.prog 11 #[.agg #[.int .i64 op, .int .i64 id, .int .i64 e, .int .i64 p]] w (BytesPost ys (.int .i64 0) w) := by
  subst hy
  exact bytes_yes op id e p w h

theorem conv_e {w : World} {A : Option Addr} {len cap : Nat} {xs : List Int} {S : ByteArray} (h : Sl w A len cap xs) (hs : strOf xs = S) : (convert 24 9 (.slice A len cap)).run Try.prog w = .ok (.string S) w := by
  subst hs
  exact conv_sl h

theorem eqCmd (d : Nat) (a0 a1 a2 a3 : Int) (w : World) :
    (Op.equalIn (d + 2) 23 (.agg #[.int .i64 a0, .int .i64 a1, .int .i64 a2, .int .i64 a3]) (.agg #[.int .i64 a0, .int .i64 a1, .int .i64 a2, .int .i64 a3])).run Try.prog w = .ok true w := by
  rw [run_equalIn_struct w (d + 1) 23 _ _ (by kernel_rfl) (by kernel_rfl)]
  simp [go_sem, Try.underlying23]
theorem eqC (a0 a1 a2 a3 : Int) (w : World) :
    (Op.equalIn 10000 23 (.agg #[.int .i64 a0, .int .i64 a1, .int .i64 a2, .int .i64 a3]) (.agg #[.int .i64 a0, .int .i64 a1, .int .i64 a2, .int .i64 a3])).run Try.prog w = .ok true w := eqCmd 9998 a0 a1 a2 a3 w

set_option maxHeartbeats 800000 in
theorem awake_any (w : World) : Calls Try.prog 10 #[] w fun e w' => e = .returned (.bool true) ∧ Below w.heap.size w w' := by
  have hE := eqC
  go_enter Try.func10, Try.ntmps10
  go_wp2_with fail
  refine (bytes_e 8 0 0 0 [8] _ (by rfl) (by rfl)).mono ?_
  rintro en w1 ⟨v, rfl, hO, hb1⟩
  obtain ⟨A, cap, rfl, hS⟩ := hO.sl (allB_cons (by omega) (by omega) allB_nil)
  go_wp2_with fail
  refine (read_e 1 7 1 2 11 (Sl_new w1 [1, 0, 7, 0, 0, 0, 1, 0, 0, 0, 2, 9] 12 _ _ rfl rfl rfl (by omega) (by unfold AllB; decide)) (by rfl) (by rfl) (by rfl) (by rfl) (by rfl) (by rfl)).mono ?_
  rintro en w2 ⟨rfl, hb2⟩
  have hb20 : Below w.heap.size w w2 := (hb1.alloc hb1.size _).trans (hb2.mono (by have := hb1.size; simp; omega))
  have hcv := fun (q : Obj) => conv_e (S := ⟨#[8]⟩) (((hS.below ((Below.refl _ _).alloc (Nat.le_refl _) _)).below hb2).below ((Below.refl _ _).alloc (Nat.le_refl _) q)) (by rfl)
  have hl : [(8 : Int)].length = 1 := rfl
  rw [hl] at hcv
  clear hb2 hS hO hl
  go_wp2_with fail
  go_returns
  exact ⟨rfl, hb20.alloc hb20.size _⟩

theorem Sl.take {w : World} {A : Option Addr} {len cap : Nat} {xs : List Int} (h : Sl w A len cap xs) (k : Nat) (hk : k ≤ len) : Sl w A k cap (xs.take k) := by
  refine ⟨by rw [List.length_take, h.long]; omega, by have := h.room; omega, h.top, allB_take h.all k, fun h0 => ?_⟩
  obtain ⟨b, o, e, hlt, hB⟩ := h.at_ (by omega)
  refine ⟨b, o, e, hlt, ?_⟩
  have := hB.sub 0 k
  simpa using this

/-- A command, as an argument. -/
structure Cmd where
  op : Int
  id : Int
  e : Int
  p : Int
def Cmd.V (c : Cmd) : Value := .agg #[.int .i64 c.op, .int .i64 c.id, .int .i64 c.e, .int .i64 c.p]

set_option maxHeartbeats 1600000 in
theorem cuts_any (op id e p : Int) (cut : Nat) (hcut : cut ≤ 255) (w : World) :
    Calls Try.prog 5 #[.agg #[.int .i64 op, .int .i64 id, .int .i64 e, .int .i64 p], .int .u8 cut] w fun e w' => e = .returned (.bool true) ∧ Below w.heap.size w w' := by
  cases hv : valid op id e p with
  | false =>
    have HV := Lib.hid hv
    clear hv
    go_enter Try.func5, Try.ntmps5
    go_wp2_with fail
    refine (awake_any _).mono ?_
    rintro en w1 ⟨rfl, hb1⟩
    have x0 := cells_of_box (hb1.mono (by simp)) 0 (.int .i64 op) rfl
    have x1 := cells_of_box (hb1.mono (by simp)) 1 (.int .i64 id) rfl
    have x2 := cells_of_box (hb1.mono (by simp)) 2 (.int .i64 e) rfl
    have x3 := cells_of_box (hb1.mono (by simp)) 3 (.int .i64 p) rfl
    have hb10 := ((Below.refl w.heap.size w).alloc (Nat.le_refl _) _).trans (hb1.mono (by simp))
    clear hb1
    go_wp2_with fail
    refine (bytes_no op id e p _ HV.out).mono ?_
    rintro en w2 ⟨v, rfl, hO, hb2⟩
    go_wp2_with fail
    go_returns
    exact ⟨rfl, hb10.trans (hb2.mono hb10.size)⟩
  | true =>
    have HV := Lib.hid hv
    clear hv
    have hE := eqC
    obtain ⟨h4, _, _, _⟩ := valid_parts HV.out
    have HA := Lib.hid (@enc_allB op id e p h4)
    clear h4
    go_enter Try.func5, Try.ntmps5
    go_wp2_with fail
    refine (awake_any _).mono ?_
    rintro en w1 ⟨rfl, hb1⟩
    have x0 := cells_of_box (hb1.mono (by simp)) 0 (.int .i64 op) rfl
    have x1 := cells_of_box (hb1.mono (by simp)) 1 (.int .i64 id) rfl
    have x2 := cells_of_box (hb1.mono (by simp)) 2 (.int .i64 e) rfl
    have x3 := cells_of_box (hb1.mono (by simp)) 3 (.int .i64 p) rfl
    have hb10 := ((Below.refl w.heap.size w).alloc (Nat.le_refl _) _).trans (hb1.mono (by simp))
    have hlt : w.heap.size < w1.heap.size := by have := hb1.size; simp at this; omega
    clear hb1
    go_wp2_with fail
    refine (bytes_yes op id e p _ HV.out).mono ?_
    rintro en w2 ⟨v, rfl, hO, hb2⟩
    obtain ⟨A, cap, rfl, hS⟩ := hO.sl HA.out
    have F0 := read_enc HV.out []
    rw [List.append_nil] at F0
    have F1 : Hid (∀ k, k < (enc op id e p).length → good ((enc op id e p).take k) = false) := fun k hk => cut_enc k hk
    have F2 : Hid ((enc op id e p).length = csize op) := enc_len
    have F3 := Lib.hid F0
    clear F0
    generalize enc op id e p = xs at hS hO HA F1 F2 F3 ⊢
    obtain ⟨N, hN⟩ : ∃ N, xs.length = N := ⟨_, rfl⟩
    rw [hN] at hS ⊢
    have HN := Lib.hid hN
    clear hN hO
    have hN0 : 0 < N := by
      have := HN.out
      have := F2.out
      have : 1 ≤ csize op := by unfold csize; omega
      omega
    obtain ⟨b, o, rfl, hbl, _⟩ := hS.at_ hN0
    have hNi : (0 : Int) < N := by omega
    have hNe : ¬ N = 0 := by omega
    have hroom := hS.room
    have htop := hS.top
    have hcap0 : ¬ cap = 0 := by omega
    obtain ⟨K, hK⟩ : ∃ K : Nat, (cut : Int) % N = K := ⟨cut % N, rfl⟩
    have hKN : K < N := by
      have := Nat.mod_lt cut hN0
      omega
    have q1 : (K : Int) ≤ cap := by omega
    have q2 : K ≤ cap := by omega
    go_wp2_with fail
    have g1 := F1.out K (by have := HN.out; omega)
    refine (read_no (hS.take K (by omega)) g1).mono ?_
    rintro en w3 ⟨rfl, hb3⟩
    have hS3 := (hS.below hb3).below ((Below.refl _ _).alloc (Nat.le_refl _) (.cells #[.int .i64 0, .int .i64 0, .int .i64 0, .int .i64 0] 23))
    have hB3 : Below w1.heap.size w1 (w3.alloc (.cells #[.int .i64 0, .int .i64 0, .int .i64 0, .int .i64 0] 23)) := (hb2.trans (hb3.mono hb2.size)).alloc (hb2.trans (hb3.mono hb2.size)).size _
    clear hb2 hb3 hS g1
    go_wp2_with fail
    refine (read_e op id e p N hS3 F3.out.1 F3.out.2.1 F3.out.2.2.1 F3.out.2.2.2.1 F3.out.2.2.2.2 (by rw [F3.out.2.1, ← F2.out, HN.out])).mono ?_
    rintro en w4 ⟨rfl, hb4⟩
    have hB4 : Below w1.heap.size w1 w4 := hB3.trans (hb4.mono hB3.size)
    have y0 := (hB4.cell (p := ⟨w.heap.size, 0, none⟩) hlt).trans x0
    have y1 := (hB4.cell (p := ⟨w.heap.size, 1, none⟩) hlt).trans x1
    have y2 := (hB4.cell (p := ⟨w.heap.size, 2, none⟩) hlt).trans x2
    have y3 := (hB4.cell (p := ⟨w.heap.size, 3, none⟩) hlt).trans x3
    have hlt4 : w.heap.size < w4.heap.size := Nat.lt_of_lt_of_le hlt hB4.size
    clear hB3 hb4 hS3 x0 x1 x2 x3
    go_wp2_with fail
    go_returns
    exact ⟨rfl, (hb10.trans (hB4.mono hb10.size)).alloc (hb10.trans (hB4.mono hb10.size)).size _⟩

theorem cuts_law (a : Cmd) (c : Int) (hc : (Lit.int .u8 c).wf = true) (w : World) :
    Calls Try.prog 5 #[a.V, .int .u8 c] w fun e w' => e = .returned (.bool true) ∧ Below w.heap.size w w' := by
  have h1 := bounds_u8 hc
  obtain ⟨n, rfl⟩ : ∃ n : Nat, c = n := ⟨c.toNat, by omega⟩
  exact cuts_any a.op a.id a.e a.p n (by omega) w
end Go.Proofs.Ytbanlnacoidccaa
