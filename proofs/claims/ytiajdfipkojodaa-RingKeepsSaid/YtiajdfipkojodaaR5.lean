/- The ring's New and Since. -/
import Derived.Test.YtiajdfipkojodaaR4
namespace Go.Proofs.Ytiajdfipkojodaa
open Go.RowKit
set_option linter.unusedSimpArgs false
set_option linter.unusedVariables false

theorem zeros_size (n : Nat) : (zeros n).size = n * 10 := size_madeCells _ _

theorem cell_alloc_new (w : World) (cs : Array Value) (t : TypeId) (j : Nat) : (w.alloc (.cells cs t)).cell? ⟨w.heap.size, j, none⟩ = cs[j]? := by
  have h : (w.alloc (.cells cs t)).heap[w.heap.size]? = some (.cells cs t) := (MapKept.heap_alloc w _).1
  unfold World.cell?
  simp only [h]
  rfl

theorem frozen_alloc_new (w : World) (cs : Array Value) (t : TypeId) (j : Nat) : (w.alloc (.cells cs t)).frozen? ⟨w.heap.size, j, none⟩ = false := by
  have h : (w.alloc (.cells cs t)).heap[w.heap.size]? = some (.cells cs t) := (MapKept.heap_alloc w _).1
  unfold World.frozen?
  simp only [h]
  simp

theorem isR_new (w : World) (n : Nat) (hn : n ≤ 4096) (P : Nat → Ent) :
    isR ((w.alloc (.cells (zeros n) 33)).alloc (.cells #[.slice (some ⟨w.heap.size, 0, none⟩) n n, .int .i64 0] 47)) (w.heap.size + 1) w.heap.size n 0 P := by
  have hs : (w.alloc (.cells (zeros n) 33)).heap.size = w.heap.size + 1 := by simp
  have hc : ∀ j, ((w.alloc (.cells (zeros n) 33)).alloc (.cells #[.slice (some ⟨w.heap.size, 0, none⟩) n n, .int .i64 0] 47)).cell? ⟨w.heap.size + 1, j, none⟩ = #[.slice (some ⟨w.heap.size, 0, none⟩) n n, .int .i64 0][j]? := fun j => by
    rw [← hs]; exact cell_alloc_new _ _ _ j
  refine ⟨by omega, hn, hc 0, hc 1, ?_, fun j hj => ⟨?_, ?_⟩, fun i hi => by omega, by simp; omega⟩
  · rw [← hs]; exact frozen_alloc_new _ _ _ _
  · rw [World.cell?_alloc_past _ _ _ (by rw [hs]; omega), cell_alloc_new, Array.getElem?_eq_getElem (by rw [zeros_size]; exact hj)]
    exact ⟨_, rfl⟩
  · rw [frozen?_alloc_cells, frozen_alloc_new]

theorem new_m (a0 : Int) (n : Nat) (hn : n = min (max a0 0).toNat 4096) (P : Nat → Ent) (w : World) :
    Calls Try.prog 7 #[.int .i64 a0] w fun e w' => e = .returned (.pointer (some ⟨w.heap.size + 1, 0, none⟩)) ∧ isR w' (w.heap.size + 1) w.heap.size n 0 P ∧ Below w.heap.size w w' := by
  have hb : ∀ m, Below w.heap.size w ((w.alloc (.cells (zeros m) 33)).alloc (.cells #[.slice (some ⟨w.heap.size, 0, none⟩) m m, .int .i64 0] 47)) := fun m =>
    ((Below.refl _ _).alloc (Nat.le_refl _) _).alloc (by simp) _
  by_cases h1 : a0 < 0
  · obtain rfl : n = 0 := by omega
    refine (new_below a0 h1 w).mono ?_
    rintro e w' ⟨rfl, rfl⟩
    exact ⟨rfl, isR_new w 0 (by omega) P, hb 0⟩
  · by_cases h2 : 4096 < a0
    · obtain rfl : n = 4096 := by omega
      refine (new_above a0 h2 w).mono ?_
      rintro e w' ⟨rfl, rfl⟩
      exact ⟨rfl, isR_new w 4096 (by omega) P, hb 4096⟩
    · refine (new_in a0 n (by omega) (by omega) w).mono ?_
      rintro e w' ⟨rfl, rfl⟩
      exact ⟨rfl, isR_new w n (by omega) P, hb n⟩

/-- The cells of m entries from number f on. -/
def rows (P : Nat → Ent) (f : Nat) : Nat → List Value
  | 0 => []
  | m + 1 => rows P f m ++ (P (f + m)).cells

theorem rows_len (P : Nat → Ent) (f m : Nat) : (rows P f m).length = m * 10 := by
  induction m with
  | zero => rfl
  | succ m ih => rw [rows, List.length_append, ih]; show _ + 10 = _; omega

theorem rows_get (P : Nat → Ent) (f m i q : Nat) (hi : i < m) (hq : q < 10) : (rows P f m)[i * 10 + q]? = (P (f + i)).cells[q]? := by
  induction m with
  | zero => omega
  | succ m ih =>
    rw [rows]
    by_cases e : i < m
    · rw [List.getElem?_append_left (by rw [rows_len]; omega), ih e]
    · obtain rfl : i = m := by omega
      rw [List.getElem?_append_right (by rw [rows_len]; omega), rows_len]
      congr 1
      omega

theorem owns_below {w w' : World} {base : Nat} {e : TypeId} {size : Nat} {v : Value} {n : Nat} {xs : List Value} (h : w.ownsRow base e size v n xs) (hb : Below w.heap.size w w') : w'.ownsRow base e size v n xs := by
  obtain ⟨h1, h2⟩ := h
  refine ⟨h1, ?_⟩
  rcases h2 with h2 | ⟨g, cap, cur, hv, hg, hh, r⟩
  · exact Or.inl h2
  · exact Or.inr ⟨g, cap, cur, hv, hg, by rw [hb.block g (lt_of_block hh)]; exact hh, r⟩

theorem World.ownsRow.ownBlock_ge {w : World} {base : Nat} {e : TypeId} {size : Nat} {v : Value} {n : Nat} {xs : List Value} (h : w.ownsRow base e size v n xs) {k : Nat} (hk : v.ownBlock = some k) : base ≤ k := by
  obtain ⟨h1, h2⟩ := h
  rcases h2 with ⟨rfl, _⟩ | ⟨g, cap, cur, rfl, hg, hh, r⟩
  · simp [Value.ownBlock] at hk
  · simp [Value.ownBlock] at hk
    omega

/-- What Since hands back: m entries from number f on, in new memory. -/
def SincePost (P : Nat → Ent) (f m : Nat) (w : World) (e : Ending) (w' : World) : Prop :=
  ∃ v, e = .returned v ∧ w'.ownsRow w.heap.size 33 10 v m (rows P f m) ∧ Below w.heap.size w w'

theorem since_some (r a n c f : Nat) (P : Nat → Ent) (s : Int) (w : World) (hcb : c ≤ 1000000000000) (h : isR w r a n c P) (hf : (f : Int) = max s ((c - n : Nat) : Int)) (hfc : f ≤ c) :
    Calls Try.prog 11 #[.pointer (some ⟨r, 0, none⟩), .int .i64 s] w (SincePost P f (c - f) w) := by
  have HR := Lib.hid h
  have HF := Lib.hid hf
  clear hf
  have hc := h.nxt
  have hs := h.slc
  have hn := h.many
  clear h
  obtain ⟨i0, hi, hz0, hz1, hz2⟩ := info_parts info33
  go_enter Try.func11, Try.ntmps11
  go_wp2_with fail
  refine (first_any r a n c _ hc hs hn hcb).mono ?_
  rintro e w' ⟨rfl, q, rfl⟩
  go_wp2_with fail
  case inl =>
    have hlt : s < ((c - n : Nat) : Int) := by assumption
    rw [show ((c - n : Nat) : Int) = f by have := HF.out; omega]
    have hB0 : Below w.heap.size w (w.drewN q) := below_drewN (Below.refl _ _) q
    generalize w.drewN q = w1 at hB0 ⊢
    clear hc hs
    go_loopw [5, 6] (fun v k wr => ∃ m : Nat, f + m ≤ c ∧ k = .int .i64 ((f + m : Nat) : Int) ∧ wr.ownsRow w.heap.size 33 10 v m (rows P f m) ∧ Below w.heap.size w wr) (fun _ k _ => c - (intOf k).toNat)
    case atStart => exact ⟨0, by omega, rfl, ⟨rfl, Or.inl ⟨rfl, rfl⟩⟩, hB0⟩
    case round =>
      obtain ⟨m, hm, rfl, hown, hB⟩ := hrel
      clear hB0
      have hR := HR.out.below hB
      have hnx := hR.nxt
      have HRR := Lib.hid hR
      clear hR
      by_cases hlt2 : f + m < c
      · have hd : decide ((f : Int) + m < c) = true := by simp; omega
        have hd' : decide (f + m < c) = true := by simp; omega
        go_wp2_with fail
        refine (int_load _ _ (c : Int) _ hnx).mono ?_
        rintro e w2 ⟨rfl, rfl⟩
        go_wp2_with fail
        rw [show (f : Int) + m = ((f + m : Nat) : Int) by omega]
        refine (get_some_m r a n c P (f + m) _ hcb HRR.out (by have := HF.out; omega) (by omega)).mono ?_
        rintro e w2 ⟨rfl, hb2⟩
        have hown2 := owns_below hown hb2
        have HB2 := hB.trans (hb2.mono hB.size)
        clear hown hB
        have hsz2 := HB2.size
        go_wp2_with (at_builtin; refine wpList_append_own _ rfl _ _ 36 rfl w.heap.size 33 i0 _ 10 80 Try.underlying36 hi hz0 hz1 hz2 rfl (by decide) _ _ _ rfl ((hown2.alloc _).alloc _) ⟨w2.heap.size + 1, 0, none⟩ 1 1 [.int .i64 (P (f + m)).v0, .int .i64 (P (f + m)).v1, .int .i64 (P (f + m)).v2, .int .i64 (P (f + m)).v3, .int .i64 (P (f + m)).v4, .int .i64 (P (f + m)).v5, .int .i64 (P (f + m)).v6, .int .i64 (P (f + m)).v7, .int .i64 (P (f + m)).v8, .bool (P (f + m)).v9] rfl rfl ?c1 ?c2 ?c3 ?c4 ?c5 ?_)
        case c1 =>
          intro j u hj
          have hj10 : j < 10 := (List.getElem?_eq_some_iff.1 hj).1
          have e : (w2.heap.size + 1) = (w2.alloc (.cells #[.int .i64 (P (f + m)).v0, .int .i64 (P (f + m)).v1, .int .i64 (P (f + m)).v2, .int .i64 (P (f + m)).v3, .int .i64 (P (f + m)).v4, .int .i64 (P (f + m)).v5, .int .i64 (P (f + m)).v6, .int .i64 (P (f + m)).v7, .int .i64 (P (f + m)).v8, .bool (P (f + m)).v9] 33)).heap.size := by simp
          have ea : (⟨w2.heap.size + 1, 0, none⟩ : Addr).add j = ⟨w2.heap.size + 1, j, none⟩ := by unfold Addr.add; split <;> simp_all
          rw [ea, e, cell_alloc_new]
          simpa using hj
        case c2 => intro u hu; simp at hu; rcases hu with rfl | rfl | rfl | rfl | rfl | rfl | rfl | rfl | rfl | rfl <;> rfl
        case c3 => unfold maxLen; omega
        case c4 => omega
        case c5 => simp; omega
        intro v' w3 hown3 hgrow _
        have HB3 : Below w.heap.size w w3 := ((HB2.alloc hsz2 _).alloc (by simp; omega) _).grown hgrow (by simp; omega) (fun k hk => World.ownsRow.ownBlock_ge hown2 hk)
        clear hgrow hown2 HB2 hb2
        go_wp2_with fail
        go_roundw
        case rel => exact ⟨m + 1, by omega, by go_num, hown3, HB3⟩
        case measure => simp [intOf]; omega
      · have hcm : f + m = c := by omega
        have hd : decide ((f : Int) + m < c) = false := by simp; omega
        have hd' : decide (f + m < c) = false := by simp; omega
        have HCM := Lib.hid hcm
        clear hcm
        go_wp2_with fail
        refine (int_load _ _ (c : Int) _ hnx).mono ?_
        rintro e w2 ⟨rfl, rfl⟩
        go_wp2_with fail
        go_returns
        have e1 := HCM.out
        exact ⟨_, rfl, by rw [show c - f = m by omega]; exact hown, hB⟩
  case inr =>
    have hge : ((c - n : Nat) : Int) ≤ s := by assumption
    obtain rfl : s = f := by have := HF.out; omega
    have hB0 : Below w.heap.size w (w.drewN q) := below_drewN (Below.refl _ _) q
    generalize w.drewN q = w1 at hB0 ⊢
    clear hc hs
    go_loopw [5, 6] (fun v k wr => ∃ m : Nat, f + m ≤ c ∧ k = .int .i64 ((f + m : Nat) : Int) ∧ wr.ownsRow w.heap.size 33 10 v m (rows P f m) ∧ Below w.heap.size w wr) (fun _ k _ => c - (intOf k).toNat)
    case atStart => exact ⟨0, by omega, rfl, ⟨rfl, Or.inl ⟨rfl, rfl⟩⟩, hB0⟩
    case round =>
      obtain ⟨m, hm, rfl, hown, hB⟩ := hrel
      clear hB0
      have hR := HR.out.below hB
      have hnx := hR.nxt
      have HRR := Lib.hid hR
      clear hR
      by_cases hlt2 : f + m < c
      · have hd : decide ((f : Int) + m < c) = true := by simp; omega
        have hd' : decide (f + m < c) = true := by simp; omega
        go_wp2_with fail
        refine (int_load _ _ (c : Int) _ hnx).mono ?_
        rintro e w2 ⟨rfl, rfl⟩
        go_wp2_with fail
        rw [show (f : Int) + m = ((f + m : Nat) : Int) by omega]
        refine (get_some_m r a n c P (f + m) _ hcb HRR.out (by have := HF.out; omega) (by omega)).mono ?_
        rintro e w2 ⟨rfl, hb2⟩
        have hown2 := owns_below hown hb2
        have HB2 := hB.trans (hb2.mono hB.size)
        clear hown hB
        have hsz2 := HB2.size
        go_wp2_with (at_builtin; refine wpList_append_own _ rfl _ _ 36 rfl w.heap.size 33 i0 _ 10 80 Try.underlying36 hi hz0 hz1 hz2 rfl (by decide) _ _ _ rfl ((hown2.alloc _).alloc _) ⟨w2.heap.size + 1, 0, none⟩ 1 1 [.int .i64 (P (f + m)).v0, .int .i64 (P (f + m)).v1, .int .i64 (P (f + m)).v2, .int .i64 (P (f + m)).v3, .int .i64 (P (f + m)).v4, .int .i64 (P (f + m)).v5, .int .i64 (P (f + m)).v6, .int .i64 (P (f + m)).v7, .int .i64 (P (f + m)).v8, .bool (P (f + m)).v9] rfl rfl ?c1 ?c2 ?c3 ?c4 ?c5 ?_)
        case c1 =>
          intro j u hj
          have hj10 : j < 10 := (List.getElem?_eq_some_iff.1 hj).1
          have e : (w2.heap.size + 1) = (w2.alloc (.cells #[.int .i64 (P (f + m)).v0, .int .i64 (P (f + m)).v1, .int .i64 (P (f + m)).v2, .int .i64 (P (f + m)).v3, .int .i64 (P (f + m)).v4, .int .i64 (P (f + m)).v5, .int .i64 (P (f + m)).v6, .int .i64 (P (f + m)).v7, .int .i64 (P (f + m)).v8, .bool (P (f + m)).v9] 33)).heap.size := by simp
          have ea : (⟨w2.heap.size + 1, 0, none⟩ : Addr).add j = ⟨w2.heap.size + 1, j, none⟩ := by unfold Addr.add; split <;> simp_all
          rw [ea, e, cell_alloc_new]
          simpa using hj
        case c2 => intro u hu; simp at hu; rcases hu with rfl | rfl | rfl | rfl | rfl | rfl | rfl | rfl | rfl | rfl <;> rfl
        case c3 => unfold maxLen; omega
        case c4 => omega
        case c5 => simp; omega
        intro v' w3 hown3 hgrow _
        have HB3 : Below w.heap.size w w3 := ((HB2.alloc hsz2 _).alloc (by simp; omega) _).grown hgrow (by simp; omega) (fun k hk => World.ownsRow.ownBlock_ge hown2 hk)
        clear hgrow hown2 HB2 hb2
        go_wp2_with fail
        go_roundw
        case rel => exact ⟨m + 1, by omega, by go_num, hown3, HB3⟩
        case measure => simp [intOf]; omega
      · have hcm : f + m = c := by omega
        have hd : decide ((f : Int) + m < c) = false := by simp; omega
        have hd' : decide (f + m < c) = false := by simp; omega
        have HCM := Lib.hid hcm
        clear hcm
        go_wp2_with fail
        refine (int_load _ _ (c : Int) _ hnx).mono ?_
        rintro e w2 ⟨rfl, rfl⟩
        go_wp2_with fail
        go_returns
        have e1 := HCM.out
        exact ⟨_, rfl, by rw [show c - f = m by omega]; exact hown, hB⟩

/-- A number at or beyond the next one: Since hands back nothing. -/
theorem since_none (r a n c : Nat) (P : Nat → Ent) (s : Int) (w : World) (hcb : c ≤ 1000000000000) (h : isR w r a n c P) (hs : (c : Int) ≤ s) :
    Calls Try.prog 11 #[.pointer (some ⟨r, 0, none⟩), .int .i64 s] w (SincePost P c 0 w) := by
  have hnx := h.nxt
  have hsl := h.slc
  have hn := h.many
  have h1 : ¬ s < ((c - n : Nat) : Int) := by omega
  have hd : decide (s < (c : Int)) = false := by simp; omega
  go_enter Try.func11, Try.ntmps11
  go_wp2_with fail
  refine (first_any r a n c _ hnx hsl hn hcb).mono ?_
  rintro e w' ⟨rfl, q, rfl⟩
  go_wp2_with fail
  refine wp_loop_rounds 1 ?_
  rw [rounds_succ]
  go_wp2_with fail
  refine (int_load _ _ (c : Int) _ (by go_simp)).mono ?_
  rintro e w2 ⟨rfl, rfl⟩
  go_wp2_with fail
  go_returns
  exact ⟨_, rfl, ⟨rfl, Or.inl ⟨rfl, rfl⟩⟩, below_drewN (Below.refl _ _) q⟩
end Go.Proofs.Ytiajdfipkojodaa
