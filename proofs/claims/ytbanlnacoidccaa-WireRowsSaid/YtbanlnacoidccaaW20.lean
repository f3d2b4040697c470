/- A piece out of its bytes. -/
import Derived.Test.YtbanlnacoidccaaW19
import Derived.Deep.RegionHeld3
import Derived.Deep.DrawnRows
import Derived.IntWalk
namespace Go.Proofs.Ytbanlnacoidccaa
open Go.RowKit
set_option linter.unusedSimpArgs false
set_option linter.unusedVariables false
attribute [local go_sem ↓] Go.wp_at_zero Go.wp_at_succ

/-- A part by its number. -/
def partI (xs : List Int) (i : Int) : Int := part xs (4 + 8 * i.toNat)

theorem part27i (i : Int) (B b o cap : Nat) (xs : List Int) (w : World) (hi : i = 0 ∨ i = 1 ∨ i = 2 ∨ i = 3) (hl : Hid (xs.length = 37)) (hcap : 37 ≤ cap) (hcm : cap ≤ 9223372036854775807) (hx : Hid (Bytes w b o xs))
    (hB : w.cell? ⟨B, 0, none⟩ = some (.slice (some ⟨b, o, none⟩) 37 cap)) :
    Calls Try.prog 27 #[.int .i64 i, .pointer (some ⟨B, 0, none⟩)] w fun e w' => e = .returned (.int .i64 (partI xs i)) ∧ w = w' := by
  rcases hi with rfl | rfl | rfl | rfl
  · exact part27 0 4 B b o cap xs w (by omega) (by omega) hl.out hcap hcm hx hB
  · exact part27 1 12 B b o cap xs w (by omega) (by omega) hl.out hcap hcm hx hB
  · exact part27 2 20 B b o cap xs w (by omega) (by omega) hl.out hcap hcm hx hB
  · exact part27 3 28 B b o cap xs w (by omega) (by omega) hl.out hcap hcm hx hB

/-- The piece of bytes. -/
def decP (xs : List Int) : Pc := ⟨xs.getD 0 0, xs.getD 1 0, num ((xs.drop 2).take 2), partI xs 0, partI xs 1, partI xs 2, partI xs 3, decide (xs.getD 36 0 = 1)⟩

theorem Bytes.al {w : World} {b o : Nat} {xs : List Int} (h : Bytes w b o xs) (hb : b < w.heap.size) (O : Obj) : Bytes (w.alloc O) b o xs :=
  h.below ((Below.refl _ _).alloc (Nat.le_refl _) O) hb

theorem cell_up {w : World} {a : Addr} {v : Value} {O : Obj} (hb : a.block < w.heap.size) (h : w.drew.cell? a = some v) : (w.alloc O).drew.cell? a = some v :=
  (World.cell?_of_block (w := w) (a := a) (by rw [show (w.alloc O).drew.heap = w.heap.push O from rfl, Array.getElem?_push_lt hb, Array.getElem?_eq_getElem hb])).trans h

set_option maxRecDepth 100000 in
set_option maxHeartbeats 3200000 in
theorem unpiece25 (b o cap : Nat) (xs : List Int) (w : World) (hl : xs.length = 37) (hcap : 37 ≤ cap) (hcm : cap ≤ 9223372036854775807) (hx : Hid (Bytes w b o xs)) :
    Calls Try.prog 25 #[.slice (some ⟨b, o, none⟩) 37 cap] w fun e w' => e = .returned (.tuple #[(decP xs).V, .bool (decide (xs.getD 36 0 ≤ 1))]) ∧ Below w.heap.size w w' := by
  have c0 := hx.out 0 (by omega)
  have c1 := hx.out 1 (by omega)
  have c36 := hx.out 36 (by omega)
  have hb : b < w.heap.size := hx.out.lt (by omega)
  have hmf : ∀ (fn : Fn) (first cap : Array Value) (w : World), (Instr.makeFunc fn first cap).run Try.prog w = .ok (.func fn first cap) w := fun _ _ _ _ => rfl
  have z0 := c0.1
  rw [Nat.add_zero] at z0
  have z1 := c1.1
  have z36 := c36.1
  have g0 := c0.2
  have g1 := c1.2
  have g36 := c36.2
  have HL := Lib.hid hl
  have q1 : (37 : Int) ≤ cap := by omega
  have q2 : (4 : Int) ≤ cap := by omega
  have hsub := hx.out.sub 2 2
  have hlen : ((xs.drop 2).take 2).length = 2 := by rw [List.length_take, List.length_drop]; omega
  have HS := Lib.hid hsub
  have HN := Lib.hid hlen
  clear c0 c1 c36 hl hsub hlen
  unfold decP
  generalize (xs.drop 2).take 2 = ys at HS HN ⊢
  generalize xs.getD 0 0 = x0 at z0 g0 ⊢
  generalize xs.getD 1 0 = x1 at z1 g1 ⊢
  generalize xs.getD 36 0 = x36 at z36 g36 ⊢
  go_enter Try.func25, Try.ntmps25
  go_wp2_with fail
  have ha1 := hx.out.al hb (.cells #[.slice (some ⟨b, o, none⟩) 37 cap] 24)
  have ha2 := ha1.al (by simp; omega) (.cells #[.int .i64 0, .int .i64 0, .int .i64 0, .int .i64 0, .int .i64 0, .int .i64 0, .int .i64 0, .bool false] 48)
  have ha3 := ha2.al (by simp; omega) (.cells #[.int .i64 0, .int .i64 0, .int .i64 0, .int .i64 0, .int .i64 0, .int .i64 0, .int .i64 0, .bool false] 48)
  have hs1 := HS.out.al hb (.cells #[.slice (some ⟨b, o, none⟩) 37 cap] 24)
  have hs2 := hs1.al (by simp; omega) (.cells #[.int .i64 0, .int .i64 0, .int .i64 0, .int .i64 0, .int .i64 0, .int .i64 0, .int .i64 0, .bool false] 48)
  have hs3 := hs2.al (by simp; omega) (.cells #[.int .i64 0, .int .i64 0, .int .i64 0, .int .i64 0, .int .i64 0, .int .i64 0, .int .i64 0, .bool false] 48)
  have HXa := Lib.hid (show Bytes ((w.alloc (.cells #[.slice (some ⟨b, o, none⟩) 37 cap] 24)).alloc (.cells #[.int .i64 0, .int .i64 0, .int .i64 0, .int .i64 0, .int .i64 0, .int .i64 0, .int .i64 0, .bool false] 48)).drew b o xs from ha2)
  have HXb := Lib.hid (show Bytes (((w.alloc (.cells #[.slice (some ⟨b, o, none⟩) 37 cap] 24)).alloc (.cells #[.int .i64 0, .int .i64 0, .int .i64 0, .int .i64 0, .int .i64 0, .int .i64 0, .int .i64 0, .bool false] 48)).alloc (.cells #[.int .i64 0, .int .i64 0, .int .i64 0, .int .i64 0, .int .i64 0, .int .i64 0, .int .i64 0, .bool false] 48)).drew b o xs from ha3)
  have HSa := Lib.hid (show Bytes ((w.alloc (.cells #[.slice (some ⟨b, o, none⟩) 37 cap] 24)).alloc (.cells #[.int .i64 0, .int .i64 0, .int .i64 0, .int .i64 0, .int .i64 0, .int .i64 0, .int .i64 0, .bool false] 48)).drew b (o + 2) ys from hs2)
  have HSb := Lib.hid (show Bytes (((w.alloc (.cells #[.slice (some ⟨b, o, none⟩) 37 cap] 24)).alloc (.cells #[.int .i64 0, .int .i64 0, .int .i64 0, .int .i64 0, .int .i64 0, .int .i64 0, .int .i64 0, .bool false] 48)).alloc (.cells #[.int .i64 0, .int .i64 0, .int .i64 0, .int .i64 0, .int .i64 0, .int .i64 0, .int .i64 0, .bool false] 48)).drew b (o + 2) ys from hs3)
  have hBa : ((w.alloc (.cells #[.slice (some ⟨b, o, none⟩) 37 cap] 24)).alloc (.cells #[.int .i64 0, .int .i64 0, .int .i64 0, .int .i64 0, .int .i64 0, .int .i64 0, .int .i64 0, .bool false] 48)).drew.cell? ⟨w.heap.size, 0, none⟩ = some (.slice (some ⟨b, o, none⟩) 37 cap) := by simp
  have hBb : (((w.alloc (.cells #[.slice (some ⟨b, o, none⟩) 37 cap] 24)).alloc (.cells #[.int .i64 0, .int .i64 0, .int .i64 0, .int .i64 0, .int .i64 0, .int .i64 0, .int .i64 0, .bool false] 48)).alloc (.cells #[.int .i64 0, .int .i64 0, .int .i64 0, .int .i64 0, .int .i64 0, .int .i64 0, .int .i64 0, .bool false] 48)).drew.cell? ⟨w.heap.size, 0, none⟩ = some (.slice (some ⟨b, o, none⟩) 37 cap) := cell_up (by simp; omega) hBa
  clear ha1 ha2 ha3 hs1 hs2 hs3
  have z0a : ((w.alloc (.cells #[.slice (some ⟨b, o, none⟩) 37 cap] 24)).alloc (.cells #[.int .i64 0, .int .i64 0, .int .i64 0, .int .i64 0, .int .i64 0, .int .i64 0, .int .i64 0, .bool false] 48)).drew.cell? ⟨b, o, none⟩ = some (.int .u8 x0) := cell_up (by simp; omega) (cell_up (w := w) hb z0)
  have z0b : ∀ O : Obj, (((w.alloc (.cells #[.slice (some ⟨b, o, none⟩) 37 cap] 24)).alloc (.cells #[.int .i64 0, .int .i64 0, .int .i64 0, .int .i64 0, .int .i64 0, .int .i64 0, .int .i64 0, .bool false] 48)).alloc O).drew.cell? ⟨b, o, none⟩ = some (.int .u8 x0) := fun O => cell_up (by simp; omega) z0a
  have z1a : ((w.alloc (.cells #[.slice (some ⟨b, o, none⟩) 37 cap] 24)).alloc (.cells #[.int .i64 0, .int .i64 0, .int .i64 0, .int .i64 0, .int .i64 0, .int .i64 0, .int .i64 0, .bool false] 48)).drew.cell? ⟨b, o + 1, none⟩ = some (.int .u8 x1) := cell_up (by simp; omega) (cell_up (w := w) hb z1)
  have z1b : ∀ O : Obj, (((w.alloc (.cells #[.slice (some ⟨b, o, none⟩) 37 cap] 24)).alloc (.cells #[.int .i64 0, .int .i64 0, .int .i64 0, .int .i64 0, .int .i64 0, .int .i64 0, .int .i64 0, .bool false] 48)).alloc O).drew.cell? ⟨b, o + 1, none⟩ = some (.int .u8 x1) := fun O => cell_up (by simp; omega) z1a
  have hBo : ∀ O : Obj, (((w.alloc (.cells #[.slice (some ⟨b, o, none⟩) 37 cap] 24)).alloc (.cells #[.int .i64 0, .int .i64 0, .int .i64 0, .int .i64 0, .int .i64 0, .int .i64 0, .int .i64 0, .bool false] 48)).alloc O).drew.cell? ⟨w.heap.size, 0, none⟩ = some (.slice (some ⟨b, o, none⟩) 37 cap) := fun O => cell_up (by simp; omega) hBa
  have z36a : ((w.alloc (.cells #[.slice (some ⟨b, o, none⟩) 37 cap] 24)).alloc (.cells #[.int .i64 0, .int .i64 0, .int .i64 0, .int .i64 0, .int .i64 0, .int .i64 0, .int .i64 0, .bool false] 48)).drew.cell? ⟨b, o + 36, none⟩ = some (.int .u8 x36) := cell_up (by simp; omega) (cell_up (w := w) hb z36)
  have z36b : ∀ O : Obj, (((w.alloc (.cells #[.slice (some ⟨b, o, none⟩) 37 cap] 24)).alloc (.cells #[.int .i64 0, .int .i64 0, .int .i64 0, .int .i64 0, .int .i64 0, .int .i64 0, .int .i64 0, .bool false] 48)).alloc O).drew.cell? ⟨b, o + 36, none⟩ = some (.int .u8 x36) := fun O => cell_up (by simp; omega) z36a
  have HSS := Lib.hid (fun O : Obj => And.intro (hBo O) (And.intro (z0b O) (z1b O)))
  clear hBo
  clear z0a z0b z1a z1b
  have hc2 : ¬ cap = 2 := by omega
  have hny := num_top ys 2 HN.out (by omega) (fun i hi => (HS.out i hi).2)
  have e0 : IntKind.i64.wrap x0 = x0 := IntWalk.i64_in _ (by omega)
  have e1 : IntKind.i64.wrap x1 = x1 := IntWalk.i64_in _ (by omega)
  have e2 : IntKind.i64.wrap (num ys) = num ys := IntWalk.i64_in _ (by omega)
  clear hny
  go_region_held3 (fun w' => w'.cell? ⟨w.heap.size, 0, none⟩ = some (.slice (some ⟨b, o, none⟩) 37 cap) ∧ w'.cell? ⟨b, o, none⟩ = some (.int .u8 x0) ∧ w'.cell? ⟨b, o + 1, none⟩ = some (.int .u8 x1))
    (first | assumption | exact HSS.out _ | go_keep)
    (first
      | (go_at_call 23; refine (number_n b (o + 2) _ 2 ys _ HSa.out HN.out (by omega) (by omega)).mono ?_; rintro e w5 ⟨rfl, rfl⟩)
      | (go_at_call 23; refine (number_n b (o + 2) _ 2 ys _ HSb.out HN.out (by omega) (by omega)).mono ?_; rintro e w5 ⟨rfl, rfl⟩)
      | (go_at_call 27; refine (part27i _ w.heap.size b o cap xs _ (by decide) HL hcap hcm HXa hBa).mono ?_; rintro e w5 ⟨rfl, rfl⟩)
      | (go_at_call 27; refine (part27i _ w.heap.size b o cap xs _ (by decide) HL hcap hcm HXb hBb).mono ?_; rintro e w5 ⟨rfl, rfl⟩))
  all_goals go_wp2_with fail
  all_goals go_returns
  all_goals exact ⟨rfl, by first | exact (((((Below.refl _ w).alloc (Nat.le_refl _) _).alloc (by simp) _).alloc (by simp; omega) _).drew)⟩
end Go.Proofs.Ytbanlnacoidccaa
