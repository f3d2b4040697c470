/- A reply out of its bytes: what is too short. -/
import Derived.Test.YtbanlnacoidccaaW21
namespace Go.Proofs.Ytbanlnacoidccaa
open Go.RowKit
set_option linter.unusedSimpArgs false
set_option linter.unusedVariables false
attribute [local go_sem ↓] Go.wp_at_zero Go.wp_at_succ

/-- None: what Parse says of bytes that are no reply. -/
def NoReply (w : World) (e : Ending) (w' : World) : Prop := e = .returned (.tuple #[.agg #[.int .i64 0, .int .i64 0, .slice none 0 0], .int .i64 0, .int .i64 1]) ∧ Below w.heap.size w w'

theorem parse_tiny (A : Option Addr) (len cap : Nat) (w : World) (h7 : len < 7) : Calls Try.prog 16 #[.slice A len cap] w (NoReply w) := by
  have hd : decide ((len : Int) < 7) = true := by simp; omega
  have hd' : decide (len < 7) = true := by simp; omega
  have hi : (len : Int) < 7 := by omega
  unfold NoReply
  go_enter Try.func16, Try.ntmps16
  go_wp2_with fail
  go_returns
  exact ⟨rfl, (Below.refl _ w).alloc (Nat.le_refl _) _⟩

set_option maxRecDepth 100000 in
set_option maxHeartbeats 3200000 in
theorem parse_short (b o len cap : Nat) (xs : List Int) (w : World) (h7 : 7 ≤ len) (hl : xs.length = len) (hcap : len ≤ cap) (hcm : cap ≤ 9223372036854775807) (hx : Hid (Bytes w b o xs)) (hs : (len : Int) < 7 + hdMany xs * 37) :
    Calls Try.prog 16 #[.slice (some ⟨b, o, none⟩) len cap] w (NoReply w) := by
  unfold NoReply
  have c0 := hx.out 0 (by omega)
  have hb : b < w.heap.size := hx.out.lt (by omega)
  have z0 := c0.1
  rw [Nat.add_zero] at z0
  have g0 := c0.2
  have HL := Lib.hid hl
  have q1 : (5 : Int) ≤ cap := by omega
  have q2 : (7 : Int) ≤ cap := by omega
  have q3 : (7 : Int) ≤ len := by omega
  have q4 : 5 ≤ cap := by omega
  have q5 : 7 ≤ cap := by omega
  have hd : decide ((len : Int) < 7) = false := by simp; omega
  have hd' : decide (len < 7) = false := by simp; omega
  have HSz := Lib.hid hs
  unfold hdMany at HSz
  have hs4 := hx.out.sub 1 4
  have hl4 : ((xs.drop 1).take 4).length = 4 := by rw [List.length_take, List.length_drop]; omega
  have hs2 := hx.out.sub 5 2
  have hl2 : ((xs.drop 5).take 2).length = 2 := by rw [List.length_take, List.length_drop]; omega
  have H4 := Lib.hid hs4
  have L4 := Lib.hid hl4
  have H2 := Lib.hid hs2
  have L2 := Lib.hid hl2
  clear c0 hl hs hs4 hl4 hs2 hl2
  generalize (xs.drop 1).take 4 = ys at H4 L4
  generalize (xs.drop 5).take 2 = zs at H2 L2 HSz
  generalize xs.getD 0 0 = x0 at z0 g0
  have n4 := num_top ys 4 L4.out (by omega) (fun i hi => (H4.out i hi).2)
  have n2 := num_top zs 2 L2.out (by omega) (fun i hi => (H2.out i hi).2)
  obtain ⟨N, hN⟩ : ∃ N : Nat, num zs = N := ⟨(num zs).toNat, by omega⟩
  have hN2 : N < 65536 := by omega
  have HN := Lib.hid hN
  rw [hN] at HSz
  have hs := HSz.out
  have hs' : decide ((len : Int) < 7 + (N : Int) * 37) = true := by simp; omega
  have e0 : IntKind.i64.wrap x0 = x0 := IntWalk.i64_in _ (by omega)
  have e1 : IntKind.i64.wrap (num ys) = num ys := IntWalk.i64_in _ (by omega)
  have hc1 : ¬ cap = 1 := by omega
  have hl0 : (0 : Int) < len := by omega
  have hl0' : 0 < len := by omega
  clear n4 n2 hN HSz
  have ha1 := H4.out.al hb (.cells #[.int .i64 0, .int .i64 0, .slice none 0 0] 40)
  have ha2 := ha1.al (by simp; omega) (.cells #[.int .i64 0, .int .i64 0, .slice none 0 0] 40)
  have HXa := Lib.hid (show Bytes (w.alloc (.cells #[.int .i64 0, .int .i64 0, .slice none 0 0] 40)).drew b (o + 1) ys from ha1)
  have HXb := Lib.hid (show Bytes ((w.alloc (.cells #[.int .i64 0, .int .i64 0, .slice none 0 0] 40)).alloc (.cells #[.int .i64 0, .int .i64 0, .slice none 0 0] 40)).drew b (o + 1) ys from ha2)
  have z0a : (w.alloc (.cells #[.int .i64 0, .int .i64 0, .slice none 0 0] 40)).drew.cell? ⟨b, o, none⟩ = some (.int .u8 x0) := cell_up (w := w) hb z0
  have z0b : ∀ O : Obj, ((w.alloc (.cells #[.int .i64 0, .int .i64 0, .slice none 0 0] 40)).alloc O).drew.cell? ⟨b, o, none⟩ = some (.int .u8 x0) := fun O => cell_up (by simp; omega) z0a
  have HSS := Lib.hid z0b
  have H2a := Lib.hid (H2.out.al hb (.cells #[.int .i64 0, .int .i64 0, .slice none 0 0] 40))
  have H2b := Lib.hid (fun O : Obj => show Bytes ((w.alloc (.cells #[.int .i64 0, .int .i64 0, .slice none 0 0] 40)).alloc O).drew b (o + 5) zs from H2a.out.al (by simp; omega) O)
  clear ha1 ha2 z0a z0b
  go_enter Try.func16, Try.ntmps16
  go_wp2_with fail
  go_region_held3 (fun w' => w'.cell? ⟨b, o, none⟩ = some (.int .u8 x0))
    (first | assumption | exact HSS.out _ | go_keep)
    (first
      | (go_at_call 23; refine (number_n b (o + 1) _ 4 ys _ HXa.out L4.out (by omega) (by omega)).mono ?_; rintro e w5 ⟨rfl, rfl⟩)
      | (go_at_call 23; refine (number_n b (o + 1) _ 4 ys _ HXb.out L4.out (by omega) (by omega)).mono ?_; rintro e w5 ⟨rfl, rfl⟩))
  all_goals go_wp2_with fail
  all_goals
    refine (number_n b (o + 5) _ 2 zs _ (H2b.out _) L2.out (by omega) (by omega)).mono ?_
    rintro en w6 ⟨rfl, rfl⟩
    rw [HN.out]
    go_wp2_with fail
    go_returns
    exact ⟨rfl, ((((Below.refl _ w).alloc (Nat.le_refl _) _).alloc (by simp) _).drew)⟩
end Go.Proofs.Ytbanlnacoidccaa
