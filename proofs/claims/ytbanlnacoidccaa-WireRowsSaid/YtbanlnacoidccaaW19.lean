/- A piece out of its bytes: a part of it. -/
import Derived.Test.YtbanlnacoidccaaW18
namespace Go.Proofs.Ytbanlnacoidccaa
open Go.RowKit
set_option linter.unusedSimpArgs false
set_option linter.unusedVariables false

/-- The eight bytes from a on, as a signed number. -/
def part (xs : List Int) (a : Nat) : Int := wrap64 (num ((xs.drop a).take 8))

theorem part27 (i a : Nat) (B b o cap : Nat) (xs : List Int) (w : World) (hi : i ≤ 3) (ha : a = 4 + 8 * i) (hl : xs.length = 37) (hcap : 37 ≤ cap) (hcm : cap ≤ 9223372036854775807) (hx : Hid (Bytes w b o xs))
    (hB : w.cell? ⟨B, 0, none⟩ = some (.slice (some ⟨b, o, none⟩) 37 cap)) :
    Calls Try.prog 27 #[.int .i64 i, .pointer (some ⟨B, 0, none⟩)] w fun e w' => e = .returned (.int .i64 (part xs a)) ∧ w = w' := by
  have hsub := hx.out.sub a 8
  have hlen : ((xs.drop a).take 8).length = 8 := by rw [List.length_take, List.length_drop]; omega
  have HS := Lib.hid hsub
  have HL := Lib.hid hlen
  unfold part
  clear hsub hlen
  generalize (xs.drop a).take 8 = ys at HS HL
  have hc : i = 0 ∨ i = 1 ∨ i = 2 ∨ i = 3 := by omega
  have hci : (37 : Int) ≤ cap := by omega
  have q1 : (12 : Int) ≤ cap := by omega
  have q2 : (20 : Int) ≤ cap := by omega
  have q3 : (28 : Int) ≤ cap := by omega
  have q4 : (36 : Int) ≤ cap := by omega
  have p1 : 12 ≤ cap := by omega
  have p2 : 20 ≤ cap := by omega
  have p3 : 28 ≤ cap := by omega
  have p4 : 36 ≤ cap := by omega
  rcases hc with rfl | rfl | rfl | rfl
  all_goals
    subst ha
    go_enter Try.func27, Try.ntmps27
    go_wp2_with fail
    refine (number_n _ _ _ 8 ys _ HS.out HL.out (by omega) (by omega)).mono ?_
    rintro en w1 ⟨rfl, rfl⟩
    go_wp2_with fail
    go_returns
    exact ⟨rfl, rfl⟩
end Go.Proofs.Ytbanlnacoidccaa
