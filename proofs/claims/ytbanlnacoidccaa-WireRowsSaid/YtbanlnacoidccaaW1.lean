/- The wire's small functions: contracts. -/
import Derived.Test.YtbanlnacoidccaaRows
import Derived.WalkKit
import Derived.WalkLawsBesides
import Derived.OneCell
import Derived.Outline
import Derived.RowKit3
import Derived.Handy
import Derived.Laws.StructEq
import Derived.Lib.Hide
import Derived.Deep.QuietTactic
import Derived.BigQuiet
namespace Go.Proofs.Ytbanlnacoidccaa
open Go.RowKit
set_option linter.unusedSimpArgs false
set_option linter.unusedVariables false

/-- Which fields a command has: its id, E, P; is it one. -/
def hasID (op : Int) : Bool := decide (1 ≤ op) && decide (op ≤ 7)
def hasE (op : Int) : Bool := op == 1 || op == 2 || op == 7
def hasP (op : Int) : Bool := op == 1 || op == 2
def isOp (op : Int) : Bool := decide (1 ≤ op) && decide (op ≤ 8)

theorem fields_any (op : Int) (w : World) :
    Calls Try.prog 18 #[.int .i64 op] w fun e w' => e = .returned (.tuple #[.bool (hasID op), .bool (hasE op), .bool (hasP op), .bool (isOp op)]) ∧ w = w' := by
  by_cases h1 : op = 1
  · subst h1; go_enter Try.func18, Try.ntmps18; go_wp2; go_returns; exact ⟨rfl, rfl⟩
  by_cases h2 : op = 2
  · subst h2; go_enter Try.func18, Try.ntmps18; go_wp2; go_returns; exact ⟨rfl, rfl⟩
  by_cases h3 : op = 3
  · subst h3; go_enter Try.func18, Try.ntmps18; go_wp2; go_returns; exact ⟨rfl, rfl⟩
  by_cases h4 : op = 4
  · subst h4; go_enter Try.func18, Try.ntmps18; go_wp2; go_returns; exact ⟨rfl, rfl⟩
  by_cases h5 : op = 5
  · subst h5; go_enter Try.func18, Try.ntmps18; go_wp2; go_returns; exact ⟨rfl, rfl⟩
  by_cases h6 : op = 6
  · subst h6; go_enter Try.func18, Try.ntmps18; go_wp2; go_returns; exact ⟨rfl, rfl⟩
  by_cases h7 : op = 7
  · subst h7; go_enter Try.func18, Try.ntmps18; go_wp2; go_returns; exact ⟨rfl, rfl⟩
  by_cases h8 : op = 8
  · subst h8; go_enter Try.func18, Try.ntmps18; go_wp2; go_returns; exact ⟨rfl, rfl⟩
  have e1 : (op == 1) = false := by simpa using h1
  have e2 : (op == 2) = false := by simpa using h2
  have e3 : (op == 3) = false := by simpa using h3
  have e4 : (op == 4) = false := by simpa using h4
  have e5 : (op == 5) = false := by simpa using h5
  have e6 : (op == 6) = false := by simpa using h6
  have e7 : (op == 7) = false := by simpa using h7
  have e8 : (op == 8) = false := by simpa using h8
  have r1 : hasID op = false := by unfold hasID; simp; omega
  have r2 : hasE op = false := by unfold hasE; simp [e1, e2, e7]
  have r3 : hasP op = false := by unfold hasP; simp [e1, e2]
  have r4 : isOp op = false := by unfold isOp; simp; omega
  rw [r1, r2, r3, r4]
  clear r1 r2 r3 r4
  go_enter Try.func18, Try.ntmps18; go_wp2; go_returns; exact ⟨rfl, rfl⟩

/-- May a field be. -/
def okF (n most : Int) (has : Bool) : Bool := n == 0 || (has && (decide (0 < n) && decide (n ≤ most)))

theorem fits_any (n most : Int) (has : Bool) (w : World) :
    Calls Try.prog 19 #[.int .i64 n, .int .i64 most, .bool has] w fun e w' => e = .returned (.bool (okF n most has)) ∧ w = w' := by
  by_cases h0 : n = 0
  · have r : okF n most has = true := by unfold okF; simp [h0]
    rw [r]
    have e0 : (n == 0) = true := by simpa using h0
    clear r h0
    go_enter Try.func19, Try.ntmps19; go_wp2; go_returns; exact ⟨rfl, rfl⟩
  · have e0 : (n == 0) = false := by simpa using h0
    clear h0
    cases has
    · have r : okF n most false = false := by unfold okF; simp [e0]
      rw [r]; clear r
      go_enter Try.func19, Try.ntmps19; go_wp2; go_returns; exact ⟨rfl, rfl⟩
    · by_cases h1 : 0 < n
      · have d1 : decide (0 < n) = true := by simpa using h1
        by_cases h2 : n ≤ most
        · have d2 : decide (n ≤ most) = true := by simpa using h2
          have r : okF n most true = true := by unfold okF; simp [e0, d1, d2, h1, h2]
          rw [r]; clear r
          go_enter Try.func19, Try.ntmps19; go_wp2; go_returns; exact ⟨rfl, rfl⟩
        · have d2 : decide (n ≤ most) = false := by simpa using h2
          have r : okF n most true = false := by unfold okF; simp [e0, d1, d2, h1]
          rw [r]; clear r
          go_enter Try.func19, Try.ntmps19; go_wp2; go_returns; exact ⟨rfl, rfl⟩
      · have d1 : decide (0 < n) = false := by simpa using h1
        have r : okF n most true = false := by unfold okF; simp [e0, d1]
        rw [r]; clear r
        go_enter Try.func19, Try.ntmps19; go_wp2; go_returns; exact ⟨rfl, rfl⟩
end Go.Proofs.Ytbanlnacoidccaa
