/-
  No cell of these rows narrows 'for every input' (looked for: loops, veiled, ifaces, maps, wideKeys, modest, calm, conditions, laid).
  DERIVED. THE GIVEN ROWS OF THIS SEAT. 5 by the template 'for every input the law returns true; each argument reads behind the call as it read before'; 0 by the template 'total and deterministic' (their statements: YtgfbfklnhmndfaaGreatTotals.lean).
  GIVEN WITH THE SEED: the statements are not yours to turn. If you find one false, say at which input.
  Laid BY PROGRAM, IN A SANDBOX (cutbox-rows.mjs): the forced cells as the released guide's own fill.sh prints them over the translation 72ad57025af13efe… (all of the seat's roots in one cut). By AI agents, Wed Nov 11 2026. No macro, syntax, notation, axiom, sorry.
-/
import Derived.Test.YtgfbfklnhmndfaaGreatChecked
import GoSem.Claim
import GoSem.ClaimJoined
import GoSem.ClaimMapViews
import Derived.JoinedTies
import Derived.KernelRfl
namespace Go.Proofs.YtgfbfklnhmndfaaGreat
/- THE CELL 'sum', in the pinned program and in every row, IS THE sha256 OF THE DUMP (.gsa) THAT YtgfbfklnhmndfaaGreatProg.lean LOADS. Nothing in Lean hashes anything: it is a label: what it is worth is what the hold of that sum in a sandbox is worth. -/
noncomputable def Tryz.pinned : Pinned := { name := "ytgfbfklnhmndfaagreat", sum := "72ad57025af13efea11eb62088a109c1106b4fb8b9e57093bf866fef0b3d6758", checked := Tryz.checked }
namespace Rows
def none {H : Type} : Left H := { results := [], args := [] }

/-- 'evenhandedtop.TopHorizon': WHATEVER THE INPUT: true; the input reads as it did. -/
def topHorizonSpec : ChangeSpec := { name := "topHorizon", fn := fun _ => fun
  | [d1, d2, d3] => { results := [.lit (.bool true)], args := [d1, d2, d3] }
  | _ => none }
def topHorizonRow : OpenClaim := { program := "ytgfbfklnhmndfaagreat", sum := "72ad57025af13efea11eb62088a109c1106b4fb8b9e57093bf866fef0b3d6758", func := "evenhanded/evenhandedtop.TopHorizon", spec := "topHorizon", inPlace := ["math/bits.Sub64", "math/bits.Add64", "sync/atomic.AddInt64", "sync/atomic.LoadInt64", "sync/atomic.StoreInt64"], unfollowed := true, recurses := true, named := ["math/bits.divideError", "math/bits.overflowError"], apart := false }
def TopHorizonSaid : Prop := topHorizonRow.holds Tryz.pinned (OpenSpec.ofChange topHorizonSpec)

/-- ITS FALSE NEIGHBOUR: 'it returns false'. Refute it at one input. -/
def topHorizonWrong : ChangeSpec := { name := "topHorizon", fn := fun _ => fun
  | [d1, d2, d3] => { results := [.lit (.bool false)], args := [d1, d2, d3] }
  | _ => none }
def TopHorizonWrongFalsely : Prop := topHorizonRow.holds Tryz.pinned (OpenSpec.ofChange topHorizonWrong)

/-- 'evenhandedtop.TopOnes': WHATEVER THE INPUT: true; the input reads as it did. -/
def topOnesSpec : ChangeSpec := { name := "topOnes", fn := fun _ => fun
  | [d1, d2, d3] => { results := [.lit (.bool true)], args := [d1, d2, d3] }
  | _ => none }
def topOnesRow : OpenClaim := { program := "ytgfbfklnhmndfaagreat", sum := "72ad57025af13efea11eb62088a109c1106b4fb8b9e57093bf866fef0b3d6758", func := "evenhanded/evenhandedtop.TopOnes", spec := "topOnes", inPlace := ["math/bits.Sub64", "math/bits.Add64", "sync/atomic.AddInt64", "sync/atomic.LoadInt64", "sync/atomic.StoreInt64"], unfollowed := true, recurses := true, named := ["math/bits.divideError", "math/bits.overflowError"], apart := false }
def TopOnesSaid : Prop := topOnesRow.holds Tryz.pinned (OpenSpec.ofChange topOnesSpec)

/-- ITS FALSE NEIGHBOUR: 'it returns false'. Refute it at one input. -/
def topOnesWrong : ChangeSpec := { name := "topOnes", fn := fun _ => fun
  | [d1, d2, d3] => { results := [.lit (.bool false)], args := [d1, d2, d3] }
  | _ => none }
def TopOnesWrongFalsely : Prop := topOnesRow.holds Tryz.pinned (OpenSpec.ofChange topOnesWrong)

/-- 'evenhandedtop.TopDone': WHATEVER THE INPUT: true; the input reads as it did. -/
def topDoneSpec : ChangeSpec := { name := "topDone", fn := fun _ => fun
  | [d1, d2, d3] => { results := [.lit (.bool true)], args := [d1, d2, d3] }
  | _ => none }
def topDoneRow : OpenClaim := { program := "ytgfbfklnhmndfaagreat", sum := "72ad57025af13efea11eb62088a109c1106b4fb8b9e57093bf866fef0b3d6758", func := "evenhanded/evenhandedtop.TopDone", spec := "topDone", inPlace := ["math/bits.Sub64", "math/bits.Add64", "sync/atomic.AddInt64", "sync/atomic.LoadInt64", "sync/atomic.StoreInt64"], unfollowed := true, recurses := true, named := ["math/bits.divideError", "math/bits.overflowError"], apart := false }
def TopDoneSaid : Prop := topDoneRow.holds Tryz.pinned (OpenSpec.ofChange topDoneSpec)

/-- ITS FALSE NEIGHBOUR: 'it returns false'. Refute it at one input. -/
def topDoneWrong : ChangeSpec := { name := "topDone", fn := fun _ => fun
  | [d1, d2, d3] => { results := [.lit (.bool false)], args := [d1, d2, d3] }
  | _ => none }
def TopDoneWrongFalsely : Prop := topDoneRow.holds Tryz.pinned (OpenSpec.ofChange topDoneWrong)

/-- 'evenhandedtop.TopLags': WHATEVER THE INPUT: true; the input reads as it did. -/
def topLagsSpec : ChangeSpec := { name := "topLags", fn := fun _ => fun
  | [d1, d2] => { results := [.lit (.bool true)], args := [d1, d2] }
  | _ => none }
def topLagsRow : OpenClaim := { program := "ytgfbfklnhmndfaagreat", sum := "72ad57025af13efea11eb62088a109c1106b4fb8b9e57093bf866fef0b3d6758", func := "evenhanded/evenhandedtop.TopLags", spec := "topLags", inPlace := ["math/bits.Sub64", "math/bits.Add64", "sync/atomic.AddInt64", "sync/atomic.LoadInt64", "sync/atomic.StoreInt64"], unfollowed := true, recurses := true, named := ["math/bits.divideError", "math/bits.overflowError"], apart := false }
def TopLagsSaid : Prop := topLagsRow.holds Tryz.pinned (OpenSpec.ofChange topLagsSpec)

/-- ITS FALSE NEIGHBOUR: 'it returns false'. Refute it at one input. -/
def topLagsWrong : ChangeSpec := { name := "topLags", fn := fun _ => fun
  | [d1, d2] => { results := [.lit (.bool false)], args := [d1, d2] }
  | _ => none }
def TopLagsWrongFalsely : Prop := topLagsRow.holds Tryz.pinned (OpenSpec.ofChange topLagsWrong)

/-- 'evenhandedtop.TopEarly': WHATEVER THE INPUT: true; the input reads as it did. -/
def topEarlySpec : ChangeSpec := { name := "topEarly", fn := fun _ => fun
  | [d1, d2, d3] => { results := [.lit (.bool true)], args := [d1, d2, d3] }
  | _ => none }
def topEarlyRow : OpenClaim := { program := "ytgfbfklnhmndfaagreat", sum := "72ad57025af13efea11eb62088a109c1106b4fb8b9e57093bf866fef0b3d6758", func := "evenhanded/evenhandedtop.TopEarly", spec := "topEarly", inPlace := ["math/bits.Sub64", "math/bits.Add64", "sync/atomic.AddInt64", "sync/atomic.LoadInt64", "sync/atomic.StoreInt64"], unfollowed := true, recurses := true, named := ["math/bits.divideError", "math/bits.overflowError"], apart := false }
def TopEarlySaid : Prop := topEarlyRow.holds Tryz.pinned (OpenSpec.ofChange topEarlySpec)

/-- ITS FALSE NEIGHBOUR: 'it returns false'. Refute it at one input. -/
def topEarlyWrong : ChangeSpec := { name := "topEarly", fn := fun _ => fun
  | [d1, d2, d3] => { results := [.lit (.bool false)], args := [d1, d2, d3] }
  | _ => none }
def TopEarlyWrongFalsely : Prop := topEarlyRow.holds Tryz.pinned (OpenSpec.ofChange topEarlyWrong)

/- THE SECOND FORM. 'bulk': how many values and letters a reading holds, each counted each time it is reached (what is shared counts as often as it is met; a slice's spare places count too). A statement '..UptoSaid' is the law's where the arguments, and the package variables that the reading takes, are together of bulk at most 1048576: NARROWER than '..Said'. Prove '..Said' where nothing that the law and all that it calls make is longer than what came in: it says more and counts as full. Else prove '..UptoSaid'. A law counts once. -/
mutual
def uptoBulk {H : Type} : DataW H → Nat
  | .lit (.string bytes) => bytes.length + 1
  | .lit _ => 1
  | .nil => 1
  | .ptr d => uptoBulk d + 1
  | .slice elems spare => uptoBulkAll elems + uptoBulkAll spare + 1
  | .agg parts => uptoBulkAll parts + 1
  | .iface _ d => uptoBulk d + 1
  | .map entries => uptoBulkEntries entries + 1
  | .held _ => 1
def uptoBulkAll {H : Type} : List (DataW H) → Nat
  | [] => 0
  | d :: r => uptoBulk d + uptoBulkAll r
def uptoBulkEntries {H : Type} : List (Lit × DataW H) → Nat
  | [] => 0
  | x :: r => uptoBulkEntry x + uptoBulkEntries r
def uptoBulkEntry {H : Type} : Lit × DataW H → Nat
  | (.string bytes, d) => bytes.length + uptoBulk d + 1
  | (_, d) => uptoBulk d + 1
 end
def uptoSmall : (H : Type) → List (DataW H) → Bool := fun _ ds => decide (uptoBulkAll ds ≤ 1048576)
def OpenSpec.upto (s : _root_.Go.ChangeSpec) : _root_.Go.OpenSpec := { _root_.Go.OpenSpec.ofChange s with cond := some uptoSmall }

/-- 'evenhandedtop.TopHorizon', WHERE WHAT IT READS IS OF BULK AT MOST 1048576: true; the input reads as it did. -/
def topHorizonUptoRow : OpenClaim := { program := "ytgfbfklnhmndfaagreat", sum := "72ad57025af13efea11eb62088a109c1106b4fb8b9e57093bf866fef0b3d6758", func := "evenhanded/evenhandedtop.TopHorizon", spec := "topHorizon", inPlace := ["math/bits.Sub64", "math/bits.Add64", "sync/atomic.AddInt64", "sync/atomic.LoadInt64", "sync/atomic.StoreInt64"], unfollowed := true, recurses := true, named := ["math/bits.divideError", "math/bits.overflowError"], apart := false, narrowed := true }
def TopHorizonUptoSaid : Prop := topHorizonUptoRow.holds Tryz.pinned (OpenSpec.upto topHorizonSpec)

/-- 'evenhandedtop.TopOnes', WHERE WHAT IT READS IS OF BULK AT MOST 1048576: true; the input reads as it did. -/
def topOnesUptoRow : OpenClaim := { program := "ytgfbfklnhmndfaagreat", sum := "72ad57025af13efea11eb62088a109c1106b4fb8b9e57093bf866fef0b3d6758", func := "evenhanded/evenhandedtop.TopOnes", spec := "topOnes", inPlace := ["math/bits.Sub64", "math/bits.Add64", "sync/atomic.AddInt64", "sync/atomic.LoadInt64", "sync/atomic.StoreInt64"], unfollowed := true, recurses := true, named := ["math/bits.divideError", "math/bits.overflowError"], apart := false, narrowed := true }
def TopOnesUptoSaid : Prop := topOnesUptoRow.holds Tryz.pinned (OpenSpec.upto topOnesSpec)

/-- 'evenhandedtop.TopDone', WHERE WHAT IT READS IS OF BULK AT MOST 1048576: true; the input reads as it did. -/
def topDoneUptoRow : OpenClaim := { program := "ytgfbfklnhmndfaagreat", sum := "72ad57025af13efea11eb62088a109c1106b4fb8b9e57093bf866fef0b3d6758", func := "evenhanded/evenhandedtop.TopDone", spec := "topDone", inPlace := ["math/bits.Sub64", "math/bits.Add64", "sync/atomic.AddInt64", "sync/atomic.LoadInt64", "sync/atomic.StoreInt64"], unfollowed := true, recurses := true, named := ["math/bits.divideError", "math/bits.overflowError"], apart := false, narrowed := true }
def TopDoneUptoSaid : Prop := topDoneUptoRow.holds Tryz.pinned (OpenSpec.upto topDoneSpec)

/-- 'evenhandedtop.TopLags', WHERE WHAT IT READS IS OF BULK AT MOST 1048576: true; the input reads as it did. -/
def topLagsUptoRow : OpenClaim := { program := "ytgfbfklnhmndfaagreat", sum := "72ad57025af13efea11eb62088a109c1106b4fb8b9e57093bf866fef0b3d6758", func := "evenhanded/evenhandedtop.TopLags", spec := "topLags", inPlace := ["math/bits.Sub64", "math/bits.Add64", "sync/atomic.AddInt64", "sync/atomic.LoadInt64", "sync/atomic.StoreInt64"], unfollowed := true, recurses := true, named := ["math/bits.divideError", "math/bits.overflowError"], apart := false, narrowed := true }
def TopLagsUptoSaid : Prop := topLagsUptoRow.holds Tryz.pinned (OpenSpec.upto topLagsSpec)

/-- 'evenhandedtop.TopEarly', WHERE WHAT IT READS IS OF BULK AT MOST 1048576: true; the input reads as it did. -/
def topEarlyUptoRow : OpenClaim := { program := "ytgfbfklnhmndfaagreat", sum := "72ad57025af13efea11eb62088a109c1106b4fb8b9e57093bf866fef0b3d6758", func := "evenhanded/evenhandedtop.TopEarly", spec := "topEarly", inPlace := ["math/bits.Sub64", "math/bits.Add64", "sync/atomic.AddInt64", "sync/atomic.LoadInt64", "sync/atomic.StoreInt64"], unfollowed := true, recurses := true, named := ["math/bits.divideError", "math/bits.overflowError"], apart := false, narrowed := true }
def TopEarlyUptoSaid : Prop := topEarlyUptoRow.holds Tryz.pinned (OpenSpec.upto topEarlySpec)

end Rows
end Go.Proofs.YtgfbfklnhmndfaaGreat
