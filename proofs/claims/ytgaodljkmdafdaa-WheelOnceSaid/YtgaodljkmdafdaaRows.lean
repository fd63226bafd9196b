/-
  No cell of these rows narrows 'for every input' (looked for: loops, veiled, ifaces, maps, wideKeys, modest, calm, conditions, laid).
  DERIVED. THE GIVEN ROWS OF THIS SEAT. 7 by the template 'for every input the law returns true; each argument reads behind the call as it read before'; 0 by the template 'total and deterministic' (their statements: YtgaodljkmdafdaaTotals.lean).
  GIVEN WITH THE SEED: the statements are not yours to turn. If you find one false, say at which input.
  Laid BY PROGRAM, IN A SANDBOX (cutbox-rows.mjs): the forced cells as the released guide's own fill.sh prints them over the translation f0833d43aa1a8b78… (all of the seat's roots in one cut). By AI agents, Wed Nov 11 2026. No macro, syntax, notation, axiom, sorry.
-/
import Derived.Test.YtgaodljkmdafdaaChecked
import GoSem.Claim
import GoSem.ClaimJoined
import GoSem.ClaimMapViews
import Derived.JoinedTies
import Derived.KernelRfl
namespace Go.Proofs.Ytgaodljkmdafdaa
/- THE CELL 'sum', in the pinned program and in every row, IS THE sha256 OF THE DUMP (.gsa) THAT YtgaodljkmdafdaaProg.lean LOADS. Nothing in Lean hashes anything: it is a label: what it is worth is what the hold of that sum in a sandbox is worth. -/
noncomputable def Try.pinned : Pinned := { name := "ytgaodljkmdafdaa", sum := "f0833d43aa1a8b78c7913cbce94472e583e540024af14cd475ea36a3d429d464", checked := Try.checked }
namespace Rows
def none {H : Type} : Left H := { results := [], args := [] }

/-- 'waystationlaw06.WheelCalls': WHATEVER THE INPUT: true; the input reads as it did. -/
def wheelCallsSpec : ChangeSpec := { name := "wheelCalls", fn := fun _ => fun
  | [d1, d2, d3] => { results := [.lit (.bool true)], args := [d1, d2, d3] }
  | _ => none }
def wheelCallsRow : OpenClaim := { program := "ytgaodljkmdafdaa", sum := "f0833d43aa1a8b78c7913cbce94472e583e540024af14cd475ea36a3d429d464", func := "waystation/waystationlaw06.WheelCalls", spec := "wheelCalls", inPlace := ["slices.overlaps[waystation/wheel.Timer]"], unfollowed := true, recurses := true, apart := false }
def WheelCallsSaid : Prop := wheelCallsRow.holds Try.pinned (OpenSpec.ofChange wheelCallsSpec)

/-- ITS FALSE NEIGHBOUR: 'it returns false'. Refute it at one input. -/
def wheelCallsWrong : ChangeSpec := { name := "wheelCalls", fn := fun _ => fun
  | [d1, d2, d3] => { results := [.lit (.bool false)], args := [d1, d2, d3] }
  | _ => none }
def WheelCallsWrongFalsely : Prop := wheelCallsRow.holds Try.pinned (OpenSpec.ofChange wheelCallsWrong)

/-- 'waystationlaw06.WheelRow': WHATEVER THE INPUT: true; the input reads as it did. -/
def wheelRowSpec : ChangeSpec := { name := "wheelRow", fn := fun _ => fun
  | [d] => { results := [.lit (.bool true)], args := [d] }
  | _ => none }
def wheelRowRow : OpenClaim := { program := "ytgaodljkmdafdaa", sum := "f0833d43aa1a8b78c7913cbce94472e583e540024af14cd475ea36a3d429d464", func := "waystation/waystationlaw06.WheelRow", spec := "wheelRow", inPlace := ["slices.overlaps[waystation/wheel.Timer]"], unfollowed := true, recurses := true, apart := false }
def WheelRowSaid : Prop := wheelRowRow.holds Try.pinned (OpenSpec.ofChange wheelRowSpec)

/-- ITS FALSE NEIGHBOUR: 'it returns false'. Refute it at one input. -/
def wheelRowWrong : ChangeSpec := { name := "wheelRow", fn := fun _ => fun
  | [d] => { results := [.lit (.bool false)], args := [d] }
  | _ => none }
def WheelRowWrongFalsely : Prop := wheelRowRow.holds Try.pinned (OpenSpec.ofChange wheelRowWrong)

/-- 'waystationlaw06.WheelPieces': WHATEVER THE INPUT: true; the input reads as it did. -/
def wheelPiecesSpec : ChangeSpec := { name := "wheelPieces", fn := fun _ => fun
  | [d1, d2] => { results := [.lit (.bool true)], args := [d1, d2] }
  | _ => none }
def wheelPiecesRow : OpenClaim := { program := "ytgaodljkmdafdaa", sum := "f0833d43aa1a8b78c7913cbce94472e583e540024af14cd475ea36a3d429d464", func := "waystation/waystationlaw06.WheelPieces", spec := "wheelPieces", inPlace := ["slices.overlaps[waystation/wheel.Timer]"], unfollowed := true, recurses := true, apart := false }
def WheelPiecesSaid : Prop := wheelPiecesRow.holds Try.pinned (OpenSpec.ofChange wheelPiecesSpec)

/-- ITS FALSE NEIGHBOUR: 'it returns false'. Refute it at one input. -/
def wheelPiecesWrong : ChangeSpec := { name := "wheelPieces", fn := fun _ => fun
  | [d1, d2] => { results := [.lit (.bool false)], args := [d1, d2] }
  | _ => none }
def WheelPiecesWrongFalsely : Prop := wheelPiecesRow.holds Try.pinned (OpenSpec.ofChange wheelPiecesWrong)

/-- 'waystationlaw06.WheelOnce': WHATEVER THE INPUT: true; the input reads as it did. -/
def wheelOnceSpec : ChangeSpec := { name := "wheelOnce", fn := fun _ => fun
  | [d] => { results := [.lit (.bool true)], args := [d] }
  | _ => none }
def wheelOnceRow : OpenClaim := { program := "ytgaodljkmdafdaa", sum := "f0833d43aa1a8b78c7913cbce94472e583e540024af14cd475ea36a3d429d464", func := "waystation/waystationlaw06.WheelOnce", spec := "wheelOnce", inPlace := ["slices.overlaps[waystation/wheel.Timer]"], unfollowed := true, recurses := true, apart := false }
def WheelOnceSaid : Prop := wheelOnceRow.holds Try.pinned (OpenSpec.ofChange wheelOnceSpec)

/-- ITS FALSE NEIGHBOUR: 'it returns false'. Refute it at one input. -/
def wheelOnceWrong : ChangeSpec := { name := "wheelOnce", fn := fun _ => fun
  | [d] => { results := [.lit (.bool false)], args := [d] }
  | _ => none }
def WheelOnceWrongFalsely : Prop := wheelOnceRow.holds Try.pinned (OpenSpec.ofChange wheelOnceWrong)

/-- 'waystationlaw06.WheelSets': WHATEVER THE INPUT: true; the input reads as it did. -/
def wheelSetsSpec : ChangeSpec := { name := "wheelSets", fn := fun _ => fun
  | [d1, d2, d3] => { results := [.lit (.bool true)], args := [d1, d2, d3] }
  | _ => none }
def wheelSetsRow : OpenClaim := { program := "ytgaodljkmdafdaa", sum := "f0833d43aa1a8b78c7913cbce94472e583e540024af14cd475ea36a3d429d464", func := "waystation/waystationlaw06.WheelSets", spec := "wheelSets", inPlace := ["slices.overlaps[waystation/wheel.Timer]"], unfollowed := true, recurses := true, apart := false }
def WheelSetsSaid : Prop := wheelSetsRow.holds Try.pinned (OpenSpec.ofChange wheelSetsSpec)

/-- ITS FALSE NEIGHBOUR: 'it returns false'. Refute it at one input. -/
def wheelSetsWrong : ChangeSpec := { name := "wheelSets", fn := fun _ => fun
  | [d1, d2, d3] => { results := [.lit (.bool false)], args := [d1, d2, d3] }
  | _ => none }
def WheelSetsWrongFalsely : Prop := wheelSetsRow.holds Try.pinned (OpenSpec.ofChange wheelSetsWrong)

/-- 'waystationlaw06.WheelNext': WHATEVER THE INPUT: true; the input reads as it did. -/
def wheelNextSpec : ChangeSpec := { name := "wheelNext", fn := fun _ => fun
  | [d] => { results := [.lit (.bool true)], args := [d] }
  | _ => none }
def wheelNextRow : OpenClaim := { program := "ytgaodljkmdafdaa", sum := "f0833d43aa1a8b78c7913cbce94472e583e540024af14cd475ea36a3d429d464", func := "waystation/waystationlaw06.WheelNext", spec := "wheelNext", inPlace := ["slices.overlaps[waystation/wheel.Timer]"], unfollowed := true, recurses := true, apart := false }
def WheelNextSaid : Prop := wheelNextRow.holds Try.pinned (OpenSpec.ofChange wheelNextSpec)

/-- ITS FALSE NEIGHBOUR: 'it returns false'. Refute it at one input. -/
def wheelNextWrong : ChangeSpec := { name := "wheelNext", fn := fun _ => fun
  | [d] => { results := [.lit (.bool false)], args := [d] }
  | _ => none }
def WheelNextWrongFalsely : Prop := wheelNextRow.holds Try.pinned (OpenSpec.ofChange wheelNextWrong)

/-- 'waystationlaw06.WheelStops': WHATEVER THE INPUT: true; the input reads as it did. -/
def wheelStopsSpec : ChangeSpec := { name := "wheelStops", fn := fun _ => fun
  | [d1, d2, d3] => { results := [.lit (.bool true)], args := [d1, d2, d3] }
  | _ => none }
def wheelStopsRow : OpenClaim := { program := "ytgaodljkmdafdaa", sum := "f0833d43aa1a8b78c7913cbce94472e583e540024af14cd475ea36a3d429d464", func := "waystation/waystationlaw06.WheelStops", spec := "wheelStops", inPlace := ["slices.overlaps[waystation/wheel.Timer]"], unfollowed := true, recurses := true, apart := false }
def WheelStopsSaid : Prop := wheelStopsRow.holds Try.pinned (OpenSpec.ofChange wheelStopsSpec)

/-- ITS FALSE NEIGHBOUR: 'it returns false'. Refute it at one input. -/
def wheelStopsWrong : ChangeSpec := { name := "wheelStops", fn := fun _ => fun
  | [d1, d2, d3] => { results := [.lit (.bool false)], args := [d1, d2, d3] }
  | _ => none }
def WheelStopsWrongFalsely : Prop := wheelStopsRow.holds Try.pinned (OpenSpec.ofChange wheelStopsWrong)

/- THE SECOND FORM. 'bulk': how many values and letters a reading holds, each counted each time it is reached (what is shared counts as often as it is met; a slice's spare places count too). A statement '..UptoSaid' is the law's where the arguments, and the package variables that the reading takes, are together of bulk at most 1048576: NARROWER than '..Said'. Prove '..Said' where nothing that the law and all that it calls make is longer than what came in: it says more and counts as full. Else prove '..UptoSaid'. A law counts once. -/
mutual
def uptoBulk {H : Type} : DataW H → Nat
  | .lit (.string bytes) => bytes.length + 1
  | .lit _ => 1
  | .nil => 1
  | .ptr d => uptoBulk d + 1
  | .slice elems spare => uptoBulkAll elems + uptoBulkAll spare + 1
  | .agg parts => uptoBulkAll parts + 1
  | .iface _ d => uptoBulk d + 1
  | .map entries => uptoBulkEntries entries + 1
  | .held _ => 1
def uptoBulkAll {H : Type} : List (DataW H) → Nat
  | [] => 0
  | d :: r => uptoBulk d + uptoBulkAll r
def uptoBulkEntries {H : Type} : List (Lit × DataW H) → Nat
  | [] => 0
  | x :: r => uptoBulkEntry x + uptoBulkEntries r
def uptoBulkEntry {H : Type} : Lit × DataW H → Nat
  | (.string bytes, d) => bytes.length + uptoBulk d + 1
  | (_, d) => uptoBulk d + 1
 end
def uptoSmall : (H : Type) → List (DataW H) → Bool := fun _ ds => decide (uptoBulkAll ds ≤ 1048576)
def OpenSpec.upto (s : _root_.Go.ChangeSpec) : _root_.Go.OpenSpec := { _root_.Go.OpenSpec.ofChange s with cond := some uptoSmall }

/-- 'waystationlaw06.WheelCalls', WHERE WHAT IT READS IS OF BULK AT MOST 1048576: true; the input reads as it did. -/
def wheelCallsUptoRow : OpenClaim := { program := "ytgaodljkmdafdaa", sum := "f0833d43aa1a8b78c7913cbce94472e583e540024af14cd475ea36a3d429d464", func := "waystation/waystationlaw06.WheelCalls", spec := "wheelCalls", inPlace := ["slices.overlaps[waystation/wheel.Timer]"], unfollowed := true, recurses := true, apart := false, narrowed := true }
def WheelCallsUptoSaid : Prop := wheelCallsUptoRow.holds Try.pinned (OpenSpec.upto wheelCallsSpec)

/-- 'waystationlaw06.WheelRow', WHERE WHAT IT READS IS OF BULK AT MOST 1048576: true; the input reads as it did. -/
def wheelRowUptoRow : OpenClaim := { program := "ytgaodljkmdafdaa", sum := "f0833d43aa1a8b78c7913cbce94472e583e540024af14cd475ea36a3d429d464", func := "waystation/waystationlaw06.WheelRow", spec := "wheelRow", inPlace := ["slices.overlaps[waystation/wheel.Timer]"], unfollowed := true, recurses := true, apart := false, narrowed := true }
def WheelRowUptoSaid : Prop := wheelRowUptoRow.holds Try.pinned (OpenSpec.upto wheelRowSpec)

/-- 'waystationlaw06.WheelPieces', WHERE WHAT IT READS IS OF BULK AT MOST 1048576: true; the input reads as it did. -/
def wheelPiecesUptoRow : OpenClaim := { program := "ytgaodljkmdafdaa", sum := "f0833d43aa1a8b78c7913cbce94472e583e540024af14cd475ea36a3d429d464", func := "waystation/waystationlaw06.WheelPieces", spec := "wheelPieces", inPlace := ["slices.overlaps[waystation/wheel.Timer]"], unfollowed := true, recurses := true, apart := false, narrowed := true }
def WheelPiecesUptoSaid : Prop := wheelPiecesUptoRow.holds Try.pinned (OpenSpec.upto wheelPiecesSpec)

/-- 'waystationlaw06.WheelOnce', WHERE WHAT IT READS IS OF BULK AT MOST 1048576: true; the input reads as it did. -/
def wheelOnceUptoRow : OpenClaim := { program := "ytgaodljkmdafdaa", sum := "f0833d43aa1a8b78c7913cbce94472e583e540024af14cd475ea36a3d429d464", func := "waystation/waystationlaw06.WheelOnce", spec := "wheelOnce", inPlace := ["slices.overlaps[waystation/wheel.Timer]"], unfollowed := true, recurses := true, apart := false, narrowed := true }
def WheelOnceUptoSaid : Prop := wheelOnceUptoRow.holds Try.pinned (OpenSpec.upto wheelOnceSpec)

/-- 'waystationlaw06.WheelSets', WHERE WHAT IT READS IS OF BULK AT MOST 1048576: true; the input reads as it did. -/
def wheelSetsUptoRow : OpenClaim := { program := "ytgaodljkmdafdaa", sum := "f0833d43aa1a8b78c7913cbce94472e583e540024af14cd475ea36a3d429d464", func := "waystation/waystationlaw06.WheelSets", spec := "wheelSets", inPlace := ["slices.overlaps[waystation/wheel.Timer]"], unfollowed := true, recurses := true, apart := false, narrowed := true }
def WheelSetsUptoSaid : Prop := wheelSetsUptoRow.holds Try.pinned (OpenSpec.upto wheelSetsSpec)

/-- 'waystationlaw06.WheelNext', WHERE WHAT IT READS IS OF BULK AT MOST 1048576: true; the input reads as it did. -/
def wheelNextUptoRow : OpenClaim := { program := "ytgaodljkmdafdaa", sum := "f0833d43aa1a8b78c7913cbce94472e583e540024af14cd475ea36a3d429d464", func := "waystation/waystationlaw06.WheelNext", spec := "wheelNext", inPlace := ["slices.overlaps[waystation/wheel.Timer]"], unfollowed := true, recurses := true, apart := false, narrowed := true }
def WheelNextUptoSaid : Prop := wheelNextUptoRow.holds Try.pinned (OpenSpec.upto wheelNextSpec)

/-- 'waystationlaw06.WheelStops', WHERE WHAT IT READS IS OF BULK AT MOST 1048576: true; the input reads as it did. -/
def wheelStopsUptoRow : OpenClaim := { program := "ytgaodljkmdafdaa", sum := "f0833d43aa1a8b78c7913cbce94472e583e540024af14cd475ea36a3d429d464", func := "waystation/waystationlaw06.WheelStops", spec := "wheelStops", inPlace := ["slices.overlaps[waystation/wheel.Timer]"], unfollowed := true, recurses := true, apart := false, narrowed := true }
def WheelStopsUptoSaid : Prop := wheelStopsUptoRow.holds Try.pinned (OpenSpec.upto wheelStopsSpec)

end Rows
end Go.Proofs.Ytgaodljkmdafdaa
