/-
  No cell of these rows narrows 'for every input' (looked for: loops, veiled, ifaces, maps, wideKeys, modest, calm, conditions, laid).
  DERIVED. THE GIVEN ROWS OF THIS SEAT. 7 by the template 'for every input the law returns true; each argument reads behind the call as it read before'; 0 by the template 'total and deterministic' (their statements: YtmpoiddaolpjgaaTotals.lean).
  GIVEN WITH THE SEED: the statements are not yours to turn. If you find one false, say at which input.
  Laid BY PROGRAM, IN A SANDBOX (cutbox-rows.mjs): the forced cells as the released guide's own fill.sh prints them over the translation 47e94565d3c7474c… (all of the seat's roots in one cut). By AI agents, Wed Nov 11 2026. No macro, syntax, notation, axiom, sorry.
-/
import Derived.Test.YtmpoiddaolpjgaaChecked
import GoSem.Claim
import GoSem.ClaimJoined
import GoSem.ClaimMapViews
import Derived.JoinedTies
import Derived.KernelRfl
namespace Go.Proofs.Ytmpoiddaolpjgaa
/- THE CELL 'sum', in the pinned program and in every row, IS THE sha256 OF THE DUMP (.gsa) THAT YtmpoiddaolpjgaaProg.lean LOADS. Nothing in Lean hashes anything: it is a label: what it is worth is what the hold of that sum in a sandbox is worth. -/
noncomputable def Try.pinned : Pinned := { name := "ytmpoiddaolpjgaa", sum := "47e94565d3c7474c1747448d89b884b3ac338978110f5aacd1890eeab92ba8f9", checked := Try.checked }
namespace Rows
def none {H : Type} : Left H := { results := [], args := [] }

/-- 'waystationlaw03.SumSums': WHATEVER THE INPUT: true; the input reads as it did. -/
def sumSumsSpec : ChangeSpec := { name := "sumSums", fn := fun _ => fun
  | [d] => { results := [.lit (.bool true)], args := [d] }
  | _ => none }
def sumSumsRow : OpenClaim := { program := "ytmpoiddaolpjgaa", sum := "47e94565d3c7474c1747448d89b884b3ac338978110f5aacd1890eeab92ba8f9", func := "waystation/waystationlaw03.SumSums", spec := "sumSums", unfollowed := true, recurses := true, apart := false }
def SumSumsSaid : Prop := sumSumsRow.holds Try.pinned (OpenSpec.ofChange sumSumsSpec)

/-- ITS FALSE NEIGHBOUR: 'it returns false'. Refute it at one input. -/
def sumSumsWrong : ChangeSpec := { name := "sumSums", fn := fun _ => fun
  | [d] => { results := [.lit (.bool false)], args := [d] }
  | _ => none }
def SumSumsWrongFalsely : Prop := sumSumsRow.holds Try.pinned (OpenSpec.ofChange sumSumsWrong)

/-- 'waystationlaw03.SumFirst': WHATEVER THE INPUT: true; the input reads as it did. -/
def sumFirstSpec : ChangeSpec := { name := "sumFirst", fn := fun _ => fun
  | [d] => { results := [.lit (.bool true)], args := [d] }
  | _ => none }
def sumFirstRow : OpenClaim := { program := "ytmpoiddaolpjgaa", sum := "47e94565d3c7474c1747448d89b884b3ac338978110f5aacd1890eeab92ba8f9", func := "waystation/waystationlaw03.SumFirst", spec := "sumFirst", unfollowed := true, recurses := true, apart := false }
def SumFirstSaid : Prop := sumFirstRow.holds Try.pinned (OpenSpec.ofChange sumFirstSpec)

/-- ITS FALSE NEIGHBOUR: 'it returns false'. Refute it at one input. -/
def sumFirstWrong : ChangeSpec := { name := "sumFirst", fn := fun _ => fun
  | [d] => { results := [.lit (.bool false)], args := [d] }
  | _ => none }
def SumFirstWrongFalsely : Prop := sumFirstRow.holds Try.pinned (OpenSpec.ofChange sumFirstWrong)

/-- 'waystationlaw03.SumBack': WHATEVER THE INPUT: true; the input reads as it did. -/
def sumBackSpec : ChangeSpec := { name := "sumBack", fn := fun _ => fun
  | [d1, d2] => { results := [.lit (.bool true)], args := [d1, d2] }
  | _ => none }
def sumBackRow : OpenClaim := { program := "ytmpoiddaolpjgaa", sum := "47e94565d3c7474c1747448d89b884b3ac338978110f5aacd1890eeab92ba8f9", func := "waystation/waystationlaw03.SumBack", spec := "sumBack", unfollowed := true, recurses := true, apart := false }
def SumBackSaid : Prop := sumBackRow.holds Try.pinned (OpenSpec.ofChange sumBackSpec)

/-- ITS FALSE NEIGHBOUR: 'it returns false'. Refute it at one input. -/
def sumBackWrong : ChangeSpec := { name := "sumBack", fn := fun _ => fun
  | [d1, d2] => { results := [.lit (.bool false)], args := [d1, d2] }
  | _ => none }
def SumBackWrongFalsely : Prop := sumBackRow.holds Try.pinned (OpenSpec.ofChange sumBackWrong)

/-- 'waystationlaw03.SumTurned': WHATEVER THE INPUT: true; the input reads as it did. -/
def sumTurnedSpec : ChangeSpec := { name := "sumTurned", fn := fun _ => fun
  | [d1, d2, d3] => { results := [.lit (.bool true)], args := [d1, d2, d3] }
  | _ => none }
def sumTurnedRow : OpenClaim := { program := "ytmpoiddaolpjgaa", sum := "47e94565d3c7474c1747448d89b884b3ac338978110f5aacd1890eeab92ba8f9", func := "waystation/waystationlaw03.SumTurned", spec := "sumTurned", unfollowed := true, recurses := true, apart := false }
def SumTurnedSaid : Prop := sumTurnedRow.holds Try.pinned (OpenSpec.ofChange sumTurnedSpec)

/-- ITS FALSE NEIGHBOUR: 'it returns false'. Refute it at one input. -/
def sumTurnedWrong : ChangeSpec := { name := "sumTurned", fn := fun _ => fun
  | [d1, d2, d3] => { results := [.lit (.bool false)], args := [d1, d2, d3] }
  | _ => none }
def SumTurnedWrongFalsely : Prop := sumTurnedRow.holds Try.pinned (OpenSpec.ofChange sumTurnedWrong)

/-- 'waystationlaw03.SumBytes': WHATEVER THE INPUT: true; the input reads as it did. -/
def sumBytesSpec : ChangeSpec := { name := "sumBytes", fn := fun _ => fun
  | [d1, d2, d3] => { results := [.lit (.bool true)], args := [d1, d2, d3] }
  | _ => none }
def sumBytesRow : OpenClaim := { program := "ytmpoiddaolpjgaa", sum := "47e94565d3c7474c1747448d89b884b3ac338978110f5aacd1890eeab92ba8f9", func := "waystation/waystationlaw03.SumBytes", spec := "sumBytes", unfollowed := true, recurses := true, apart := false }
def SumBytesSaid : Prop := sumBytesRow.holds Try.pinned (OpenSpec.ofChange sumBytesSpec)

/-- ITS FALSE NEIGHBOUR: 'it returns false'. Refute it at one input. -/
def sumBytesWrong : ChangeSpec := { name := "sumBytes", fn := fun _ => fun
  | [d1, d2, d3] => { results := [.lit (.bool false)], args := [d1, d2, d3] }
  | _ => none }
def SumBytesWrongFalsely : Prop := sumBytesRow.holds Try.pinned (OpenSpec.ofChange sumBytesWrong)

/-- 'waystationlaw03.SumJoins': WHATEVER THE INPUT: true; the input reads as it did. -/
def sumJoinsSpec : ChangeSpec := { name := "sumJoins", fn := fun _ => fun
  | [d1, d2] => { results := [.lit (.bool true)], args := [d1, d2] }
  | _ => none }
def sumJoinsRow : OpenClaim := { program := "ytmpoiddaolpjgaa", sum := "47e94565d3c7474c1747448d89b884b3ac338978110f5aacd1890eeab92ba8f9", func := "waystation/waystationlaw03.SumJoins", spec := "sumJoins", unfollowed := true, recurses := true, apart := false }
def SumJoinsSaid : Prop := sumJoinsRow.holds Try.pinned (OpenSpec.ofChange sumJoinsSpec)

/-- ITS FALSE NEIGHBOUR: 'it returns false'. Refute it at one input. -/
def sumJoinsWrong : ChangeSpec := { name := "sumJoins", fn := fun _ => fun
  | [d1, d2] => { results := [.lit (.bool false)], args := [d1, d2] }
  | _ => none }
def SumJoinsWrongFalsely : Prop := sumJoinsRow.holds Try.pinned (OpenSpec.ofChange sumJoinsWrong)

/-- 'waystationlaw03.SumSwaps': WHATEVER THE INPUT: true; the input reads as it did. -/
def sumSwapsSpec : ChangeSpec := { name := "sumSwaps", fn := fun _ => fun
  | [d1, d2] => { results := [.lit (.bool true)], args := [d1, d2] }
  | _ => none }
def sumSwapsRow : OpenClaim := { program := "ytmpoiddaolpjgaa", sum := "47e94565d3c7474c1747448d89b884b3ac338978110f5aacd1890eeab92ba8f9", func := "waystation/waystationlaw03.SumSwaps", spec := "sumSwaps", unfollowed := true, recurses := true, apart := false }
def SumSwapsSaid : Prop := sumSwapsRow.holds Try.pinned (OpenSpec.ofChange sumSwapsSpec)

/-- ITS FALSE NEIGHBOUR: 'it returns false'. Refute it at one input. -/
def sumSwapsWrong : ChangeSpec := { name := "sumSwaps", fn := fun _ => fun
  | [d1, d2] => { results := [.lit (.bool false)], args := [d1, d2] }
  | _ => none }
def SumSwapsWrongFalsely : Prop := sumSwapsRow.holds Try.pinned (OpenSpec.ofChange sumSwapsWrong)

/- THE SECOND FORM. 'bulk': how many values and letters a reading holds, each counted each time it is reached (what is shared counts as often as it is met; a slice's spare places count too). A statement '..UptoSaid' is the law's where the arguments, and the package variables that the reading takes, are together of bulk at most 1048576: NARROWER than '..Said'. Prove '..Said' where nothing that the law and all that it calls make is longer than what came in: it says more and counts as full. Else prove '..UptoSaid'. A law counts once. -/
mutual
def uptoBulk {H : Type} : DataW H → Nat
  | .lit (.string bytes) => bytes.length + 1
  | .lit _ => 1
  | .nil => 1
  | .ptr d => uptoBulk d + 1
  | .slice elems spare => uptoBulkAll elems + uptoBulkAll spare + 1
  | .agg parts => uptoBulkAll parts + 1
  | .iface _ d => uptoBulk d + 1
  | .map entries => uptoBulkEntries entries + 1
  | .held _ => 1
def uptoBulkAll {H : Type} : List (DataW H) → Nat
  | [] => 0
  | d :: r => uptoBulk d + uptoBulkAll r
def uptoBulkEntries {H : Type} : List (Lit × DataW H) → Nat
  | [] => 0
  | x :: r => uptoBulkEntry x + uptoBulkEntries r
def uptoBulkEntry {H : Type} : Lit × DataW H → Nat
  | (.string bytes, d) => bytes.length + uptoBulk d + 1
  | (_, d) => uptoBulk d + 1
 end
def uptoSmall : (H : Type) → List (DataW H) → Bool := fun _ ds => decide (uptoBulkAll ds ≤ 1048576)
def OpenSpec.upto (s : _root_.Go.ChangeSpec) : _root_.Go.OpenSpec := { _root_.Go.OpenSpec.ofChange s with cond := some uptoSmall }

/-- 'waystationlaw03.SumSums', WHERE WHAT IT READS IS OF BULK AT MOST 1048576: true; the input reads as it did. -/
def sumSumsUptoRow : OpenClaim := { program := "ytmpoiddaolpjgaa", sum := "47e94565d3c7474c1747448d89b884b3ac338978110f5aacd1890eeab92ba8f9", func := "waystation/waystationlaw03.SumSums", spec := "sumSums", unfollowed := true, recurses := true, apart := false, narrowed := true }
def SumSumsUptoSaid : Prop := sumSumsUptoRow.holds Try.pinned (OpenSpec.upto sumSumsSpec)

/-- 'waystationlaw03.SumFirst', WHERE WHAT IT READS IS OF BULK AT MOST 1048576: true; the input reads as it did. -/
def sumFirstUptoRow : OpenClaim := { program := "ytmpoiddaolpjgaa", sum := "47e94565d3c7474c1747448d89b884b3ac338978110f5aacd1890eeab92ba8f9", func := "waystation/waystationlaw03.SumFirst", spec := "sumFirst", unfollowed := true, recurses := true, apart := false, narrowed := true }
def SumFirstUptoSaid : Prop := sumFirstUptoRow.holds Try.pinned (OpenSpec.upto sumFirstSpec)

/-- 'waystationlaw03.SumBack', WHERE WHAT IT READS IS OF BULK AT MOST 1048576: true; the input reads as it did. -/
def sumBackUptoRow : OpenClaim := { program := "ytmpoiddaolpjgaa", sum := "47e94565d3c7474c1747448d89b884b3ac338978110f5aacd1890eeab92ba8f9", func := "waystation/waystationlaw03.SumBack", spec := "sumBack", unfollowed := true, recurses := true, apart := false, narrowed := true }
def SumBackUptoSaid : Prop := sumBackUptoRow.holds Try.pinned (OpenSpec.upto sumBackSpec)

/-- 'waystationlaw03.SumTurned', WHERE WHAT IT READS IS OF BULK AT MOST 1048576: true; the input reads as it did. -/
def sumTurnedUptoRow : OpenClaim := { program := "ytmpoiddaolpjgaa", sum := "47e94565d3c7474c1747448d89b884b3ac338978110f5aacd1890eeab92ba8f9", func := "waystation/waystationlaw03.SumTurned", spec := "sumTurned", unfollowed := true, recurses := true, apart := false, narrowed := true }
def SumTurnedUptoSaid : Prop := sumTurnedUptoRow.holds Try.pinned (OpenSpec.upto sumTurnedSpec)

/-- 'waystationlaw03.SumBytes', WHERE WHAT IT READS IS OF BULK AT MOST 1048576: true; the input reads as it did. -/
def sumBytesUptoRow : OpenClaim := { program := "ytmpoiddaolpjgaa", sum := "47e94565d3c7474c1747448d89b884b3ac338978110f5aacd1890eeab92ba8f9", func := "waystation/waystationlaw03.SumBytes", spec := "sumBytes", unfollowed := true, recurses := true, apart := false, narrowed := true }
def SumBytesUptoSaid : Prop := sumBytesUptoRow.holds Try.pinned (OpenSpec.upto sumBytesSpec)

/-- 'waystationlaw03.SumJoins', WHERE WHAT IT READS IS OF BULK AT MOST 1048576: true; the input reads as it did. -/
def sumJoinsUptoRow : OpenClaim := { program := "ytmpoiddaolpjgaa", sum := "47e94565d3c7474c1747448d89b884b3ac338978110f5aacd1890eeab92ba8f9", func := "waystation/waystationlaw03.SumJoins", spec := "sumJoins", unfollowed := true, recurses := true, apart := false, narrowed := true }
def SumJoinsUptoSaid : Prop := sumJoinsUptoRow.holds Try.pinned (OpenSpec.upto sumJoinsSpec)

/-- 'waystationlaw03.SumSwaps', WHERE WHAT IT READS IS OF BULK AT MOST 1048576: true; the input reads as it did. -/
def sumSwapsUptoRow : OpenClaim := { program := "ytmpoiddaolpjgaa", sum := "47e94565d3c7474c1747448d89b884b3ac338978110f5aacd1890eeab92ba8f9", func := "waystation/waystationlaw03.SumSwaps", spec := "sumSwaps", unfollowed := true, recurses := true, apart := false, narrowed := true }
def SumSwapsUptoSaid : Prop := sumSwapsUptoRow.holds Try.pinned (OpenSpec.upto sumSwapsSpec)

end Rows
end Go.Proofs.Ytmpoiddaolpjgaa
