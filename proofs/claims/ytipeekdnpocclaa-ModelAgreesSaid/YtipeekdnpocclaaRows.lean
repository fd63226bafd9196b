/-
  No cell of these rows narrows 'for every input' (looked for: loops, veiled, ifaces, maps, wideKeys, modest, calm, conditions, laid).
  DERIVED. THE GIVEN ROWS OF THIS SEAT. 5 by the template 'for every input the law returns true; each argument reads behind the call as it read before'; 0 by the template 'total and deterministic' (their statements: YtipeekdnpocclaaTotals.lean).
  GIVEN WITH THE SEED: the statements are not yours to turn. If you find one false, say at which input.
  Laid BY PROGRAM, IN A SANDBOX (cutbox-rows.mjs): the forced cells as the released guide's own fill.sh prints them over the translation 9d879cf82e7b3327… (all of the seat's roots in one cut). By AI agents, Wed Nov 11 2026. No macro, syntax, notation, axiom, sorry.
-/
import Derived.Test.YtipeekdnpocclaaChecked
import GoSem.Claim
import GoSem.ClaimJoined
import GoSem.ClaimMapViews
import Derived.JoinedTies
import Derived.KernelRfl
namespace Go.Proofs.Ytipeekdnpocclaa
/- THE CELL 'sum', in the pinned program and in every row, IS THE sha256 OF THE DUMP (.gsa) THAT YtipeekdnpocclaaProg.lean LOADS. Nothing in Lean hashes anything: it is a label: what it is worth is what the hold of that sum in a sandbox is worth. -/
noncomputable def Try.pinned : Pinned := { name := "ytipeekdnpocclaa", sum := "9d879cf82e7b3327922c9975c1b3995b276ae98d56c5ac1fbd105c483204172a", checked := Try.checked }
namespace Rows
def none {H : Type} : Left H := { results := [], args := [] }

/-- 'waystationlaw22.ModelReads': WHATEVER THE INPUT: true; the input reads as it did. -/
def modelReadsSpec : ChangeSpec := { name := "modelReads", fn := fun _ => fun
  | [d] => { results := [.lit (.bool true)], args := [d] }
  | _ => none }
def modelReadsRow : OpenClaim := { program := "ytipeekdnpocclaa", sum := "9d879cf82e7b3327922c9975c1b3995b276ae98d56c5ac1fbd105c483204172a", func := "waystation/waystationlaw22.ModelReads", spec := "modelReads", inPlace := ["slices.overlaps[waystation/lock.Hold]", "slices.overlaps[waystation/api.Delta]"], unfollowed := true, recurses := true, apart := false }
def ModelReadsSaid : Prop := modelReadsRow.holds Try.pinned (OpenSpec.ofChange modelReadsSpec)

/-- ITS FALSE NEIGHBOUR: 'it returns false'. Refute it at one input. -/
def modelReadsWrong : ChangeSpec := { name := "modelReads", fn := fun _ => fun
  | [d] => { results := [.lit (.bool false)], args := [d] }
  | _ => none }
def ModelReadsWrongFalsely : Prop := modelReadsRow.holds Try.pinned (OpenSpec.ofChange modelReadsWrong)

/-- 'waystationlaw22.ModelAgrees': WHATEVER THE INPUT: true; the input reads as it did. -/
def modelAgreesSpec : ChangeSpec := { name := "modelAgrees", fn := fun _ => fun
  | [d1, d2] => { results := [.lit (.bool true)], args := [d1, d2] }
  | _ => none }
def modelAgreesRow : OpenClaim := { program := "ytipeekdnpocclaa", sum := "9d879cf82e7b3327922c9975c1b3995b276ae98d56c5ac1fbd105c483204172a", func := "waystation/waystationlaw22.ModelAgrees", spec := "modelAgrees", inPlace := ["slices.overlaps[waystation/lock.Hold]", "slices.overlaps[waystation/api.Delta]"], unfollowed := true, recurses := true, apart := false }
def ModelAgreesSaid : Prop := modelAgreesRow.holds Try.pinned (OpenSpec.ofChange modelAgreesSpec)

/-- ITS FALSE NEIGHBOUR: 'it returns false'. Refute it at one input. -/
def modelAgreesWrong : ChangeSpec := { name := "modelAgrees", fn := fun _ => fun
  | [d1, d2] => { results := [.lit (.bool false)], args := [d1, d2] }
  | _ => none }
def ModelAgreesWrongFalsely : Prop := modelAgreesRow.holds Try.pinned (OpenSpec.ofChange modelAgreesWrong)

/-- 'waystationlaw22.ModelCounts': WHATEVER THE INPUT: true; the input reads as it did. -/
def modelCountsSpec : ChangeSpec := { name := "modelCounts", fn := fun _ => fun
  | [d] => { results := [.lit (.bool true)], args := [d] }
  | _ => none }
def modelCountsRow : OpenClaim := { program := "ytipeekdnpocclaa", sum := "9d879cf82e7b3327922c9975c1b3995b276ae98d56c5ac1fbd105c483204172a", func := "waystation/waystationlaw22.ModelCounts", spec := "modelCounts", inPlace := ["slices.overlaps[waystation/lock.Hold]", "slices.overlaps[waystation/api.Delta]"], unfollowed := true, recurses := true, apart := false }
def ModelCountsSaid : Prop := modelCountsRow.holds Try.pinned (OpenSpec.ofChange modelCountsSpec)

/-- ITS FALSE NEIGHBOUR: 'it returns false'. Refute it at one input. -/
def modelCountsWrong : ChangeSpec := { name := "modelCounts", fn := fun _ => fun
  | [d] => { results := [.lit (.bool false)], args := [d] }
  | _ => none }
def ModelCountsWrongFalsely : Prop := modelCountsRow.holds Try.pinned (OpenSpec.ofChange modelCountsWrong)

/-- 'waystationlaw22.ModelSite': WHATEVER THE INPUT: true; the input reads as it did. -/
def modelSiteSpec : ChangeSpec := { name := "modelSite", fn := fun _ => fun
  | [d] => { results := [.lit (.bool true)], args := [d] }
  | _ => none }
def modelSiteRow : OpenClaim := { program := "ytipeekdnpocclaa", sum := "9d879cf82e7b3327922c9975c1b3995b276ae98d56c5ac1fbd105c483204172a", func := "waystation/waystationlaw22.ModelSite", spec := "modelSite", inPlace := ["slices.overlaps[waystation/lock.Hold]", "slices.overlaps[waystation/api.Delta]"], unfollowed := true, recurses := true, apart := false }
def ModelSiteSaid : Prop := modelSiteRow.holds Try.pinned (OpenSpec.ofChange modelSiteSpec)

/-- ITS FALSE NEIGHBOUR: 'it returns false'. Refute it at one input. -/
def modelSiteWrong : ChangeSpec := { name := "modelSite", fn := fun _ => fun
  | [d] => { results := [.lit (.bool false)], args := [d] }
  | _ => none }
def ModelSiteWrongFalsely : Prop := modelSiteRow.holds Try.pinned (OpenSpec.ofChange modelSiteWrong)

/-- 'waystationlaw22.ModelEnds': WHATEVER THE INPUT: true; the input reads as it did. -/
def modelEndsSpec : ChangeSpec := { name := "modelEnds", fn := fun _ => fun
  | [d] => { results := [.lit (.bool true)], args := [d] }
  | _ => none }
def modelEndsRow : OpenClaim := { program := "ytipeekdnpocclaa", sum := "9d879cf82e7b3327922c9975c1b3995b276ae98d56c5ac1fbd105c483204172a", func := "waystation/waystationlaw22.ModelEnds", spec := "modelEnds", inPlace := ["slices.overlaps[waystation/lock.Hold]", "slices.overlaps[waystation/api.Delta]"], unfollowed := true, recurses := true, apart := false }
def ModelEndsSaid : Prop := modelEndsRow.holds Try.pinned (OpenSpec.ofChange modelEndsSpec)

/-- ITS FALSE NEIGHBOUR: 'it returns false'. Refute it at one input. -/
def modelEndsWrong : ChangeSpec := { name := "modelEnds", fn := fun _ => fun
  | [d] => { results := [.lit (.bool false)], args := [d] }
  | _ => none }
def ModelEndsWrongFalsely : Prop := modelEndsRow.holds Try.pinned (OpenSpec.ofChange modelEndsWrong)

/- THE SECOND FORM. 'bulk': how many values and letters a reading holds, each counted each time it is reached (what is shared counts as often as it is met; a slice's spare places count too). A statement '..UptoSaid' is the law's where the arguments, and the package variables that the reading takes, are together of bulk at most 1048576: NARROWER than '..Said'. Prove '..Said' where nothing that the law and all that it calls make is longer than what came in: it says more and counts as full. Else prove '..UptoSaid'. A law counts once. -/
mutual
def uptoBulk {H : Type} : DataW H → Nat
  | .lit (.string bytes) => bytes.length + 1
  | .lit _ => 1
  | .nil => 1
  | .ptr d => uptoBulk d + 1
  | .slice elems spare => uptoBulkAll elems + uptoBulkAll spare + 1
  | .agg parts => uptoBulkAll parts + 1
  | .iface _ d => uptoBulk d + 1
  | .map entries => uptoBulkEntries entries + 1
  | .held _ => 1
def uptoBulkAll {H : Type} : List (DataW H) → Nat
  | [] => 0
  | d :: r => uptoBulk d + uptoBulkAll r
def uptoBulkEntries {H : Type} : List (Lit × DataW H) → Nat
  | [] => 0
  | x :: r => uptoBulkEntry x + uptoBulkEntries r
def uptoBulkEntry {H : Type} : Lit × DataW H → Nat
  | (.string bytes, d) => bytes.length + uptoBulk d + 1
  | (_, d) => uptoBulk d + 1
 end
def uptoSmall : (H : Type) → List (DataW H) → Bool := fun _ ds => decide (uptoBulkAll ds ≤ 1048576)
def OpenSpec.upto (s : _root_.Go.ChangeSpec) : _root_.Go.OpenSpec := { _root_.Go.OpenSpec.ofChange s with cond := some uptoSmall }

/-- 'waystationlaw22.ModelReads', WHERE WHAT IT READS IS OF BULK AT MOST 1048576: true; the input reads as it did. -/
def modelReadsUptoRow : OpenClaim := { program := "ytipeekdnpocclaa", sum := "9d879cf82e7b3327922c9975c1b3995b276ae98d56c5ac1fbd105c483204172a", func := "waystation/waystationlaw22.ModelReads", spec := "modelReads", inPlace := ["slices.overlaps[waystation/lock.Hold]", "slices.overlaps[waystation/api.Delta]"], unfollowed := true, recurses := true, apart := false, narrowed := true }
def ModelReadsUptoSaid : Prop := modelReadsUptoRow.holds Try.pinned (OpenSpec.upto modelReadsSpec)

/-- 'waystationlaw22.ModelAgrees', WHERE WHAT IT READS IS OF BULK AT MOST 1048576: true; the input reads as it did. -/
def modelAgreesUptoRow : OpenClaim := { program := "ytipeekdnpocclaa", sum := "9d879cf82e7b3327922c9975c1b3995b276ae98d56c5ac1fbd105c483204172a", func := "waystation/waystationlaw22.ModelAgrees", spec := "modelAgrees", inPlace := ["slices.overlaps[waystation/lock.Hold]", "slices.overlaps[waystation/api.Delta]"], unfollowed := true, recurses := true, apart := false, narrowed := true }
def ModelAgreesUptoSaid : Prop := modelAgreesUptoRow.holds Try.pinned (OpenSpec.upto modelAgreesSpec)

/-- 'waystationlaw22.ModelCounts', WHERE WHAT IT READS IS OF BULK AT MOST 1048576: true; the input reads as it did. -/
def modelCountsUptoRow : OpenClaim := { program := "ytipeekdnpocclaa", sum := "9d879cf82e7b3327922c9975c1b3995b276ae98d56c5ac1fbd105c483204172a", func := "waystation/waystationlaw22.ModelCounts", spec := "modelCounts", inPlace := ["slices.overlaps[waystation/lock.Hold]", "slices.overlaps[waystation/api.Delta]"], unfollowed := true, recurses := true, apart := false, narrowed := true }
def ModelCountsUptoSaid : Prop := modelCountsUptoRow.holds Try.pinned (OpenSpec.upto modelCountsSpec)

/-- 'waystationlaw22.ModelSite', WHERE WHAT IT READS IS OF BULK AT MOST 1048576: true; the input reads as it did. -/
def modelSiteUptoRow : OpenClaim := { program := "ytipeekdnpocclaa", sum := "9d879cf82e7b3327922c9975c1b3995b276ae98d56c5ac1fbd105c483204172a", func := "waystation/waystationlaw22.ModelSite", spec := "modelSite", inPlace := ["slices.overlaps[waystation/lock.Hold]", "slices.overlaps[waystation/api.Delta]"], unfollowed := true, recurses := true, apart := false, narrowed := true }
def ModelSiteUptoSaid : Prop := modelSiteUptoRow.holds Try.pinned (OpenSpec.upto modelSiteSpec)

/-- 'waystationlaw22.ModelEnds', WHERE WHAT IT READS IS OF BULK AT MOST 1048576: true; the input reads as it did. -/
def modelEndsUptoRow : OpenClaim := { program := "ytipeekdnpocclaa", sum := "9d879cf82e7b3327922c9975c1b3995b276ae98d56c5ac1fbd105c483204172a", func := "waystation/waystationlaw22.ModelEnds", spec := "modelEnds", inPlace := ["slices.overlaps[waystation/lock.Hold]", "slices.overlaps[waystation/api.Delta]"], unfollowed := true, recurses := true, apart := false, narrowed := true }
def ModelEndsUptoSaid : Prop := modelEndsUptoRow.holds Try.pinned (OpenSpec.upto modelEndsSpec)

end Rows
end Go.Proofs.Ytipeekdnpocclaa
