/-
  No cell of these rows narrows 'for every input' (looked for: loops, veiled, ifaces, maps, wideKeys, modest, calm, conditions, laid).
  DERIVED. THE GIVEN ROWS OF THIS SEAT. 6 by the template 'for every input the law returns true; each argument reads behind the call as it read before'; 0 by the template 'total and deterministic' (their statements: YtaddlnmhjlmneaaTotals.lean).
  GIVEN WITH THE SEED: the statements are not yours to turn. If you find one false, say at which input.
  Laid BY PROGRAM, IN A SANDBOX (cutbox-rows.mjs): the forced cells as the released guide's own fill.sh prints them over the translation ead547590a6fea2e… (all of the seat's roots in one cut). By AI agents, Wed Nov 11 2026. No macro, syntax, notation, axiom, sorry.
-/
import Derived.Test.YtaddlnmhjlmneaaChecked
import GoSem.Claim
import GoSem.ClaimJoined
import GoSem.ClaimMapViews
import Derived.JoinedTies
import Derived.KernelRfl
namespace Go.Proofs.Ytaddlnmhjlmneaa
/- THE CELL 'sum', in the pinned program and in every row, IS THE sha256 OF THE DUMP (.gsa) THAT YtaddlnmhjlmneaaProg.lean LOADS. Nothing in Lean hashes anything: it is a label: what it is worth is what the hold of that sum in a sandbox is worth. -/
noncomputable def Try.pinned : Pinned := { name := "ytaddlnmhjlmneaa", sum := "ead547590a6fea2e8018b11377072f94760d5980ce8575f2b1f813a09b09c73d", checked := Try.checked }
namespace Rows
def none {H : Type} : Left H := { results := [], args := [] }

/-- 'waystationlaw04.DiskCalls': WHATEVER THE INPUT: true; the input reads as it did. -/
def diskCallsSpec : ChangeSpec := { name := "diskCalls", fn := fun _ => fun
  | [d1, d2, d3] => { results := [.lit (.bool true)], args := [d1, d2, d3] }
  | _ => none }
def diskCallsRow : OpenClaim := { program := "ytaddlnmhjlmneaa", sum := "ead547590a6fea2e8018b11377072f94760d5980ce8575f2b1f813a09b09c73d", func := "waystation/waystationlaw04.DiskCalls", spec := "diskCalls", unfollowed := true, recurses := true, apart := false }
def DiskCallsSaid : Prop := diskCallsRow.holds Try.pinned (OpenSpec.ofChange diskCallsSpec)

/-- ITS FALSE NEIGHBOUR: 'it returns false'. Refute it at one input. -/
def diskCallsWrong : ChangeSpec := { name := "diskCalls", fn := fun _ => fun
  | [d1, d2, d3] => { results := [.lit (.bool false)], args := [d1, d2, d3] }
  | _ => none }
def DiskCallsWrongFalsely : Prop := diskCallsRow.holds Try.pinned (OpenSpec.ofChange diskCallsWrong)

/-- 'waystationlaw04.DiskRenews': WHATEVER THE INPUT: true; the input reads as it did. -/
def diskRenewsSpec : ChangeSpec := { name := "diskRenews", fn := fun _ => fun
  | [d1, d2, d3] => { results := [.lit (.bool true)], args := [d1, d2, d3] }
  | _ => none }
def diskRenewsRow : OpenClaim := { program := "ytaddlnmhjlmneaa", sum := "ead547590a6fea2e8018b11377072f94760d5980ce8575f2b1f813a09b09c73d", func := "waystation/waystationlaw04.DiskRenews", spec := "diskRenews", unfollowed := true, recurses := true, apart := false }
def DiskRenewsSaid : Prop := diskRenewsRow.holds Try.pinned (OpenSpec.ofChange diskRenewsSpec)

/-- ITS FALSE NEIGHBOUR: 'it returns false'. Refute it at one input. -/
def diskRenewsWrong : ChangeSpec := { name := "diskRenews", fn := fun _ => fun
  | [d1, d2, d3] => { results := [.lit (.bool false)], args := [d1, d2, d3] }
  | _ => none }
def DiskRenewsWrongFalsely : Prop := diskRenewsRow.holds Try.pinned (OpenSpec.ofChange diskRenewsWrong)

/-- 'waystationlaw04.DiskSafe': WHATEVER THE INPUT: true; the input reads as it did. -/
def diskSafeSpec : ChangeSpec := { name := "diskSafe", fn := fun _ => fun
  | [d1, d2, d3] => { results := [.lit (.bool true)], args := [d1, d2, d3] }
  | _ => none }
def diskSafeRow : OpenClaim := { program := "ytaddlnmhjlmneaa", sum := "ead547590a6fea2e8018b11377072f94760d5980ce8575f2b1f813a09b09c73d", func := "waystation/waystationlaw04.DiskSafe", spec := "diskSafe", unfollowed := true, recurses := true, apart := false }
def DiskSafeSaid : Prop := diskSafeRow.holds Try.pinned (OpenSpec.ofChange diskSafeSpec)

/-- ITS FALSE NEIGHBOUR: 'it returns false'. Refute it at one input. -/
def diskSafeWrong : ChangeSpec := { name := "diskSafe", fn := fun _ => fun
  | [d1, d2, d3] => { results := [.lit (.bool false)], args := [d1, d2, d3] }
  | _ => none }
def DiskSafeWrongFalsely : Prop := diskSafeRow.holds Try.pinned (OpenSpec.ofChange diskSafeWrong)

/-- 'waystationlaw04.DiskTwice': WHATEVER THE INPUT: true; the input reads as it did. -/
def diskTwiceSpec : ChangeSpec := { name := "diskTwice", fn := fun _ => fun
  | [d1, d2, d3] => { results := [.lit (.bool true)], args := [d1, d2, d3] }
  | _ => none }
def diskTwiceRow : OpenClaim := { program := "ytaddlnmhjlmneaa", sum := "ead547590a6fea2e8018b11377072f94760d5980ce8575f2b1f813a09b09c73d", func := "waystation/waystationlaw04.DiskTwice", spec := "diskTwice", unfollowed := true, recurses := true, apart := false }
def DiskTwiceSaid : Prop := diskTwiceRow.holds Try.pinned (OpenSpec.ofChange diskTwiceSpec)

/-- ITS FALSE NEIGHBOUR: 'it returns false'. Refute it at one input. -/
def diskTwiceWrong : ChangeSpec := { name := "diskTwice", fn := fun _ => fun
  | [d1, d2, d3] => { results := [.lit (.bool false)], args := [d1, d2, d3] }
  | _ => none }
def DiskTwiceWrongFalsely : Prop := diskTwiceRow.holds Try.pinned (OpenSpec.ofChange diskTwiceWrong)

/-- 'waystationlaw04.DiskRows': WHATEVER THE INPUT: true; the input reads as it did. -/
def diskRowsSpec : ChangeSpec := { name := "diskRows", fn := fun _ => fun
  | [d1, d2] => { results := [.lit (.bool true)], args := [d1, d2] }
  | _ => none }
def diskRowsRow : OpenClaim := { program := "ytaddlnmhjlmneaa", sum := "ead547590a6fea2e8018b11377072f94760d5980ce8575f2b1f813a09b09c73d", func := "waystation/waystationlaw04.DiskRows", spec := "diskRows", unfollowed := true, recurses := true, apart := false }
def DiskRowsSaid : Prop := diskRowsRow.holds Try.pinned (OpenSpec.ofChange diskRowsSpec)

/-- ITS FALSE NEIGHBOUR: 'it returns false'. Refute it at one input. -/
def diskRowsWrong : ChangeSpec := { name := "diskRows", fn := fun _ => fun
  | [d1, d2] => { results := [.lit (.bool false)], args := [d1, d2] }
  | _ => none }
def DiskRowsWrongFalsely : Prop := diskRowsRow.holds Try.pinned (OpenSpec.ofChange diskRowsWrong)

/-- 'waystationlaw04.DiskKeeps': WHATEVER THE INPUT: true; the input reads as it did. -/
def diskKeepsSpec : ChangeSpec := { name := "diskKeeps", fn := fun _ => fun
  | [d1, d2] => { results := [.lit (.bool true)], args := [d1, d2] }
  | _ => none }
def diskKeepsRow : OpenClaim := { program := "ytaddlnmhjlmneaa", sum := "ead547590a6fea2e8018b11377072f94760d5980ce8575f2b1f813a09b09c73d", func := "waystation/waystationlaw04.DiskKeeps", spec := "diskKeeps", unfollowed := true, recurses := true, apart := false }
def DiskKeepsSaid : Prop := diskKeepsRow.holds Try.pinned (OpenSpec.ofChange diskKeepsSpec)

/-- ITS FALSE NEIGHBOUR: 'it returns false'. Refute it at one input. -/
def diskKeepsWrong : ChangeSpec := { name := "diskKeeps", fn := fun _ => fun
  | [d1, d2] => { results := [.lit (.bool false)], args := [d1, d2] }
  | _ => none }
def DiskKeepsWrongFalsely : Prop := diskKeepsRow.holds Try.pinned (OpenSpec.ofChange diskKeepsWrong)

/- THE SECOND FORM. 'bulk': how many values and letters a reading holds, each counted each time it is reached (what is shared counts as often as it is met; a slice's spare places count too). A statement '..UptoSaid' is the law's where the arguments, and the package variables that the reading takes, are together of bulk at most 1048576: NARROWER than '..Said'. Prove '..Said' where nothing that the law and all that it calls make is longer than what came in: it says more and counts as full. Else prove '..UptoSaid'. A law counts once. -/
mutual
def uptoBulk {H : Type} : DataW H → Nat
  | .lit (.string bytes) => bytes.length + 1
  | .lit _ => 1
  | .nil => 1
  | .ptr d => uptoBulk d + 1
  | .slice elems spare => uptoBulkAll elems + uptoBulkAll spare + 1
  | .agg parts => uptoBulkAll parts + 1
  | .iface _ d => uptoBulk d + 1
  | .map entries => uptoBulkEntries entries + 1
  | .held _ => 1
def uptoBulkAll {H : Type} : List (DataW H) → Nat
  | [] => 0
  | d :: r => uptoBulk d + uptoBulkAll r
def uptoBulkEntries {H : Type} : List (Lit × DataW H) → Nat
  | [] => 0
  | x :: r => uptoBulkEntry x + uptoBulkEntries r
def uptoBulkEntry {H : Type} : Lit × DataW H → Nat
  | (.string bytes, d) => bytes.length + uptoBulk d + 1
  | (_, d) => uptoBulk d + 1
 end
def uptoSmall : (H : Type) → List (DataW H) → Bool := fun _ ds => decide (uptoBulkAll ds ≤ 1048576)
def OpenSpec.upto (s : _root_.Go.ChangeSpec) : _root_.Go.OpenSpec := { _root_.Go.OpenSpec.ofChange s with cond := some uptoSmall }

/-- 'waystationlaw04.DiskCalls', WHERE WHAT IT READS IS OF BULK AT MOST 1048576: true; the input reads as it did. -/
def diskCallsUptoRow : OpenClaim := { program := "ytaddlnmhjlmneaa", sum := "ead547590a6fea2e8018b11377072f94760d5980ce8575f2b1f813a09b09c73d", func := "waystation/waystationlaw04.DiskCalls", spec := "diskCalls", unfollowed := true, recurses := true, apart := false, narrowed := true }
def DiskCallsUptoSaid : Prop := diskCallsUptoRow.holds Try.pinned (OpenSpec.upto diskCallsSpec)

/-- 'waystationlaw04.DiskRenews', WHERE WHAT IT READS IS OF BULK AT MOST 1048576: true; the input reads as it did. -/
def diskRenewsUptoRow : OpenClaim := { program := "ytaddlnmhjlmneaa", sum := "ead547590a6fea2e8018b11377072f94760d5980ce8575f2b1f813a09b09c73d", func := "waystation/waystationlaw04.DiskRenews", spec := "diskRenews", unfollowed := true, recurses := true, apart := false, narrowed := true }
def DiskRenewsUptoSaid : Prop := diskRenewsUptoRow.holds Try.pinned (OpenSpec.upto diskRenewsSpec)

/-- 'waystationlaw04.DiskSafe', WHERE WHAT IT READS IS OF BULK AT MOST 1048576: true; the input reads as it did. -/
def diskSafeUptoRow : OpenClaim := { program := "ytaddlnmhjlmneaa", sum := "ead547590a6fea2e8018b11377072f94760d5980ce8575f2b1f813a09b09c73d", func := "waystation/waystationlaw04.DiskSafe", spec := "diskSafe", unfollowed := true, recurses := true, apart := false, narrowed := true }
def DiskSafeUptoSaid : Prop := diskSafeUptoRow.holds Try.pinned (OpenSpec.upto diskSafeSpec)

/-- 'waystationlaw04.DiskTwice', WHERE WHAT IT READS IS OF BULK AT MOST 1048576: true; the input reads as it did. -/
def diskTwiceUptoRow : OpenClaim := { program := "ytaddlnmhjlmneaa", sum := "ead547590a6fea2e8018b11377072f94760d5980ce8575f2b1f813a09b09c73d", func := "waystation/waystationlaw04.DiskTwice", spec := "diskTwice", unfollowed := true, recurses := true, apart := false, narrowed := true }
def DiskTwiceUptoSaid : Prop := diskTwiceUptoRow.holds Try.pinned (OpenSpec.upto diskTwiceSpec)

/-- 'waystationlaw04.DiskRows', WHERE WHAT IT READS IS OF BULK AT MOST 1048576: true; the input reads as it did. -/
def diskRowsUptoRow : OpenClaim := { program := "ytaddlnmhjlmneaa", sum := "ead547590a6fea2e8018b11377072f94760d5980ce8575f2b1f813a09b09c73d", func := "waystation/waystationlaw04.DiskRows", spec := "diskRows", unfollowed := true, recurses := true, apart := false, narrowed := true }
def DiskRowsUptoSaid : Prop := diskRowsUptoRow.holds Try.pinned (OpenSpec.upto diskRowsSpec)

/-- 'waystationlaw04.DiskKeeps', WHERE WHAT IT READS IS OF BULK AT MOST 1048576: true; the input reads as it did. -/
def diskKeepsUptoRow : OpenClaim := { program := "ytaddlnmhjlmneaa", sum := "ead547590a6fea2e8018b11377072f94760d5980ce8575f2b1f813a09b09c73d", func := "waystation/waystationlaw04.DiskKeeps", spec := "diskKeeps", unfollowed := true, recurses := true, apart := false, narrowed := true }
def DiskKeepsUptoSaid : Prop := diskKeepsUptoRow.holds Try.pinned (OpenSpec.upto diskKeepsSpec)

end Rows
end Go.Proofs.Ytaddlnmhjlmneaa
