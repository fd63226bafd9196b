/-
  ModelReads: whatever the input, the law returns true and its arguments read as they did. (Printed by my own program.)
  Conditions: none.
-/
import Derived.Test.YtipeekdnpocclaaZWGModelReads1
import Derived.Test.YtipeekdnpocclaaZArgs
import Derived.Test.YtipeekdnpocclaaZModelReads
import Derived.JoinedOf
import Derived.JoinedAt
set_option linter.unusedVariables false
set_option linter.unusedSimpArgs false
namespace Go.Ws
open Go.Proofs Go.ChangeShapes Go.WideShapes Go.ChangeAt Go.RowKit
set_option linter.unusedSimpArgs false
set_option linter.unusedVariables false
set_option maxRecDepth 1000000
set_option maxHeartbeats 4000000
theorem args_ModelReads (l:List AV) (h:aSA Try.prog 6 Try.f3.params.toList l):Tri Try.prog 3 l [] (.bool true) []:=by
 have hp:Try.f3.params.toList=[22]:=rfl
 rw[hp] at h
 obtain⟨v0,r0,rfl,h0,rfl⟩:=h
 obtain⟨y0,rfl,w0⟩:=argv_t22 h0
 obtain⟨k,hk⟩:=(aE5 ..).get (L10.aRR y0 w0)
 exact aFB k _ true hk
end Go.Ws
namespace Go.Proofs.Ytipeekdnpocclaa
open Go.ChangeShapes Go.WideShapes Go.ChangeAt Go.RowKit
set_option maxRecDepth 100000
theorem lifted3 (os:Os) (started:os.Started) (H:Type) (enc:TypeId × Value→H) :
 ReturnsInHanded {} Try.checked os 3 .any (Rows.modelReadsSpec.pre6 enc Try.prog Try.f3 Rows.modelReadsRow.domain false) (Rows.modelReadsSpec.post enc Try.prog Try.f3 false true false false):=by
 refine returnsInHanded_of_change (C:=Try.checked) Go.Ws.own started (by kernel_rfl) Try.func3
  (ChangeSpec.witness6 (enc:=enc) (C:=Try.checked) false ⟨#[],#[.slice none 0 0],[]⟩ 8 (by kernel_rfl) (by kernel_rfl) (by kernel_rfl) (by kernel_rfl)) ?_
 intro W base args ds gs before hval hW _ _
 have e:Try.checked.prog=Try.prog:=by unfold Try.checked;rfl
 rw[e] at hval hW ⊢
 exact Go.Ws.aSP Go.Ws.laid Go.Ws.rowed Go.Ws.full Try.func3 (by kernel_rfl) Go.Ws.isBool (m:=6) (by kernel_rfl) rfl (fun H ds h=>by match ds,h with | [d0],_=>rfl) Go.Ws.args_ModelReads hval hW

theorem modelReads_holds:Rows.ModelReadsSaid :=
 OpenClaim.holds_of_wide 3 Try.f3 rfl rfl rfl rfl rfl rfl rfl ⟨rfl,rfl,rfl,rfl,rfl⟩ rfl rfl rfl rfl rfl (by kernel_rfl) Try.func3 (by kernel_rfl)
  (of_decide_eq_true (by kernel_rfl)) (by unfold Func.isWrapper;first|(rw[if_pos (by decide +kernel)];kernel_rfl)|(rw[if_neg (by decide +kernel)];exact⟨rfl,rfl⟩))
  (fun os started H enc _=>lifted3 os started H enc)
end Go.Proofs.Ytipeekdnpocclaa
