/-
  ModelAgrees: whatever the input, the law returns true and its arguments read as they did. (Printed by my own program.)
  Conditions: none.
-/
import Derived.Test.YtipeekdnpocclaaZWGModelAgrees0
import Derived.Test.YtipeekdnpocclaaZArgs
import Derived.Test.YtipeekdnpocclaaZModelAgrees
import Derived.JoinedOf
import Derived.JoinedAt
set_option linter.unusedVariables false
set_option linter.unusedSimpArgs false
namespace Go.Ws
open Go.Proofs Go.ChangeShapes Go.WideShapes Go.ChangeAt Go.RowKit
set_option linter.unusedSimpArgs false
set_option linter.unusedVariables false
set_option maxRecDepth 1000000
set_option maxHeartbeats 4000000
theorem args_ModelAgrees (l:List AV) (h:aGD Try.prog 6 Try.f4.params.toList l):Tri Try.prog 4 l [] (.bool true) []:=by
 have hp:Try.f4.params.toList=[48,5]:=rfl
 rw[hp] at h
 obtain⟨v0,r0,rfl,h0,v1,r1,rfl,h1,rfl⟩:=h
 obtain⟨y0,rfl,w0⟩:=argv_t48 h0
 obtain⟨y1,rfl,w1⟩:=argv_t5 h1
 obtain⟨k,hk⟩:=(uO ..).get (L10.aE8 y0 y1 w0 w1)
 exact tQ k _ _ true hk
end Go.Ws
namespace Go.Proofs.Ytipeekdnpocclaa
open Go.ChangeShapes Go.WideShapes Go.ChangeAt Go.RowKit
set_option maxRecDepth 100000
theorem lifted4 (os:Os) (started:os.Started) (H:Type) (enc:TypeId × Value→H) :
 ReturnsInHanded {} Try.checked os 4 .any (Rows.modelAgreesSpec.pre6 enc Try.prog Try.f4 Rows.modelAgreesRow.domain false) (Rows.modelAgreesSpec.post enc Try.prog Try.f4 false true false false):=by
 refine returnsInHanded_of_change (C:=Try.checked) Go.Ws.own started (by kernel_rfl) Try.func4
  (ChangeSpec.witness6 (enc:=enc) (C:=Try.checked) false ⟨#[],#[.slice none 0 0,.int .u8 0],[]⟩ 8 (by kernel_rfl) (by kernel_rfl) (by kernel_rfl) (by kernel_rfl)) ?_
 intro W base args ds gs before hval hW _ _
 have e:Try.checked.prog=Try.prog:=by unfold Try.checked;rfl
 rw[e] at hval hW ⊢
 exact Go.Ws.aGP Go.Ws.laid Go.Ws.rowed Go.Ws.full Try.func4 (by kernel_rfl) Go.Ws.isBool (m:=6) (by kernel_rfl) rfl (fun H ds h=>by match ds,h with | [d0,d1],_=>rfl) Go.Ws.args_ModelAgrees hval hW

theorem modelAgrees_holds:Rows.ModelAgreesSaid :=
 OpenClaim.holds_of_wide 4 Try.f4 rfl rfl rfl rfl rfl rfl rfl ⟨rfl,rfl,rfl,rfl,rfl⟩ rfl rfl rfl rfl rfl (by kernel_rfl) Try.func4 (by kernel_rfl)
  (of_decide_eq_true (by kernel_rfl)) (by unfold Func.isWrapper;first|(rw[if_pos (by decide +kernel)];kernel_rfl)|(rw[if_neg (by decide +kernel)];exact⟨rfl,rfl⟩))
  (fun os started H enc _=>lifted4 os started H enc)
end Go.Proofs.Ytipeekdnpocclaa
