/-
  slices.Delete of one element: its law.
  Conditions: none.
-/
import Derived.Test.YtipeekdnpocclaaZDelW45
import Derived.KernelRfl
set_option linter.unusedVariables false
set_option linter.unusedSimpArgs false
namespace Go.Ws
open Go.RowKit Go.Shelf Go.Proofs
set_option linter.unusedVariables false
set_option linter.unusedSimpArgs false

theorem delw45:DelWalk Proofs.Try.prog 45 35 2 where
 M:=Proofs.Try.delM45
 E:=Proofs.Try.delE45
 en:=enters_of Proofs.Try.func45 (by kernel_rfl) rfl

theorem aF8 {α:Type} (E:α→List AV) {x1 x2:Int} {x3 r:List α} (h:delP x1 x2 x3=some r) {flg:Fl} {g wg:Nat} :
 Tri Proofs.Try.prog 45 [.ref 2 0 g 0 x3.length flg,.int .i64 x1,.int .i64 x2] [.arr 2 (List.map E x3) g wg false] (.ref 2 0 (g+1) 0 r.length .full) [.arr 2 (List.map E r) (g+1) (g+1) false] :=
 del_enc (te:=72) (bt:=16) delw45 (by kernel_rfl) (by kernel_rfl) (by decide) (by decide) E h
end Go.Ws
