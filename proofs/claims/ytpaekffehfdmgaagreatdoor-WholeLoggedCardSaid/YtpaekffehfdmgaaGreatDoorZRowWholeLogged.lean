/-
  WholeLogged: whatever the input, the law returns true and its arguments read as they did. (Printed by my own program.)
  Conditions: none.
-/
import Derived.Test.YtpaekffehfdmgaaGreatDoorZWGWholeLogged1
import Derived.Test.YtpaekffehfdmgaaGreatDoorZArgs
import Derived.Test.YtpaekffehfdmgaaGreatDoorZWholeLaws
import Derived.JoinedOf
import Derived.Test.YtpaekffehfdmgaaGreatDoorTie
import Derived.Test.YtpaekffehfdmgaaGreatDoorCards
import Derived.ProofKit
import Derived.OpenShut
import Derived.LaidMore
import Derived.Lay
import Derived.SevenTiedAt
import Derived.Stop.Joined
import Derived.JoinedAt
set_option linter.unusedVariables false
set_option linter.unusedSimpArgs false
namespace Go.Ws
open Go.Proofs Go.ChangeShapes Go.WideShapes Go.ChangeAt Go.RowKit
set_option linter.unusedSimpArgs false
set_option linter.unusedVariables false
set_option maxRecDepth 1000000
set_option maxHeartbeats 4000000
theorem args_WholeLogged (l:List AV) (h:aQT Tryz.prog 6 Tryz.f3.params.toList l):Tri Tryz.prog 3 l [] (.bool true) []:=by
 have hp:Tryz.f3.params.toList=[22,23]:=rfl
 rw[hp] at h
 obtain⟨v0,r0,rfl,h0,v1,r1,rfl,h1,rfl⟩:=h
 obtain⟨y0,rfl,w0⟩:=argv_t22 h0
 obtain⟨y1,rfl,w1⟩:=argv_t23 h1
 obtain⟨k,hk⟩:=(aEZ ..).get (L10.aN7 y0 y1 w0 w1)
 exact aE5 k _ _ true hk
end Go.Ws
namespace Go.Proofs.YtpaekffehfdmgaaGreatDoor
open Go.ChangeShapes Go.WideShapes Go.ChangeAt Go.RowKit
set_option maxRecDepth 100000
theorem lifted3 (os:Os) (started:os.Started) (H:Type) (enc:TypeId × Value→H) :
 ReturnsInHanded {} Tryz.checked os 3 .any (fun w args=>(Rows.wholeLoggedSpec.pre enc Tryz.prog Tryz.f3 Rows.wholeLoggedRow.domain false w args∧laidMetH Tryz.prog Rows.wholeLoggedRow.laid w)∧sizedMet enc Tryz.prog Tryz.f3 (OpenSpec.ofChange Rows.wholeLoggedSpec) false w args) (Rows.wholeLoggedSpec.post enc Tryz.prog Tryz.f3 false true false false):=by
 refine returnsInHanded_of_change_and (C:=Tryz.checked) (X:=fun w _=>laidMetH Tryz.prog Rows.wholeLoggedRow.laid w) (fun _ _ _ hh h=>h.of_heap hh) Go.Ws.own started (by kernel_rfl) Tryz.func3
  (ChangeSpec.witness_shaped (enc:=enc) (C:=Tryz.checked) (os:=os) (X:=fun w _=>laidMetH Tryz.prog Rows.wholeLoggedRow.laid w) false (World.laidAll Tryz.prog os Rows.wholeLoggedRow.laid) #[.slice none 0 0,.int .u16 0] 8 (World.laidAll_os _ _ _)
   (World.shaped_of_ZipB (by kernel_rfl) (by kernel_rfl)) (by kernel_rfl) (by kernel_rfl) (by kernel_rfl)
   (by rw[MakeChecks.laidMetH_plain _ _ _ (by kernel_rfl)];exact laidMet_laidAll _ (by kernel_rfl) (by kernel_rfl))) ?_
 intro W base args ds gs before hval hW _ _ _ _
 have e:Tryz.checked.prog=Tryz.prog:=by unfold Tryz.checked;rfl
 rw[e] at hval hW ⊢
 exact Go.Ws.aJY Go.Ws.laid Go.Ws.rowed Go.Ws.full Tryz.func3 (by kernel_rfl) Go.Ws.isBool (m:=6) (by kernel_rfl) rfl (fun H ds h=>by match ds,h with | [d0,d1],_=>rfl) Go.Ws.args_WholeLogged hval hW

theorem wholeLogged_row:Rows.WholeLoggedSaid :=
 OpenClaim.holds_of_wide 3 Tryz.f3 rfl rfl rfl rfl rfl rfl rfl ⟨rfl,rfl,rfl,rfl,rfl⟩ rfl rfl rfl rfl rfl (by kernel_rfl) Tryz.func3 (by kernel_rfl)
  (of_decide_eq_true (by kernel_rfl)) (by unfold Func.isWrapper;first|(rw[if_pos (by decide +kernel)];kernel_rfl)|(rw[if_neg (by decide +kernel)];exact⟨rfl,rfl⟩))
  (fun os started H enc _=>lifted3 os started H enc)

theorem wholeLogged_holds:Rows.WholeLoggedCardSaid :=
 Claim7.holds_tied_plain_at .later [] [.data, .pinned] true (true, "4c403489770f3f5d1be84e0e4ca7441648d96a677c9c34a7c11199eb7f8d9be9") true wholeLogged_row (fun _ h => by cases h) (by kernel_rfl) (fun _ h => by cases h) wholeLogged_row_tie rfl ⟨rfl, rfl⟩ (by kernel_rfl) rfl
  (fun f fn hf hfn=>by
   obtain rfl : f = 3 := Option.some.inj ((show Tryz.prog.funcNamed "waystation/waystationtop.WholeLogged" = some 3 by kernel_rfl).symm.trans hf) |>.symm
   obtain rfl:fn=Tryz.f3:=(Option.some.inj (Tryz.func3.symm.trans hfn)).symm
   exact⟨by kernel_rfl,fun j t ht=>by
    rw[Tryz.params3] at ht
    have hm:t∈[22,23]:=by simpa using Array.mem_of_getElem? ht
    have hall:([22,23].all fun u=>!Tryz.prog.wantsStandIn u)=true:=by kernel_rfl
    exact(show Tryz.prog.wantsStandIn t=false by simpa using List.all_eq_true.1 hall t hm)⟩)
  (by kernel_rfl)
end Go.Proofs.YtpaekffehfdmgaaGreatDoor
