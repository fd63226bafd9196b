/-
  WholeDurable: whatever the input, the law returns true and its arguments read as they did. (Printed by my own program.)
  Conditions: none.
-/
import Derived.Test.YtpaekffehfdmgaaGreatDoorZWGWholeDurable2
import Derived.Test.YtpaekffehfdmgaaGreatDoorZArgs
import Derived.Test.YtpaekffehfdmgaaGreatDoorZDurableLaw
import Derived.JoinedOf
import Derived.Test.YtpaekffehfdmgaaGreatDoorTie
import Derived.Test.YtpaekffehfdmgaaGreatDoorCards
import Derived.ProofKit
import Derived.OpenShut
import Derived.LaidMore
import Derived.Lay
import Derived.SevenTiedAt
import Derived.Stop.Joined
import Derived.JoinedAt
set_option linter.unusedVariables false
set_option linter.unusedSimpArgs false
namespace Go.Ws
open Go.Proofs Go.ChangeShapes Go.WideShapes Go.ChangeAt Go.RowKit
set_option linter.unusedSimpArgs false
set_option linter.unusedVariables false
set_option maxRecDepth 1000000
set_option maxHeartbeats 4000000
theorem args_WholeDurable (l:List AV) (h:aIZ Tryz.prog 6 Tryz.f4.params.toList l):Tri Tryz.prog 4 l [] (.bool true) []:=by
 have hp:Tryz.f4.params.toList=[54,27]:=rfl
 rw[hp] at h
 obtain⟨v0,r0,rfl,h0,v1,r1,rfl,h1,rfl⟩:=h
 obtain⟨y0,rfl,w0⟩:=argv_t54 h0
 obtain⟨y1,rfl,w1⟩:=argv_t27 h1
 obtain⟨k,hk⟩:=(wM ..).get (L12.plain_durable y0 y1 w0 w1)
 exact wC k _ _ true hk
end Go.Ws
namespace Go.Proofs.YtpaekffehfdmgaaGreatDoor
open Go.ChangeShapes Go.WideShapes Go.ChangeAt Go.RowKit
set_option maxRecDepth 100000
theorem lifted4 (os:Os) (started:os.Started) (H:Type) (enc:TypeId × Value→H) :
 ReturnsInHanded {} Tryz.checked os 4 .any (fun w args=>(Rows.wholeDurableSpec.pre enc Tryz.prog Tryz.f4 Rows.wholeDurableRow.domain false w args∧laidMetH Tryz.prog Rows.wholeDurableRow.laid w)∧sizedMet enc Tryz.prog Tryz.f4 (OpenSpec.ofChange Rows.wholeDurableSpec) false w args) (Rows.wholeDurableSpec.post enc Tryz.prog Tryz.f4 false true false false):=by
 refine returnsInHanded_of_change_and (C:=Tryz.checked) (X:=fun w _=>laidMetH Tryz.prog Rows.wholeDurableRow.laid w) (fun _ _ _ hh h=>h.of_heap hh) Go.Ws.own started (by kernel_rfl) Tryz.func4
  (ChangeSpec.witness_shaped (enc:=enc) (C:=Tryz.checked) (os:=os) (X:=fun w _=>laidMetH Tryz.prog Rows.wholeDurableRow.laid w) false (World.laidAll Tryz.prog os Rows.wholeDurableRow.laid) #[.slice none 0 0,.slice none 0 0] 8 (World.laidAll_os _ _ _)
   (World.shaped_of_ZipB (by kernel_rfl) (by kernel_rfl)) (by kernel_rfl) (by kernel_rfl) (by kernel_rfl)
   (by rw[MakeChecks.laidMetH_plain _ _ _ (by kernel_rfl)];exact laidMet_laidAll _ (by kernel_rfl) (by kernel_rfl))) ?_
 intro W base args ds gs before hval hW _ _ _ _
 have e:Tryz.checked.prog=Tryz.prog:=by unfold Tryz.checked;rfl
 rw[e] at hval hW ⊢
 exact Go.Ws.tK Go.Ws.laid Go.Ws.rowed Go.Ws.full Tryz.func4 (by kernel_rfl) Go.Ws.isBool (m:=6) (by kernel_rfl) rfl (fun H ds h=>by match ds,h with | [d0,d1],_=>rfl) Go.Ws.args_WholeDurable hval hW

theorem wholeDurable_row:Rows.WholeDurableSaid :=
 OpenClaim.holds_of_wide 4 Tryz.f4 rfl rfl rfl rfl rfl rfl rfl ⟨rfl,rfl,rfl,rfl,rfl⟩ rfl rfl rfl rfl rfl (by kernel_rfl) Tryz.func4 (by kernel_rfl)
  (of_decide_eq_true (by kernel_rfl)) (by unfold Func.isWrapper;first|(rw[if_pos (by decide +kernel)];kernel_rfl)|(rw[if_neg (by decide +kernel)];exact⟨rfl,rfl⟩))
  (fun os started H enc _=>lifted4 os started H enc)

theorem wholeDurable_holds:Rows.WholeDurableCardSaid :=
 Claim7.holds_tied_plain_at .later [] [.data, .pinned] true (true, "4c403489770f3f5d1be84e0e4ca7441648d96a677c9c34a7c11199eb7f8d9be9") true wholeDurable_row (fun _ h => by cases h) (by kernel_rfl) (fun _ h => by cases h) wholeDurable_row_tie rfl ⟨rfl, rfl⟩ (by kernel_rfl) rfl
  (fun f fn hf hfn=>by
   obtain rfl : f = 4 := Option.some.inj ((show Tryz.prog.funcNamed "waystation/waystationtop.WholeDurable" = some 4 by kernel_rfl).symm.trans hf) |>.symm
   obtain rfl:fn=Tryz.f4:=(Option.some.inj (Tryz.func4.symm.trans hfn)).symm
   exact⟨by kernel_rfl,fun j t ht=>by
    rw[Tryz.params4] at ht
    have hm:t∈[54,27]:=by simpa using Array.mem_of_getElem? ht
    have hall:([54,27].all fun u=>!Tryz.prog.wantsStandIn u)=true:=by kernel_rfl
    exact(show Tryz.prog.wantsStandIn t=false by simpa using List.all_eq_true.1 hall t hm)⟩)
  (by kernel_rfl)
end Go.Proofs.YtpaekffehfdmgaaGreatDoor
