/-
  slices.Delete of one element: its text, walked.
  Conditions: none.
-/
import Derived.Shelf.Abstract
import Derived.Shelf.RegionOpen
import Derived.Shelf.RegionOpenPlain
import Derived.WalkKit
import Derived.Test.YtipeekdnpocclaaZB2
import Derived.Test.YtipeekdnpocclaaProg
set_option linter.unusedVariables false
set_option linter.unusedSimpArgs false
namespace Go.Proofs
open Go.RowKit Go.Shelf Go.Ws
set_option linter.unusedVariables false
set_option linter.unusedSimpArgs false

attribute [local go_sem] Oper.semAt_some

set_option maxRecDepth 100000 in
set_option maxHeartbeats 4000000 in
theorem Try.delM45 (B n c i:Nat) (w W1 W2:World) (hi:i<n) (hc:n≤c) (hn:n≤140737488355328) (hci:c≠i+1)
 (hr:(Builtin.append_ #[35,35] 35 #[.slice (some ⟨B,0,none⟩) i c,.slice (some ⟨B,(i+1)*2,none⟩) (n - (i+1)) (c - (i+1))]).run Try.prog w.drew = .ok (.slice (some ⟨B,0,none⟩) (n - 1) c) W1)
 (hcl:∀ty cd,(Builtin.clear_ #[35] ty #[.slice (some ⟨B,(n - 1)*2,none⟩) 1 cd]).run Try.prog W1 = .ok undef W2) :
 Calls Try.prog 45 #[.slice (some ⟨B,0,none⟩) n c,.int .i64 i,.int .i64 ((i:Int)+1)] w fun e w'=>e = .returned (.slice (some ⟨B,0,none⟩) (n - 1) c)∧w'=W2:=by
 have hb1:(0:Int)≤(i:Int)+1:=by omega
 have hb2:(i:Int)≤(i:Int)+1:=by omega
 have hb3:(i:Int)+1≤(n:Int):=by omega
 have hb4:¬((i:Int)=(i:Int)+1):=by omega
 have hb5:(i:Int)≤(n:Int):=by omega
 have hb6:(i:Int)≤(c:Int):=by omega
 have hin:i≤n:=by omega
 have htn:((i:Int)+1).toNat=i+1:=by omega
 have hb7:((n - 1:Nat):Int)≤(n:Int):=by omega
 have hb8:(n:Int)≤(c:Int):=by omega
 have hb9:n - (n - 1)=1:=by omega
 have hb10:¬(c=n - 1):=by omega
 have hb11:¬(n=i):=by omega
 have hmx:Try.prog.follows .mixedOrders=true:=by kernel_rfl
 go_enter Try.func45,Try.ntmps45
 go_wp2
 go_region_law_o (refine sZ rfl _ _ 35 35 rfl _ _ (by simp [Act.eval,Act.put]) (by simp [Act.eval,Act.put]) hr ?_)
 go_wp2_with (at_builtin;refine rR _ rfl _ 35 rfl _ rfl (hcl _ _) ?_)
 go_ret
 exact⟨rfl,rfl⟩

set_option maxRecDepth 100000 in
set_option maxHeartbeats 4000000 in
theorem Try.delE45 (B i:Nat) (w W1 W2:World) (hn:i+1≤140737488355328)
 (hr:(Builtin.append_ #[35,35] 35 #[.slice (some ⟨B,0,none⟩) i (i+1),.slice (some ⟨B,0,none⟩) 0 0]).run Try.prog w.drew = .ok (.slice (some ⟨B,0,none⟩) i (i+1)) W1)
 (hcl:∀ty cd,(Builtin.clear_ #[35] ty #[.slice (some ⟨B,i*2,none⟩) 1 cd]).run Try.prog W1 = .ok undef W2) :
 Calls Try.prog 45 #[.slice (some ⟨B,0,none⟩) (i+1) (i+1),.int .i64 i,.int .i64 ((i:Int)+1)] w fun e w'=>e = .returned (.slice (some ⟨B,0,none⟩) i (i+1))∧w'=W2:=by
 have hb1:(0:Int)≤(i:Int)+1:=by omega
 have hb2:(i:Int)≤(i:Int)+1:=by omega
 have hb4:¬((i:Int)=(i:Int)+1):=by omega
 have htn:((i:Int)+1).toNat=i+1:=by omega
 have hb9:i+1 - i=1:=by omega
 have hmx:Try.prog.follows .mixedOrders=true:=by kernel_rfl
 go_enter Try.func45,Try.ntmps45
 go_wp2
 go_region_law_o (refine sZ rfl _ _ 35 35 rfl _ _ (by simp [Act.eval,Act.put]) (by simp [Act.eval,Act.put]) hr ?_)
 go_wp2_with (at_builtin;refine rR _ rfl _ 35 rfl _ rfl (hcl _ _) ?_)
 go_ret
 exact⟨rfl,rfl⟩
end Go.Proofs
