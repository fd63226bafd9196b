/-
  slices.Insert of one element: its text, walked.
  Conditions: none.
-/
import Derived.Shelf.Abstract
import Derived.Shelf.RegionOpen
import Derived.Shelf.RegionOpenPlain
import Derived.WalkKit
import Derived.Lib.AppendZeros
import Derived.Lib.AppendZerosOnto
import Derived.Lib.Overlaps
import Derived.Test.YtipeekdnpocclaaZB2
import Derived.Test.YtipeekdnpocclaaProg
set_option linter.unusedVariables false
set_option linter.unusedSimpArgs false
namespace Go.Proofs
open Go.RowKit Go.Shelf Go.Ws
set_option linter.unusedVariables false
set_option linter.unusedSimpArgs false

attribute [local go_sem] Oper.semAt_some

set_option maxRecDepth 100000 in
set_option maxHeartbeats 4000000 in
theorem Try.insC44 (B n c i vb vc:Nat) (w W1 W2:World) (hi:i<n) (hroom:n+1≤c) (hn:n+1≤140737488355328)
 (hov:∀lb cb,(callFunc 54 #[.slice (some ⟨vb,0,none⟩) 1 vc,.slice (some ⟨B,(i+1)*2,none⟩) lb cb]).run Try.prog w = .ok (.value (.bool false)) w)
 (hcp1:∀ty dc sc,(Builtin.copy_ #[35,35] ty #[.slice (some ⟨B,(i+1)*2,none⟩) (n - i) dc,.slice (some ⟨B,i*2,none⟩) (n+1 - i) sc]).run Try.prog w.drew = .ok (goInt (n - i:Nat)) W1)
 (hcp2:∀ty dc,(Builtin.copy_ #[35,34] ty #[.slice (some ⟨B,i*2,none⟩) (n+1 - i) dc,.slice (some ⟨vb,0,none⟩) 1 vc]).run Try.prog W1 = .ok (goInt (1:Nat)) W2) :
 Calls Try.prog 44 #[.slice (some ⟨B,0,none⟩) n c,.int .i64 i,.slice (some ⟨vb,0,none⟩) 1 vc] w fun e w'=>e = .returned (.slice (some ⟨B,0,none⟩) (n+1) c)∧w'=W2:=by
 have hz2:¬((i:Int)=(n:Int)):=by omega
 have hw1:IntKind.i64.wrap ((i:Int)+1)=(i:Int)+1:=by rw[IntKind.wrap_i64];omega
 have hb1:(0:Int)≤(i:Int)+1:=by omega
 have hin:i≤n:=by omega
 have htn:((i:Int)+1).toNat=i+1:=by omega
 have hb2:¬(c=i+1):=by omega
 have hb3:(i:Int)≤(n:Int)+1:=by omega
 have hb4:¬(c=i):=by omega
 have hmx:Try.prog.follows .mixedOrders=true:=by kernel_rfl
 go_enter Try.func44,Try.ntmps44
 go_wp2_with (simp only[hov])
 go_region_law_o (refine nX rfl _ _ 35 35 rfl _ _ (by simp [Act.eval,Act.put]) (by simp [Act.eval,Act.put]) (hcp1 _ _ _) ?_)
 go_wp2_with (at_builtin;refine lH _ rfl _ _ 35 34 rfl _ _ rfl rfl (hcp2 _ _) ?_)
 go_ret
 exact⟨rfl,rfl⟩

set_option maxRecDepth 100000 in
set_option maxHeartbeats 4000000 in
theorem Try.insB44 (B n c i vb vc nb G:Nat) (w W1 W2 W3:World) (hi:i<n) (hnc:n≤c) (hroom:c<n+1) (hG:n+1≤G) (hn:n+1≤140737488355328)
 (hrz:(Builtin.append_ #[35,3] 35 #[.slice (some ⟨B,0,none⟩) i c,.int .i64 ((n:Int)+1 - (i:Int))]).run Try.prog w = .ok (.slice (some ⟨nb,0,none⟩) (n+1) G) W1)
 (hcpA:∀ty dc,(Builtin.copy_ #[35,34] ty #[.slice (some ⟨nb,i*2,none⟩) (n+1 - i) dc,.slice (some ⟨vb,0,none⟩) 1 vc]).run Try.prog W1 = .ok (goInt (1:Nat)) W2)
 (hcpB:∀ty dc sc,(Builtin.copy_ #[35,35] ty #[.slice (some ⟨nb,(i+1)*2,none⟩) (n - i) dc,.slice (some ⟨B,i*2,none⟩) (n - i) sc]).run Try.prog W2.drew = .ok (goInt (n - i:Nat)) W3) :
 Calls Try.prog 44 #[.slice (some ⟨B,0,none⟩) n c,.int .i64 i,.slice (some ⟨vb,0,none⟩) 1 vc] w fun e w'=>e = .returned (.slice (some ⟨nb,0,none⟩) (n+1) G)∧w'=W3:=by
 have hz2:¬((i:Int)=(n:Int)):=by omega
 have hz3:(c:Int)<(n:Int)+1:=by omega
 have hw1:IntKind.i64.wrap ((i:Int)+1)=(i:Int)+1:=by rw[IntKind.wrap_i64];omega
 have hw2:IntKind.i64.wrap ((n:Int)+1)=(n:Int)+1:=by rw[IntKind.wrap_i64];omega
 have hw3:IntKind.i64.wrap ((n:Int)+1 - (i:Int))=(n:Int)+1 - (i:Int):=by rw[IntKind.wrap_i64];omega
 have hb1:(0:Int)≤(i:Int)+1:=by omega
 have hin:i≤n:=by omega
 have htn:((i:Int)+1).toNat=i+1:=by omega
 have hGi:¬(G=i):=by omega
 have hGim:¬(G=i+1):=by omega
 have hci:¬(c=i):=by omega
 have hb3:(i:Int)≤(n:Int):=by omega
 have hmx:Try.prog.follows .mixedOrders=true:=by kernel_rfl
 go_enter Try.func44,Try.ntmps44
 go_wp2_with (first
  | (at_builtin;refine Lib.wpList_append_run _ rfl _ _ _ _ rfl _ _ rfl rfl _ _ hrz ?_)
  | (at_builtin;refine lH _ rfl _ _ 35 34 rfl _ _ rfl rfl (hcpA _ _) ?_))
 go_region_law_o (refine nX rfl _ _ 35 35 rfl _ _ (by simp [Act.eval,Act.put]) (by simp [Act.eval,Act.put]) (hcpB _ _ _) ?_)
 go_wp2
 go_ret
 exact⟨rfl,rfl⟩

set_option maxRecDepth 100000 in
set_option maxHeartbeats 4000000 in
theorem Try.insA44 (a:Option Addr) (n c:Nat) (va:Option Addr) (vc:Nat) (w w':World) (v':Value) (hnc:n≤c) (hn:n+1≤140737488355328)
 (hr:(Builtin.append_ #[35,34] 35 #[.slice a n c,.slice va 1 vc]).run Try.prog w = .ok v' w') :
 Calls Try.prog 44 #[.slice a n c,.int .i64 (n:Int),.slice va 1 vc] w fun e W=>e = .returned v'∧W=w':=by
 have hmx:Try.prog.follows .mixedOrders=true:=by kernel_rfl
 have hin:(n:Int)≤(n:Int):=by omega
 by_cases hcn:c=n
 · subst hcn
   cases a with
   | none =>
    go_enter Try.func44,Try.ntmps44
    go_wp2_with (at_builtin;refine Lib.wpList_append_run _ rfl _ _ _ _ rfl _ _ rfl rfl _ _ hr ?_)
    all_goals go_ret
    all_goals exact⟨rfl,rfl⟩
   | some a =>
    go_enter Try.func44,Try.ntmps44
    go_wp2_with (at_builtin;refine Lib.wpList_append_run _ rfl _ _ _ _ rfl _ _ rfl rfl _ _ hr ?_)
    all_goals go_ret
    all_goals exact⟨rfl,rfl⟩
 · cases a with
   | none =>
    go_enter Try.func44,Try.ntmps44
    go_wp2_with (at_builtin;refine Lib.wpList_append_run _ rfl _ _ _ _ rfl _ _ rfl rfl _ _ hr ?_)
    all_goals go_ret
    all_goals exact⟨rfl,rfl⟩
   | some a =>
    go_enter Try.func44,Try.ntmps44
    go_wp2_with (at_builtin;refine Lib.wpList_append_run _ rfl _ _ _ _ rfl _ _ rfl rfl _ _ hr ?_)
    all_goals go_ret
    all_goals exact⟨rfl,rfl⟩
end Go.Proofs
