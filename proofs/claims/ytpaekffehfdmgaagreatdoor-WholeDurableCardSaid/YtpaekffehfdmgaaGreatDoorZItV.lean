/-
  slices.Values over bytes: its closure's contract.
  Conditions: none.
-/
import Derived.RangeFuncNested
import Derived.RangeFuncBound
import Derived.RangeFuncCalls
import Derived.RangeFuncLeaves
import Derived.Shelf.Abstract
import Derived.Shelf.RegionOpen
import Derived.WalkKit
import Derived.OwnWalkIn
import Derived.TacticsInMore
import Derived.LoopNIn
import Derived.LoopIn
import Derived.Test.YtpaekffehfdmgaaGreatDoorProg
set_option linter.unusedVariables false
set_option linter.unusedSimpArgs false
namespace Go.Proofs
open Go.RowKit Go.Shelf
set_option linter.unusedVariables false
set_option linter.unusedSimpArgs false

attribute [local go_sem] Oper.semAt_some

def Tryz.ks (k:Nat):List (Fin 3):=([0,1,2]:List (Fin 3)).take k
theorem Tryz.ks_succ (k:Nat) (h:k<3):Tryz.ks (k+1)=Tryz.ks k++[⟨k,h⟩]:=by
 have:k=0∨k=1∨k=2:=by omega
 rcases this with rfl | rfl | rfl<;>rfl
theorem Tryz.ks_length (k:Nat) (h:k≤3):(Tryz.ks k).length=k:=by
 have:k=0∨k=1∨k=2∨k=3:=by omega
 rcases this with rfl | rfl | rfl | rfl<;>rfl

def Tryz.Kb (b:Nat) (A B:World):Prop:=B.heap[b]? = A.heap[b]?

set_option maxRecDepth 100000 in
set_option maxHeartbeats 2000000 in
theorem Tryz.values1 (l Bs b cap:Nat) (J Jx:List (Fin 3)→World→Prop)
 (hY:∀pre x W,J pre W→pre.length<3→YieldAt Fence.wide 2 Tryz.prog l #[.int .u8 (x.val:Int)] W fun e W' =>
  (e = .returned (.bool true)∧J (pre++[x]) W'∧Tryz.Kb b W W')∨(e = .returned (.bool false)∧Jx (pre++[x]) W'))
 (W:World) (hBs:W.cell? ⟨Bs,0,none⟩=some (.slice (some ⟨b,0,none⟩) 3 cap)) (hc:∀j:Nat,j<3→W.cell? ⟨b,j,none⟩=some (.int .u8 j)) (h0:J [] W) :
 CallsIn Fence.wide 3 Tryz.prog 65 #[.func (.yield l) #[] #[],.pointer (some ⟨Bs,0,none⟩)] W fun e W'=>(∃v,e = .returned v) ∧
  ((∃ys,ys=[0,1,2]∧J ys W')∨(∃pre,True∧Jx pre W')):=by
 refine callsIn_of_wp Tryz.func65 rfl trivial ?_ rfl
 simp only[Tryz.ntmps65,List.size_toArray,List.length_cons,List.length_nil,Nat.reduceAdd,Nat.reduceSub,Array.replicate_succ,Array.replicate_zero,List.push_toArray,List.append_toArray,List.nil_append,List.cons_append]
 gi_wp2
 gi_loopw [7] (fun i wr=>∃k:Nat,k≤3∧i = .int .i64 k∧J (Tryz.ks k) wr∧wr.heap[b]? = W.heap[b]?)
  (fun i _=>3 - (intOf i).toNat)
 case atStart=>exact⟨0,Nat.zero_le _,rfl,h0,rfl⟩
 case round =>
  obtain⟨k,hk,rfl,hJs,hnx⟩:=hrel
  have hcx:k<3→wr.cell? ⟨b,k,none⟩=some (.int .u8 k):=fun h=>(World.cell?_of_block (a:=⟨b,k,none⟩) hnx).trans (hc k h)
  by_cases hlt:k<3
  · obtain⟨fn,tmps,assign,body,hy,hR⟩:=hY _ ⟨k,hlt⟩ wr hJs (by rw[Tryz.ks_length k hk];exact hlt)
    have hcx':=hcx hlt
    gi_wp2
    refine hR.mono ?_
    rintro e W3 (⟨rfl,hJ3,hk3⟩ | ⟨rfl,hJx3⟩)
    · gi_wp2
      go_roundw
      case rel=>exact⟨k+1,by omega,by simp,by rw[Tryz.ks_succ k hlt];exact hJ3,Eq.trans hk3 hnx⟩
      case measure=>simp [intOf];omega
    · gi_wp2
      refine bodyPost_ret (results_none rfl _ _ _) rfl ?_
      exact⟨⟨_,rfl⟩,.inr ⟨_,trivial,hJx3⟩⟩
  · obtain rfl:k=3:=by omega
    gi_wp2
    go_end0
    exact⟨⟨_,rfl⟩,.inl ⟨_,rfl,hJs⟩⟩

def Tryz.Keys3 (base n₀:Nat) (W:World) (sv:Value):Prop:=∃b cap,sv = .slice (some ⟨b,0,none⟩) 3 cap∧base≤b∧b<n₀∧∀j:Nat,j<3→W.cell? ⟨b,j,none⟩=some (.int .u8 j)

set_option maxHeartbeats 1000000 in
theorem Tryz.values_in (n:Nat) (a:Option Addr) (len cap:Nat) (w:World) :
 CallsIn Fence.wide n Tryz.prog 47 #[.slice a len cap] w fun e w'=>e = .returned (.func (.func 65) #[] #[.pointer (some ⟨w.heap.size,0,none⟩)])∧w'=w.alloc (.cells #[.slice a len cap] 27):=by
 refine callsIn_of_wp Tryz.func47 rfl trivial ?_ rfl
 simp only[Tryz.ntmps47,List.size_toArray,List.length_cons,List.length_nil,Nat.reduceAdd,Nat.reduceSub,Array.replicate_succ,Array.replicate_zero,List.push_toArray,List.append_toArray,List.nil_append,List.cons_append]
 gi_wp2
 go_ret
 exact⟨rfl,rfl⟩

theorem Tryz.values_stops (Bs b cap:Nat) (w:World) (hBs:Bs<w.heap.size) (hc:w.cell? ⟨Bs,0,none⟩=some (.slice (some ⟨b,0,none⟩) 3 cap)) (hb:b<w.heap.size) (hcs:∀j:Nat,j<3→w.cell? ⟨b,j,none⟩=some (.int .u8 j)) :
 SeqStopsK Fence.wide 3 Tryz.prog 65 #[.pointer (some ⟨Bs,0,none⟩)] (fun x:Fin 3=>#[Value.int .u8 (x.val:Int)]) (Tryz.Kb b) (fun ys=>ys=[0,1,2]) (fun _=>True) 3 w:=fun l J Jx W hW _ _ hY h0 =>
 Tryz.values1 l Bs b cap J Jx hY W ((hW.cell (p:=⟨Bs,0,none⟩) hBs).trans hc) (fun j hj=>(hW.cell (p:=⟨b,j,none⟩) hb).trans (hcs j hj)) h0
end Go.Proofs
