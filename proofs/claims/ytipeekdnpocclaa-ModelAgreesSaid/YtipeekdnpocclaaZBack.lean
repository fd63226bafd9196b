/-
  slices.Backward over deltas: its closure's contract.
  Conditions: none.
-/
import Derived.RangeFuncNested
import Derived.RangeFuncBox
import Derived.RangeFuncBound
import Derived.RangeFuncCalls
import Derived.RangeFuncLeaves
import Derived.Shelf.Abstract
import Derived.Shelf.RegionOpen
import Derived.WalkKit
import Derived.OwnWalkIn
import Derived.TacticsInMore
import Derived.LoopNIn
import Derived.LoopIn
import Derived.BigRegionIn
import Derived.Test.YtipeekdnpocclaaProg
set_option linter.unusedVariables false
set_option linter.unusedSimpArgs false
namespace Go.Proofs
open Go.RowKit Go.Shelf
set_option linter.unusedVariables false
set_option linter.unusedSimpArgs false

attribute [local go_sem] Oper.semAt_some

abbrev Try.pairD (f g:Nat→Int) (k:Nat):Array Value:=#[.int .i64 (k:Int),.agg #[.int .u8 (f k),.int .i64 (g k)]]
abbrev Try.keepsD (n₀ Bs:Nat) (sv:Value) (W W':World):Prop:=Below n₀ W W'∧(Boxed W Bs 34 sv→Boxed W' Bs 34 sv)
theorem Try.keepsD_t {n₀ Bs:Nat} {sv:Value} {A B C:World} (h:Try.keepsD n₀ Bs sv A B) (k:Try.keepsD n₀ Bs sv B C):Try.keepsD n₀ Bs sv A C:=⟨h.1.trans k.1,fun x=>k.2 (h.2 x)⟩
def Try.down (L k:Nat):List Nat:=(List.range k).map fun j=>L - 1 - j
theorem Try.down_snoc (L k:Nat):Try.down L (k+1)=Try.down L k++[L - 1 - k]:=by simp [Try.down,List.range_succ]

set_option maxRecDepth 100000 in
set_option maxHeartbeats 2000000 in
theorem Try.back1 (l Bs B o L cap n₀:Nat) (hn₀:B<n₀) (f g:Nat→Int) (hL:L≤cap) (hreach:L≤9223372036854775807) (J Jx:List Nat→World→Prop) (hJ:∀pre W,J pre W→J pre W.drew)
 (hY:∀pre x W,J pre W→pre.length<L→YieldAt Fence.wide 2 Try.prog l (Try.pairD f g x) W fun e W' =>
  (e = .returned (.bool true)∧J (pre++[x]) W'∧Try.keepsD n₀ Bs (.slice (some ⟨B,o,none⟩) L cap) W W')∨(e = .returned (.bool false)∧Jx (pre++[x]) W'))
 (W:World) (hBs:Boxed W Bs 34 (.slice (some ⟨B,o,none⟩) L cap)) (hc:∀j,j<L→W.cell? ⟨B,o+j*2,none⟩=some (.int .u8 (f j))∧W.cell? ⟨B,o+j*2+1,none⟩=some (.int .i64 (g j))) (h0:J [] W) :
 CallsIn Fence.wide 3 Try.prog 102 #[.func (.yield l) #[] #[],.pointer (some ⟨Bs,0,none⟩)] W fun e W'=>(∃v,e = .returned v) ∧
  ((∃ys,ys=Try.down L L∧J ys W')∨(∃pre,True∧Jx pre W')):=by
 have hB0:=hBs.cell
 refine callsIn_of_wp Try.func102 rfl trivial ?_ rfl
 simp only[Try.ntmps102,List.size_toArray,List.length_cons,List.length_nil,Nat.reduceAdd,Nat.reduceSub,Array.replicate_succ,Array.replicate_zero,List.push_toArray,List.append_toArray,List.nil_append,List.cons_append]
 gi_wp2
 gi_loopw [3] (fun i wr=>∃k:Nat,k≤L∧i = .int .i64 ((L:Int) - 1 - k)∧J (Try.down L k) wr∧Try.keepsD n₀ Bs (.slice (some ⟨B,o,none⟩) L cap) W wr)
  (fun i _=>(intOf i+1).toNat)
 case atStart=>exact⟨0,Nat.zero_le _,by simp,h0,Below.refl _ _,id⟩
 case round =>
  obtain⟨k,hk,rfl,hJs,hnx⟩:=hrel
  have hcs:=(hnx.2 hBs).cell
  by_cases hlt:k<L
  · obtain⟨m,hm⟩:∃m,L - 1 - k=m:=⟨_,rfl⟩
    have hmi:((L:Int) - 1 - k)=(m:Int):=by omega
    rw[hmi]
    obtain⟨c1,c2⟩:=hc m (by omega)
    have c1':=(hnx.1.cell (p:=⟨B,o+m*2,none⟩) hn₀).trans c1
    have c2':=(hnx.1.cell (p:=⟨B,o+m*2+1,none⟩) hn₀).trans c2
    obtain⟨fn,tmps,assign,body,hy,hR⟩:=hY _ m wr (hJs) (by rw[Try.down,List.length_map,List.length_range];omega)
    try dsimp only at hy
    gi_wp2
    refine hR.mono ?_
    rintro e W3 (⟨rfl,hJ3,hk3⟩ | ⟨rfl,hJx3⟩)
    · gi_wp2
      go_roundw
      case rel =>
       refine⟨k+1,by omega,?_,by rw[Try.down_snoc,hm];exact hJ3,Try.keepsD_t hnx hk3⟩
       simp only[Value.int.injEq,true_and]
       omega
      case measure=>simp [intOf]<;>omega
    · gi_wp2
      refine bodyPost_ret (results_none rfl _ _ _) rfl ?_
      exact⟨⟨_,rfl⟩,.inr ⟨_,trivial,hJx3⟩⟩
  · obtain rfl:k=L:=by omega
    gi_wp2
    go_end0
    exact⟨⟨_,rfl⟩,.inl ⟨_,rfl,hJs⟩⟩

set_option maxRecDepth 100000 in
set_option maxHeartbeats 2000000 in
theorem Try.back0 (l Bs cap:Nat) (a:Option Addr) (J:List Nat→World→Prop) (W:World) (hBs:W.cell? ⟨Bs,0,none⟩=some (.slice a 0 cap)) (h0:J [] W) :
 CallsIn Fence.wide 3 Try.prog 102 #[.func (.yield l) #[] #[],.pointer (some ⟨Bs,0,none⟩)] W fun e W'=>(∃v,e = .returned v)∧J [] W':=by
 refine callsIn_of_wp Try.func102 rfl trivial ?_ rfl
 simp only[Try.ntmps102,List.size_toArray,List.length_cons,List.length_nil,Nat.reduceAdd,Nat.reduceSub,Array.replicate_succ,Array.replicate_zero,List.push_toArray,List.append_toArray,List.nil_append,List.cons_append]
 gi_wp2
 gi_loopw [3] (fun i wr=>i = .int .i64 (-1)∧J [] wr) (fun _ _=>0)
 case atStart=>exact⟨rfl,h0⟩
 case round =>
  obtain⟨rfl,hJs⟩:=hrel
  gi_wp2
  go_end0
  exact⟨⟨_,rfl⟩,hJs⟩

theorem Try.back_stops (Bs B o L cap n₀:Nat) (hn₀:B<n₀) (f g:Nat→Int) (hL:L≤cap) (hreach:L≤9223372036854775807) (w:World) (hnw:n₀≤w.heap.size)
 (hBs:Boxed w Bs 34 (.slice (some ⟨B,o,none⟩) L cap)) (hc:∀j,j<L→w.cell? ⟨B,o+j*2,none⟩=some (.int .u8 (f j))∧w.cell? ⟨B,o+j*2+1,none⟩=some (.int .i64 (g j))) :
 SeqStopsK Fence.wide 3 Try.prog 102 #[.pointer (some ⟨Bs,0,none⟩)] (Try.pairD f g) (Try.keepsD n₀ Bs (.slice (some ⟨B,o,none⟩) L cap)) (fun ys=>ys=Try.down L L) (fun _=>True) L w:=fun l J Jx W hW hJ _ hY h0 =>
 Try.back1 l Bs B o L cap n₀ hn₀ f g hL hreach J Jx (fun pre W hs=>hJ pre W _ none hs ⟨rfl,rfl,rfl,Nat.le_refl _,fun _ _ _=>rfl⟩ (fun r e=>by cases e)) hY W ((hW.block Bs hBs.lt).trans hBs)
  (fun j hj=>⟨(hW.cell (p:=⟨B,o+j*2,none⟩) (by show B<_;omega)).trans (hc j hj).1,(hW.cell (p:=⟨B,o+j*2+1,none⟩) (by show B<_;omega)).trans (hc j hj).2⟩) h0

theorem Try.back_stops0 (n₀ Bs cap:Nat) (sv:Value) (a:Option Addr) (w:World) (hBs:Boxed w Bs 34 (.slice a 0 cap)) :
 SeqStopsK Fence.wide 3 Try.prog 102 #[.pointer (some ⟨Bs,0,none⟩)] (Try.pairD (fun _=>0) (fun _=>0)) (Try.keepsD n₀ Bs sv) (fun ys=>ys=[]) (fun _=>True) 0 w:=fun l J Jx W hW _ _ hY h0 =>
 (Try.back0 l Bs cap a J W ((hW.cell (p:=⟨Bs,0,none⟩) hBs.lt).trans hBs.cell) h0).mono fun e W' ⟨he,hj⟩=>⟨he,.inl ⟨_,rfl,hj⟩⟩

set_option maxHeartbeats 1000000 in
theorem Try.back_in (n:Nat) (a:Option Addr) (len cap:Nat) (w:World) :
 CallsIn Fence.wide n Try.prog 91 #[.slice a len cap] w fun e w'=>e = .returned (.func (.func 102) #[] #[.pointer (some ⟨w.heap.size,0,none⟩)])∧w'=w.alloc (.cells #[.slice a len cap] 34):=by
 refine callsIn_of_wp Try.func91 rfl trivial ?_ rfl
 simp only[Try.ntmps91,List.size_toArray,List.length_cons,List.length_nil,Nat.reduceAdd,Nat.reduceSub,Array.replicate_succ,Array.replicate_zero,List.push_toArray,List.append_toArray,List.nil_append,List.cons_append]
 gi_wp2
 go_ret
 exact⟨rfl,rfl⟩
end Go.Proofs
