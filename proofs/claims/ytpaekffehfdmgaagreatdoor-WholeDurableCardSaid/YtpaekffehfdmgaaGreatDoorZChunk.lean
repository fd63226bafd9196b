/-
  slices.Chunk over bytes: its closure's contract.
  Conditions: none.
-/
import Derived.RangeFuncNested
import Derived.RangeFuncBound
import Derived.RangeFuncCalls
import Derived.RangeFuncLeaves
import Derived.Shelf.Abstract
import Derived.Shelf.RegionOpen
import Derived.WalkKit
import Derived.OwnWalkIn
import Derived.TacticsInMore
import Derived.LoopNIn
import Derived.LoopIn
import Derived.BigRegionIn
import Derived.Test.YtpaekffehfdmgaaGreatDoorProg
set_option linter.unusedVariables false
set_option linter.unusedSimpArgs false
namespace Go.Proofs
open Go.RowKit Go.Shelf
set_option linter.unusedVariables false
set_option linter.unusedSimpArgs false

attribute [local go_sem] Oper.semAt_some

abbrev Tryz.part (B o L cap:Nat) (k:Nat):Array Value:=#[.slice (some ⟨B,o+k*3000,none⟩) (min 3000 (L - k*3000)) (min 3000 (L - k*3000))]

abbrev Tryz.keepsBoxes (Bs Bn:Nat) (W W':World):Prop:=W'.cell? ⟨Bs,0,none⟩=W.cell? ⟨Bs,0,none⟩∧W'.cell? ⟨Bn,0,none⟩=W.cell? ⟨Bn,0,none⟩

theorem Tryz.keepsBoxes_t {Bs Bn:Nat} {A B C:World} (h:Tryz.keepsBoxes Bs Bn A B) (k:Tryz.keepsBoxes Bs Bn B C):Tryz.keepsBoxes Bs Bn A C:=⟨k.1.trans h.1,k.2.trans h.2⟩

theorem Tryz.keepsBoxes_b {Bs Bn:Nat} {n:Nat} (h1:Bs<n) (h2:Bn<n) (W:World) (l:Nat) (o o':Obj) (hl:n≤l) (h:W.heap[l]? = some o) (_:o.isCells=false) (_:o.isWalk=false):Tryz.keepsBoxes Bs Bn W (W.putObj l o'):=by
 constructor<;>(unfold World.cell?;rw[World.putObj_heap_other (by simp;omega)])

theorem Tryz.range_snoc (k:Nat):List.range (k+1)=List.range k++[k]:=List.range_succ

set_option maxRecDepth 100000 in
set_option maxHeartbeats 2000000 in
theorem Tryz.chunk1 (l Bs Bn B o L cap:Nat) (hL:L≤cap) (hreach:L≤140737488351232) (J Jx:List Nat→World→Prop) (hJ:∀pre W,J pre W→J pre W.drew)
 (hY:∀pre x W,J pre W→pre.length<L→YieldAt Fence.wide 2 Tryz.prog l (Tryz.part B o L cap x) W fun e W' =>
  (e = .returned (.bool true)∧J (pre++[x]) W'∧Tryz.keepsBoxes Bs Bn W W')∨(e = .returned (.bool false)∧Jx (pre++[x]) W'))
 (W:World) (hBs:W.cell? ⟨Bs,0,none⟩=some (.slice (some ⟨B,o,none⟩) L cap)) (hBn:W.cell? ⟨Bn,0,none⟩=some (.int .i64 3000)) (h0:J [] W) :
 CallsIn Fence.wide 3 Tryz.prog 109 #[.func (.yield l) #[] #[],.pointer (some ⟨Bs,0,none⟩),.pointer (some ⟨Bn,0,none⟩)] W fun e W'=>(∃v,e = .returned v) ∧
  ((∃ys,ys=List.range ((L+2999) / 3000)∧J ys W')∨(∃pre,True∧Jx pre W')):=by
 refine callsIn_of_wp Tryz.func109 rfl trivial ?_ rfl
 simp only[Tryz.ntmps109,List.size_toArray,List.length_cons,List.length_nil,Nat.reduceAdd,Nat.reduceSub,Array.replicate_succ,Array.replicate_zero,List.push_toArray,List.append_toArray,List.nil_append,List.cons_append]
 gi_wp2
 gi_loopw [4] (fun i wr=>∃k:Nat,k≤(L+2999) / 3000∧i = .int .i64 (k*3000:Nat)∧J (List.range k) wr∧Tryz.keepsBoxes Bs Bn W wr)
  (fun i _=>L+3000 - (intOf i).toNat)
 case atStart=>exact⟨0,Nat.zero_le _,rfl,h0,rfl,rfl⟩
 case round =>
  obtain⟨k,hk,rfl,hJs,hnx⟩:=hrel
  have hcs:=hnx.1.trans hBs
  have hcn:=hnx.2.trans hBn
  by_cases hlt:k*3000<L
  · obtain⟨fn,tmps,assign,body,hy,hR⟩:=hY _ k wr.drew (hJ _ _ hJs) (by rw[List.length_range];omega)
    try dsimp only at hy
    gi_wp2
    gi_region
    rw[show (if ((L - k*3000:Nat):Int)<3000 then ((L - k*3000:Nat):Int) else 3000)=((min 3000 (L - k*3000):Nat):Int) from by split<;>omega]
    obtain⟨m,hm⟩:∃m,min 3000 (L - k*3000)=m:=⟨_,rfl⟩
    have hm1:m≤3000:=by omega
    have hm2:k*3000+m≤L:=by omega
    have hm3:0<m:=by omega
    rw[Tryz.part,hm] at hy
    rw[hm]
    gi_wp2
    refine hR.mono ?_
    rintro e W3 (⟨rfl,hJ3,hk3⟩ | ⟨rfl,hJx3⟩)
    · have hcn3:W3.cell? ⟨Bn,0,none⟩=some (.int .i64 3000):=hk3.2.trans hcn
      gi_wp2
      go_roundw
      case rel =>
       refine⟨k+1,by omega,?_,by rw[Tryz.range_snoc];exact hJ3,hk3.1.trans hnx.1,hk3.2.trans hnx.2⟩
       simp only[Value.int.injEq,true_and]
       omega
      case measure=>simp [intOf];omega
    · gi_wp2
      refine bodyPost_ret (results_none rfl _ _ _) rfl ?_
      exact⟨⟨_,rfl⟩,.inr ⟨_,trivial,hJx3⟩⟩
  · obtain rfl:k=(L+2999) / 3000:=by omega
    gi_wp2
    go_end0
    exact⟨⟨_,rfl⟩,.inl ⟨_,rfl,hJs⟩⟩

set_option maxRecDepth 100000 in
set_option maxHeartbeats 2000000 in
theorem Tryz.chunk0 (l Bs Bn cap:Nat) (a:Option Addr) (J:List Nat→World→Prop) (W:World) (hBs:W.cell? ⟨Bs,0,none⟩=some (.slice a 0 cap)) (h0:J [] W) :
 CallsIn Fence.wide 3 Tryz.prog 109 #[.func (.yield l) #[] #[],.pointer (some ⟨Bs,0,none⟩),.pointer (some ⟨Bn,0,none⟩)] W fun e W'=>(∃v,e = .returned v)∧J [] W':=by
 refine callsIn_of_wp Tryz.func109 rfl trivial ?_ rfl
 simp only[Tryz.ntmps109,List.size_toArray,List.length_cons,List.length_nil,Nat.reduceAdd,Nat.reduceSub,Array.replicate_succ,Array.replicate_zero,List.push_toArray,List.append_toArray,List.nil_append,List.cons_append]
 gi_wp2
 gi_loopw [4] (fun i wr=>i = .int .i64 0∧wr.cell? ⟨Bs,0,none⟩=some (.slice a 0 cap)∧J [] wr) (fun _ _=>0)
 case atStart=>exact⟨rfl,hBs,h0⟩
 case round =>
  obtain⟨rfl,hBs,hJs⟩:=hrel
  gi_wp2
  go_end0
  exact⟨⟨_,rfl⟩,hJs⟩

theorem Tryz.chunk_stops (Bs Bn B o L cap:Nat) (hL:L≤cap) (hreach:L≤140737488351232) (w:World) (hs:Bs<w.heap.size) (hn:Bn<w.heap.size)
 (hBs:w.cell? ⟨Bs,0,none⟩=some (.slice (some ⟨B,o,none⟩) L cap)) (hBn:w.cell? ⟨Bn,0,none⟩=some (.int .i64 3000)) :
 SeqStopsK Fence.wide 3 Tryz.prog 109 #[.pointer (some ⟨Bs,0,none⟩),.pointer (some ⟨Bn,0,none⟩)] (Tryz.part B o L cap) (Tryz.keepsBoxes Bs Bn) (fun ys=>ys=List.range ((L+2999) / 3000)) (fun _=>True) L w:=fun l J Jx W hW hJ _ hY h0 =>
 Tryz.chunk1 l Bs Bn B o L cap hL hreach J Jx (fun pre W hs=>hJ pre W _ none hs ⟨rfl,rfl,rfl,Nat.le_refl _,fun _ _ _=>rfl⟩ (fun r e=>by cases e)) hY W ((hW.cell (p:=⟨Bs,0,none⟩) hs).trans hBs) ((hW.cell (p:=⟨Bn,0,none⟩) hn).trans hBn) h0

theorem Tryz.chunk_stops0 (Bs Bn cap:Nat) (a:Option Addr) (w:World) (hs:Bs<w.heap.size)
 (hBs:w.cell? ⟨Bs,0,none⟩=some (.slice a 0 cap)) :
 SeqStopsK Fence.wide 3 Tryz.prog 109 #[.pointer (some ⟨Bs,0,none⟩),.pointer (some ⟨Bn,0,none⟩)] (fun _:Nat=>#[Value.slice none 0 0]) (Tryz.keepsBoxes Bs Bn) (fun ys=>ys=[]) (fun _=>True) 0 w:=fun l J Jx W hW _ _ hY h0 =>
 (Tryz.chunk0 l Bs Bn cap a J W ((hW.cell (p:=⟨Bs,0,none⟩) hs).trans hBs) h0).mono fun e W' ⟨he,hj⟩=>⟨he,.inl ⟨_,rfl,hj⟩⟩

set_option maxHeartbeats 1000000 in
theorem Tryz.chunk_in (n:Nat) (a:Option Addr) (len cap:Nat) (w:World) :
 CallsIn Fence.wide n Tryz.prog 78 #[.slice a len cap,.int .i64 3000] w fun e w'=>e = .returned (.func (.func 109) #[] #[.pointer (some ⟨w.heap.size,0,none⟩),.pointer (some ⟨w.heap.size+1,0,none⟩)]) ∧
  w'=(w.alloc (.cells #[.slice a len cap] 27)).alloc (.cells #[.int .i64 3000] 3):=by
 refine callsIn_of_wp Tryz.func78 rfl trivial ?_ rfl
 simp only[Tryz.ntmps78,List.size_toArray,List.length_cons,List.length_nil,Nat.reduceAdd,Nat.reduceSub,Array.replicate_succ,Array.replicate_zero,List.push_toArray,List.append_toArray,List.nil_append,List.cons_append]
 gi_wp2
 go_ret
 exact⟨rfl,rfl⟩

end Go.Proofs
