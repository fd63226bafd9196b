/-
  slices.Sorted of the three keys: they come in order.
  Conditions: none.
-/
import Derived.Test.YtpaekffehfdmgaaGreatDoorZItS
import Derived.Test.YtpaekffehfdmgaaGreatDoorZWGWholeDurable0
import Derived.Test.YtpaekffehfdmgaaGreatDoorZB2
set_option linter.unusedVariables false
set_option linter.unusedSimpArgs false
namespace Go.Ws
open Go.Proofs Go.RowKit
set_option linter.unusedVariables false
set_option linter.unusedSimpArgs false

theorem perm3 {ss:List Int} (h:ss.Perm [0,1,2]):ss=[0,1,2]∨ss=[0,2,1]∨ss=[1,0,2]∨ss=[1,2,0]∨ss=[2,0,1]∨ss=[2,1,0]:=by
 have hl:=h.length_eq
 have hn:ss.Nodup:=h.nodup_iff.2 (by decide)
 have hm:∀x∈ss,x=0∨x=1∨x=2:=fun x hx=>by
  have:=h.mem_iff.1 hx
  simpa using this
 match ss,hl with
 | [a,b,c],_ =>
  have ha:=hm a (by simp)
  have hb:=hm b (by simp)
  have hc:=hm c (by simp)
  simp only[List.nodup_cons,List.mem_cons,List.not_mem_nil,or_false,not_or] at hn
  rcases ha with rfl | rfl | rfl<;>rcases hb with rfl | rfl | rfl<;>rcases hc with rfl | rfl | rfl<;>simp at hn ⊢

theorem sort3 {ss:List Int} (h:ss.Perm [0,1,2]):∃a b c,ss=[a,b,c]∧pW 40 a b c=some [0,1,2]:=by
 rcases perm3 h with rfl | rfl | rfl | rfl | rfl | rfl
 · exact⟨_,_,_,rfl,by kernel_rfl⟩
 · exact⟨_,_,_,rfl,by kernel_rfl⟩
 · exact⟨_,_,_,rfl,by kernel_rfl⟩
 · exact⟨_,_,_,rfl,by kernel_rfl⟩
 · exact⟨_,_,_,rfl,by kernel_rfl⟩
 · exact⟨_,_,_,rfl,by kernel_rfl⟩

theorem rel_none (w:World):Rel (fun _ _=>none) (fun _ _=>False) w (([]:List Blk)[·]?) :=
 ⟨fun b x h=>(by cases h),fun _ _ _=>rfl,fun _ _ _ _ _ _ h=>(by cases h),fun _ _ _ h=>(by cases h),fun _ _ h=>h.elim⟩

theorem sort_in {w W:World} {v:Value} {ss:List Int} (hp:ss.Perm [0,1,2]) (hb:Below w.heap.size w W) (hrow:W.ownsRow w.heap.size 5 1 v ss.length (ss.map (Value.int .u8))) :
 Calls Tryz.prog 67 #[v] W fun e W'=>e = .returned (.tuple #[])∧Below w.heap.size W W'∧Tryz.Keys3 w.heap.size W'.heap.size W' v:=by
 obtain⟨a,b,c,rfl,hs⟩:=sort3 hp
 obtain⟨σ',hv,D⟩:=done_row (rel_none w) hb (sz:=1) (L:=3) (rows:=List.map aN [a,b,c]) (by omega) (fun row hr=>by
  obtain⟨x,_,rfl⟩:=List.mem_map.1 hr
  exact⟨rfl,fun y hy=>by simp [aN] at hy;subst hy;exact⟨rfl,rfl⟩⟩) rfl hrow (fun r q row y hr hq=>by
  have hr3:r=0∨r=1∨r=2:=by
   have:=(List.getElem?_eq_some_iff.1 hr).1
   simp at this
   omega
  have hq0:q=0:=by
   obtain⟨x,hx⟩:∃x,row=aN x:=by
    obtain⟨x,_,rfl⟩:=List.mem_map.1 (List.mem_of_getElem? hr)
    exact⟨x,rfl⟩
   subst hx
   have:=(List.getElem?_eq_some_iff.1 hq).1
   simp [aN] at this
   omega
  subst hq0
  rcases hr3 with rfl | rfl | rfl
  all_goals
   simp at hr
   subst hr
   simp [aN] at hq
   subst hq
   exact⟨_,rfl,fun _ _ _=>.int _ _⟩)
 have hT:=aD1 40 a b c _ hs
 have hvs:VRs σ' (fun _ _=>False) W [.ref 1 0 0 0 3 .virt] #[v]:=⟨rfl,fun i x y hx hy=>by
  match i,hx,hy with
  | 0,hx,hy=>cases hx;cases hy;exact hv
  | i+1,hx,hy=>simp at hx⟩
 refine(hT.2.2 σ' _ W #[v] D.rel hvs).mono ?_
 rintro e W' ⟨u,σ2,π2,rfl,hu,D2⟩
 have hu0:u = .tuple #[]:=by
  cases hu with
  | tup _ d hd _ =>
   have:d = #[]:=by simpa using hd
   rw[this]
 refine⟨by rw[hu0],⟨D2.frm.os,D2.frm.tape,D2.frm.output,D2.frm.size,fun k hk=>D2.frm.same k (Nat.lt_of_lt_of_le hk hb.size) fun b g l hl e=>?_⟩,?_⟩
 · rcases D.frm.own b g l hl with h1 | ⟨_,_,_,h1,_⟩
   · omega
   · cases h1
 · cases hv with
   | ref _ _ _ _ _ _ ad cp l hl hi hn2 ha hf C te hC hs2 =>
    have hl2:=D2.ext.sig _ _ _ hl
    have hB:=D2.rel.blk 0 _ rfl
    obtain⟨q1,q2,q3,q4,_,q6⟩:=BR.real hB hl2
    obtain⟨l3,C3,te3,p1,p2,p3,p4,p5⟩:=q6 0 l hl2 (Nat.le_refl _) (Nat.le_refl _)
    rw[hl2] at p1
    cases p1
    obtain rfl:=ha (by omega)
    have hlm:3≤l.m:=by omega
    have hge:w.heap.size≤l.blk:=by
     rcases D.frm.own _ _ _ hl with h1 | ⟨_,_,_,h1,_⟩
     · exact h1
     · cases h1
    refine⟨l.blk,cp,by simp,hge,D2.rel.lt _ _ _ hl2,fun j hj=>?_⟩
    have hr:(List.map aN [0,1,2])[j]? = some (aN (j:Int)):=by
     have:j=0∨j=1∨j=2:=by omega
     rcases this with rfl | rfl | rfl<;>rfl
    obtain⟨x,hx,hvx⟩:=p5 j _ (by omega) hr 0 (.int .u8 (j:Int)) rfl
    simp only[World.cell?,p3]
    cases hvx
    simpa using hx
theorem aGU {W:World} {base e k:Nat} {v:Value} {xs:List Value} (h:W.ownsRow base e 1 v (k+1) xs):∃g cap,v = .slice (some ⟨g,0,none⟩) (k+1) cap:=ownsRow_succ h
end Go.Ws

namespace Go.Proofs
open Go.RowKit Go.Shelf
set_option linter.unusedVariables false
set_option maxHeartbeats 1000000 in
theorem Tryz.sorted_in (Bm M:Nat) (es:Array MapEntry) (hes:Tryz.Ent3 es) (w:World) (hM:M<w.heap.size) (hBl:Bm<w.heap.size) (hBm:w.cell? ⟨Bm,0,none⟩=some (.map (some M))) (hm:w.heap[M]? = some (.map es 3)) :
 CallsIn Fence.wide 6 Tryz.prog 48 #[.func (.func 68) #[] #[.pointer (some ⟨Bm,0,none⟩)]] w fun e W'=>∃v:Value,e = .returned v∧Tryz.Keys3 w.heap.size W'.heap.size W' v∧Below w.heap.size w W':=by
 refine callsIn_of_wp Tryz.func48 rfl trivial ?_ rfl
 simp only[Tryz.ntmps48,List.size_toArray,List.length_cons,List.length_nil,Nat.reduceAdd,Nat.reduceSub,Array.replicate_succ,Array.replicate_zero,List.push_toArray,List.append_toArray,List.nil_append,List.cons_append]
 have hF66:Fence.wide.fn 66:=trivial
 have hF67:Fence.wide.fn 67:=trivial
 gi_wp2_with (gi_at_call 66;refine(Tryz.collect_in Bm M es hes w hM hBl hBm hm).mono ?_;rintro e W ⟨v,ss,rfl,hp,hrow,hb⟩;obtain⟨g,cap,rfl⟩:∃g cap,v = .slice (some ⟨g,0,none⟩) ss.length cap:=by (have h3:=hp.length_eq;simp at h3;rw[h3] at hrow ⊢;exact Ws.aGU (k:=2) hrow))
 gi_wp2_with (gi_at_call 67;refine(callsIn_wide.2 (Ws.sort_in hp hb hrow)).mono ?_;rintro e W2 ⟨rfl,hb2,hk⟩)
 go_ret
 exact⟨_,rfl,hk,hb.trans hb2⟩
end Go.Proofs
