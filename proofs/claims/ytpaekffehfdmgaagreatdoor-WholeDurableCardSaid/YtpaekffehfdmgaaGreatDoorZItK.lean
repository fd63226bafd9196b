/-
  maps.Keys over the three sides: its closure's contract: the keys come, each once, in some order.
  Conditions: none.
-/
import Derived.Test.YtpaekffehfdmgaaGreatDoorZItV
import Derived.Laws.IdiomRangeMap
import Derived.Sort.MapsRangeIn
set_option linter.unusedVariables false
set_option linter.unusedSimpArgs false
namespace Go.Ws
section
variable {P:Program}

def aF0 (w:World) (r:Nat) (o:Obj):World:={ w with heap:=w.heap.setIfInBounds r o }

theorem aM1 {w:World} {r m since c0 clock:Nat} {seen:Array Nat} {es:Array MapEntry} (ty:TypeId) (hr:w.heap[r]? = some (.mapIter (some m) since seen c0)) (hb:w.heap[m]? = some (.map es clock))
 (hold:∀x∈es.toList,x.born<since) (hsc:since≤c0) :
 ((∀e∈es.toList,seen.contains e.born=true)∧(Instr.next (.pointer (some ⟨r,0,none⟩)) false ty).run P w = .ok (.tuple #[.bool false]) w) ∨
 ∃e∈es.toList,seen.contains e.born=false∧∃w0:World,(w0=w∨w0=w.drew) ∧
  (Instr.next (.pointer (some ⟨r,0,none⟩)) false ty).run P w = .ok (.tuple #[.bool true,e.key,e.val]) (aF0 w0 r (.mapIter (some m) since (seen.push e.born) clock)):=by
 simp only[Instr.next,getObj,Sem.run_bind,Sem.run,hr,hb,Result.andThen,next_test_false seen es since c0 hold hsc,Bool.false_eq_true,if_false]
 have hmem:∀x∈(Array.filter (fun e=>!seen.contains e.born) es).toList,x.born<since∧x∈es.toList∧seen.contains x.born=false:=fun x hx=>by
  simp at hx
  exact⟨hold x (by simpa using hx.1),by simpa using hx.1,by simpa using hx.2⟩
 have hall:(Array.filter (fun e=>!seen.contains e.born) es) = #[]→∀e∈es.toList,seen.contains e.born=true:=fun h e he=>by
  rw[Array.filter_eq_empty_iff] at h
  have:=h e (by simpa using he)
  simpa using this
 generalize Array.filter (fun e=>!seen.contains e.born) es=L at hmem hall ⊢
 have e1:L.filter (fun x=>decide (x.born<since))=L:=Array.filter_eq_self.2 (fun x hx=>by simpa using (hmem x (by simpa using hx)).1)
 have e2:L.filter (fun x=>decide (x.born≥since)) = #[]:=by
  rw[Array.filter_eq_empty_iff]
  intro x hx
  have:=(hmem x (by simpa using hx)).1
  simp
  omega
 simp only[e1,e2,Array.append_empty]
 by_cases h0:L.size=0
 · left
   have:L = #[]:=Array.eq_empty_of_size_eq_zero h0
   refine⟨hall this,?_⟩
   subst this
   simp [choose,Sem.run,Question.forced]
 · right
   have hne:L.isEmpty=false:=by simp [Array.isEmpty,h0]
   simp only[hne,Bool.false_eq_true,if_false,Array.empty_append,Array.size_map]
   have hch:∃(j:Nat) (w1:World),j<L.size∧(w1=w∨w1=w.drew)∧(choose (Question.mapNext L.size)).run P w = .ok j w1:=by
    by_cases hf:L.size≤1
    · exact⟨0,w,by omega,.inl rfl,by simp [choose,Sem.run,Question.forced,hf]⟩
    · exact⟨_,w.drew,Nat.mod_lt _ (by omega),.inr rfl,by
       simp only[choose,Sem.run,Question.forced,decide_eq_true_eq,hf,if_false,Question.cut]
       rfl⟩
   obtain⟨j,w1,hj,hal,hrun⟩:=hch
   have hin:L[j]∈L.toList:=by simp
   refine⟨L[j],(hmem _ hin).2.1,(hmem _ hin).2.2,w1,hal,?_⟩
   have hr1:w1.heap[r]? = some (.mapIter (some m) since seen c0):=by rcases hal with rfl | rfl<;>exact hr
   have hset:∀(o':Obj),(setObj r o').run P w1 = .ok () (aF0 w1 r o'):=fun o'=>by
    simp only[setObj,Sem.run,hr1]
    rfl
   simp only[hrun,Array.getElem?_map,Array.getElem?_eq_getElem hj,Option.map_some,Sem.run_bind,hset,Result.andThen]
   rfl

theorem aLB {w:World} {r m since clock:Nat} {seen:Array Nat} {es:Array MapEntry} {e:MapEntry} (hr:w.heap[r]? = some (.mapIter (some m) since (seen.push e.born) clock)) (hb:w.heap[m]? = some (.map es clock))
 (he:e∈es.toList) (hn:(es.toList.map (·.born)).Nodup):(Instr.entry (.pointer (some ⟨r,0,none⟩))).run P w = .ok (.tuple #[e.key,e.val]) w:=by
 have hf:es.find? (·.born == e.born)=some e:=by rw[← Array.find?_toList];exact find_born e es.toList hn he
 simp only[Instr.entry,getObj,Sem.run_bind,Sem.run,hr,hb,Result.andThen,Array.back?_push,bne_self_eq_false,Bool.false_eq_true,if_false,hf]
 rfl


end
end Go.Ws

namespace Go.Proofs
open Go.RowKit Go.Shelf
set_option linter.unusedVariables false
set_option linter.unusedSimpArgs false

attribute [local go_sem] Oper.semAt_some

section
variable {F:Fence} {n:Nat} {P:Program} {ops:Array Oper} {Q:Exit→Act→World→Prop} {a:Act} {w w':World} {rest:List Oper} {o:Oper} {v:Value}

theorem sL (hg:o.guard=none) (it:Operand) (hop:o.op=Op.next it false) {p:Value} (hit:a.eval it=p) (hrun:(Instr.next p false o.type).run P w = .ok v w') (h:wpListIn F n P ops Q rest (a.put o.dst v) w'):wpListIn F n P ops Q (o::rest) a w:=by
 refine wpListIn_plain hg fun K' hK'=>?_
 unfold Oper.wpIn
 refine⟨by simp [Oper.about,hop],?_⟩
 rw[Oper.semAt_plain F _ _ (by rw[hop];intro c hc';cases hc')]
 simp [execOp,hop,hit,hrun,Result.andThen]
 exact hK' _ _ h

theorem aA3 (hg:o.guard=none) (m:Operand) (t:TypeId) (hop:o.op=Op.range t m) {p:Value} (hit:a.eval m=p) (hrun:(Instr.range t p).run P w = .ok v w') (h:wpListIn F n P ops Q rest (a.put o.dst v) w'):wpListIn F n P ops Q (o::rest) a w:=by
 refine wpListIn_plain hg fun K' hK'=>?_
 unfold Oper.wpIn
 refine⟨by simp [Oper.about,hop],?_⟩
 rw[Oper.semAt_plain F _ _ (by rw[hop];intro c hc';cases hc')]
 simp [execOp,hop,hit,hrun,Result.andThen]
 exact hK' _ _ h

end

def Tryz.Ent3 (es:Array MapEntry):Prop:=∃v0 v1 v2,es = #[⟨.int .u8 0,v0,0⟩,⟨.int .u8 1,v1,1⟩,⟨.int .u8 2,v2,2⟩]

def Tryz.left (it:Nat) (W:World):Nat:=match W.heap[it]? with
 | some (.mapIter _ _ seen _)=>(if seen.contains 0 then 0 else 1)+(if seen.contains 1 then 0 else 1)+(if seen.contains 2 then 0 else 1)
 | _=>0

theorem Tryz.left_eq {it:Nat} {W:World} {m:Option Nat} {a b:Nat} {seen:Array Nat} (h:W.heap[it]? = some (.mapIter m a seen b)):Tryz.left it W=(if seen.contains 0 then 0 else 1)+(if seen.contains 1 then 0 else 1)+(if seen.contains 2 then 0 else 1):=by
 simp [Tryz.left,h]

theorem Tryz.left_push (seen:Array Nat) (j:Nat) (hj:j<3) (h:seen.contains j=false) :
 (if (seen.push j).contains 0 then 0 else 1)+(if (seen.push j).contains 1 then 0 else 1)+(if (seen.push j).contains 2 then 0 else 1)<(if seen.contains 0 then 0 else 1)+(if seen.contains 1 then 0 else 1)+(if seen.contains 2 then 0 else 1):=by
 simp only[Array.contains_push]
 have:j=0∨j=1∨j=2:=by omega
 rcases this with rfl | rfl | rfl<;>rw[h]<;>cases seen.contains 0<;>cases seen.contains 1<;>cases seen.contains 2<;>decide

structure Tryz.KeysAt (M it:Nat) (es:Array MapEntry) (seen:Array Nat) (ss:List Int) (W:World):Prop where
 it:∃c0,W.heap[it]? = some (.mapIter (some M) 3 seen c0)∧3≤c0
 map:W.heap[M]? = some (.map es 3)
 rest:∃rs:List Int,(ss++rs).Perm [0,1,2]∧∀j:Nat,j<3→(seen.contains j=false↔(j:Int)∈rs)

def Tryz.Kp (n₀:Nat) (A B:World):Prop:=KeepsWalks A B∧Below n₀ A B

theorem Tryz.Kp_t {n₀:Nat} {A B C:World} (h:Tryz.Kp n₀ A B) (k:Tryz.Kp n₀ B C):Tryz.Kp n₀ A C:=⟨h.1.trans k.1,h.2.trans k.2⟩
theorem Tryz.Kp_b {n₀:Nat} {w:World} (hn:n₀≤w.heap.size) (W:World) (l:Nat) (o o':Obj) (hl:w.heap.size≤l) (h:W.heap[l]? = some o) (hc:o.isCells=false) (hw:o.isWalk=false):Tryz.Kp n₀ W (W.putObj l o') :=
 ⟨walksK_b (w:=w) W l o o' hl h hc hw,belowK_b hn W l o o' hl h hc hw⟩

theorem Tryz.KeysAt.kept {M it n₀:Nat} {es:Array MapEntry} {seen:Array Nat} {ss:List Int} {A B:World} (h:Tryz.KeysAt M it es seen ss A) (hM:M<n₀) (hK:Tryz.Kp n₀ A B):Tryz.KeysAt M it es seen ss B where
 it:=by
  obtain⟨c0,h1,h2⟩:=h.it
  exact⟨c0,hK.1.same _ _ h1 rfl,h2⟩
 map:=(hK.2.block M hM).trans h.map
 rest:=h.rest

set_option maxRecDepth 100000 in
set_option maxHeartbeats 2000000 in
theorem Tryz.keys1 (l Bm M n₀:Nat) (hM:M<n₀) (es:Array MapEntry) (hes:Tryz.Ent3 es) (J Jx:List Int→World→Prop)
 (hY:∀pre x W,J pre W→pre.length<3→YieldAt Fence.wide 2 Tryz.prog l #[.int .u8 x] W fun e W' =>
  (e = .returned (.bool true)∧J (pre++[x]) W'∧Tryz.Kp n₀ W W')∨(e = .returned (.bool false)∧Jx (pre++[x]) W'))
 (W:World) (hn₀:n₀≤W.heap.size) (hJ:AbidesFrom W.heap.size J) (hBm:W.cell? ⟨Bm,0,none⟩=some (.map (some M))) (hm:W.heap[M]? = some (.map es 3)) (h0:J [] W) :
 CallsIn Fence.wide 3 Tryz.prog 68 #[.func (.yield l) #[] #[],.pointer (some ⟨Bm,0,none⟩)] W fun e W'=>(∃v,e = .returned v) ∧
  ((∃ys,ys.Perm [0,1,2]∧J ys W')∨(∃pre,True∧Jx pre W')):=by
 obtain⟨v0,v1,v2,rfl⟩:=hes
 refine callsIn_of_wp Tryz.func68 rfl trivial ?_ rfl
 simp only[Tryz.ntmps68,List.size_toArray,List.length_cons,List.length_nil,Nat.reduceAdd,Nat.reduceSub,Array.replicate_succ,Array.replicate_zero,List.push_toArray,List.append_toArray,List.nil_append,List.cons_append]
 gi_wp2_with (first
  | (gi_at_range;refine aA3 rfl _ _ rfl rfl (run_range_map W 106 _ _ M _ 3 Tryz.underlying106 hm) ?_)
  | gi_in)
 have hmap:(W.alloc (.mapIter (some M) 3 #[] 3)).heap[M]? = some (.map _ 3):=(Below.heap_alloc W _ M (Array.getElem?_eq_some_iff.1 hm).1).trans hm
 have hit:(W.alloc (.mapIter (some M) 3 #[] 3)).heap[W.heap.size]? = some (.mapIter (some M) 3 #[] 3):=World.alloc_heap_new W _
 go_frame
 gi_loopw [3] (fun _ wr=>∃(seen:Array Nat) (ss:List Int),Tryz.KeysAt M W.heap.size #[⟨.int .u8 0,v0,0⟩,⟨.int .u8 1,v1,1⟩,⟨.int .u8 2,v2,2⟩] seen ss wr∧J ss wr∧W.heap.size<wr.heap.size)
  (fun _ wr=>Tryz.left W.heap.size wr)
 case atStart =>
  refine⟨#[],[],⟨⟨3,hit,Nat.le_refl _⟩,hmap,[0,1,2],List.Perm.refl _,fun j hj=>?_⟩,hJ [] W _ none h0 (World.grownBy_alloc W _ none) (fun r e=>by cases e),by simp⟩
  have:j=0∨j=1∨j=2:=by omega
  rcases this with rfl | rfl | rfl<;>simp
 case round =>
  obtain⟨seen,ss,⟨⟨c0,hiw,hc0⟩,hmw,rs,hp,hrs⟩,hJs,hsz⟩:=hrel
  have hnd:rs.Nodup:=by
   have h1:(ss++rs).Nodup:=hp.nodup_iff.2 (by decide)
   exact(List.nodup_append.1 h1).2.1
  have hin:∀r∈rs,∃j:Nat,j<3∧r=(j:Int):=fun r hr=>by
   have:r∈[(0:Int),1,2]:=hp.mem_iff.1 (by simp [hr])
   simp at this
   rcases this with rfl | rfl | rfl
   · exact⟨0,by omega,rfl⟩
   · exact⟨1,by omega,rfl⟩
   · exact⟨2,by omega,rfl⟩
  rcases Ws.aM1 (P:=Tryz.prog) 0 hiw hmw (by simp) hc0 with⟨hall,hrun⟩ | ⟨e,he,hns,w0,hw0,hrun⟩
  · have hr0:rs=[]:=List.eq_nil_iff_forall_not_mem.2 fun r hr=>by
     obtain⟨j,hj,rfl⟩:=hin r hr
     have h1:=(hrs j hj).2 hr
     have:j=0∨j=1∨j=2:=by omega
     rcases this with rfl | rfl | rfl
     · have:=hall ⟨.int .u8 0,v0,0⟩ (by simp);rw[h1] at this;cases this
     · have:=hall ⟨.int .u8 1,v1,1⟩ (by simp);rw[h1] at this;cases this
     · have:=hall ⟨.int .u8 2,v2,2⟩ (by simp);rw[h1] at this;cases this
    subst hr0
    rw[List.append_nil] at hp
    gi_wp2_with (first|(gi_at_next;refine sL rfl _ rfl rfl hrun ?_)|gi_in)
    go_end0
    exact⟨⟨_,rfl⟩,.inl ⟨ss,hp,hJs⟩⟩
  · obtain⟨j,v,hj,rfl⟩:∃(j:Nat) (v:Value),j<3∧e=⟨.int .u8 (j:Int),v,j⟩:=by
     simp at he
     rcases he with rfl | rfl | rfl
     · exact⟨0,_,by omega,rfl⟩
     · exact⟨1,_,by omega,rfl⟩
     · exact⟨2,_,by omega,rfl⟩
    have hjr:(j:Int)∈rs:=(hrs j hj).1 hns
    have hlen:ss.length<3:=by
     have h1:=hp.length_eq
     have h2:=List.length_pos_of_mem hjr
     simp at h1
     omega
    have hh:w0.heap=wr.heap:=by rcases hw0 with rfl | rfl<;>rfl
    have hos:w0.os=wr.os:=by rcases hw0 with rfl | rfl<;>rfl
    have htp:w0.tape=wr.tape:=by rcases hw0 with rfl | rfl<;>rfl
    have hou:w0.output=wr.output:=by rcases hw0 with rfl | rfl<;>rfl
    obtain⟨w2,hw2⟩:∃w2,Ws.aF0 w0 W.heap.size (.mapIter (some M) 3 (seen.push j) 3)=w2:=⟨_,rfl⟩
    simp only at hrun
    rw[hw2] at hrun
    have hM':M≠W.heap.size:=by omega
    have hsame:∀B,B≠W.heap.size→w2.heap[B]? = wr.heap[B]?:=fun B hB=>by
     rw[← hw2];simp only[Ws.aF0];rw[Array.getElem?_setIfInBounds_ne (fun e=>hB e.symm),hh]
    have hi2:w2.heap[W.heap.size]? = some (.mapIter (some M) 3 (seen.push j) 3):=by
     rw[← hw2];simp only[Ws.aF0];rw[hh,Array.getElem?_setIfInBounds_self_of_lt hsz]
    have hsz2:w2.heap.size=wr.heap.size:=by rw[← hw2];simp [Ws.aF0,hh]
    have hm2:=(hsame M hM').trans hmw
    have hg:wr.grownBy w2 (some W.heap.size):=⟨by rw[← hw2];exact hos,by rw[← hw2];exact htp,by rw[← hw2];exact hou,by omega,fun k _ hk=>hsame k (fun e=>hk (by rw[e]))⟩
    have hJ2:J ss w2:=hJ ss wr w2 (some W.heap.size) hJs hg (fun r e=>by cases e;exact⟨Nat.le_refl _,_,hiw,rfl⟩)
    have hen:(Instr.entry (.pointer (some ⟨W.heap.size,0,none⟩))).run Tryz.prog w2 = .ok (.tuple #[.int .u8 (j:Int),v]) w2:=Ws.aLB (e:=⟨.int .u8 (j:Int),v,j⟩) hi2 hm2 he (by simp)
    obtain⟨fn,tmps,assign,body,hy,hR⟩:=hY ss (j:Int) w2 hJ2 hlen
    have hK2:Tryz.KeysAt M W.heap.size #[⟨.int .u8 0,v0,0⟩,⟨.int .u8 1,v1,1⟩,⟨.int .u8 2,v2,2⟩] (seen.push j) (ss++[(j:Int)]) w2:=⟨⟨3,hi2,Nat.le_refl _⟩,hm2,rs.erase (j:Int),by
     have h1:=List.perm_cons_erase hjr
     have h2:(ss++[(j:Int)]++rs.erase (j:Int)).Perm (ss++rs):=by
      rw[List.append_assoc]
      exact List.Perm.append_left ss h1.symm
     exact h2.trans hp,fun i hi=>by
     rw[hnd.mem_erase_iff]
     have h3:=hrs i hi
     simp only[Array.contains_push,Bool.or_eq_false_iff,beq_eq_false_iff_ne,ne_eq]
     constructor
     · rintro⟨h4,h5⟩;exact⟨by omega,h3.1 h4⟩
     · rintro⟨h4,h5⟩;exact⟨h3.2 h5,by omega⟩⟩
    clear hw2 hrs hp
    gi_wp2_with (first|(gi_at_next;refine sL rfl _ rfl rfl hrun ?_)|gi_in)
    refine hR.mono ?_
    rintro e W3 (⟨rfl,hJ3,hk3⟩ | ⟨rfl,hJx3⟩)
    · have hK3:=hK2.kept hM hk3
      gi_wp2
      go_roundw
      case rel=>exact⟨_,_,hK3,hJ3,Nat.lt_of_lt_of_le (hsz2▸hsz) hk3.2.size⟩
      case measure =>
       obtain⟨c3,h3,_⟩:=hK3.it
       rw[Tryz.left_eq h3,Tryz.left_eq hiw]
       exact Tryz.left_push seen j hj hns
    · gi_wp2
      refine bodyPost_ret (results_none rfl _ _ _) rfl ?_
      exact⟨⟨_,rfl⟩,.inr ⟨_,trivial,hJx3⟩⟩

set_option maxHeartbeats 1000000 in
theorem Tryz.keys_in (n:Nat) (m:Value) (hm:m = .map none∨∃M,m = .map (some M)) (w:World) :
 CallsIn Fence.wide n Tryz.prog 49 #[m] w fun e w'=>e = .returned (.func (.func 68) #[] #[.pointer (some ⟨w.heap.size,0,none⟩)])∧w'=w.alloc (.cells #[m] 106):=by
 rcases hm with rfl | ⟨M,rfl⟩
 all_goals
  refine callsIn_of_wp Tryz.func49 rfl trivial ?_ rfl
  simp only[Tryz.ntmps49,List.size_toArray,List.length_cons,List.length_nil,Nat.reduceAdd,Nat.reduceSub,Array.replicate_succ,Array.replicate_zero,List.push_toArray,List.append_toArray,List.nil_append,List.cons_append]
  gi_wp2
  go_ret
  exact⟨rfl,rfl⟩

theorem Tryz.keys_stops (Bm M n₀:Nat) (es:Array MapEntry) (hes:Tryz.Ent3 es) (w:World) (hBl:Bm<w.heap.size) (hn₀:n₀≤w.heap.size) (hM:M<n₀) (hBm:w.cell? ⟨Bm,0,none⟩=some (.map (some M))) (hm:w.heap[M]? = some (.map es 3)) :
 SeqStopsK Fence.wide 3 Tryz.prog 68 #[.pointer (some ⟨Bm,0,none⟩)] (fun x:Int=>#[Value.int .u8 x]) (Tryz.Kp n₀) (fun ys=>ys.Perm [0,1,2]) (fun _=>True) 3 w:=fun l J Jx W hW hJ _ hY h0 =>
 Tryz.keys1 l Bm M n₀ hM es hes J Jx hY W (Nat.le_trans hn₀ hW.size) hJ ((hW.cell (p:=⟨Bm,0,none⟩) hBl).trans hBm) ((hW.block M (Nat.lt_of_lt_of_le hM hn₀)).trans hm) h0
end Go.Proofs
