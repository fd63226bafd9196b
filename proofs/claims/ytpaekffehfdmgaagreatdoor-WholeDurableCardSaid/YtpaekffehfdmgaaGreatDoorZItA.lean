/-
  The iterator over the cells: its closure's contract: the three sides, in order.
  Conditions: none.
-/
import Derived.Test.YtpaekffehfdmgaaGreatDoorZItO
import Derived.Maps.OwnIn
set_option linter.unusedVariables false
set_option linter.unusedSimpArgs false
namespace Go.Proofs
open Go.RowKit Go.Shelf
set_option linter.unusedVariables false
set_option linter.unusedSimpArgs false

attribute [local go_sem] Oper.semAt_some

structure Tryz.But (bH l:Nat) (A B:World):Prop where
 size:A.heap.size≤B.heap.size
 same:∀k,k<A.heap.size→k≠bH→k≠l→B.heap[k]? = A.heap[k]?

theorem Tryz.But.trans {bH l:Nat} {A B C:World} (h:Tryz.But bH l A B) (k:Tryz.But bH l B C):Tryz.But bH l A C :=
 ⟨Nat.le_trans h.size k.size,fun i hi h1 h2=>(k.same i (Nat.lt_of_lt_of_le hi h.size) h1 h2).trans (h.same i hi h1 h2)⟩

def Tryz.SeqO (bH:Nat) (g:Nat) (lb:Array Value) (encs:Fin 3→Array Value) (w0:World):Prop :=
 ∀(l:Nat) (J:List (Fin 3)→World→Prop) (W:World),Below w0.heap.size w0 W→w0.heap.size≤l→l<W.heap.size→OwnFrom W.heap.size J →
  (∀pre x W1,J pre W1→pre.length<3→YieldAt Fence.wide 3 Tryz.prog l (encs x) W1 fun e W'=>e = .returned (.bool true)∧J (pre++[x]) W'∧Tryz.But bH l W1 W') →
  J [] W →
  CallsIn Fence.wide 4 Tryz.prog g (#[.func (.yield l) #[] #[]]++lb) W fun e W'=>(∃v,e = .returned v)∧J [0,1,2] W'

theorem RoundIn.anyWide {l n m:Nat} {P:Program} {f:FuncId} {tmps:Array Value} {assign body:Code} {w:World} {R:Ending→World→Prop} {r:Option Nat} (h:RoundIn Fence.wide n P l f tmps assign body w R) :
 RoundIn { Fence.wide with round:=r } m P l f tmps assign body w R:=⟨trivial,fun c cs _=>h.2 c cs (room_wide _)⟩

abbrev Tryz.ents (vals:Fin 3→Value):Array MapEntry:=#[⟨.int .u8 0,vals 0,0⟩,⟨.int .u8 1,vals 1,1⟩,⟨.int .u8 2,vals 2,2⟩]

set_option maxRecDepth 100000 in
theorem Tryz.look3 {W:World} {M:Nat} {vals:Fin 3→Value} (h:W.heap[M]? = some (.map (Tryz.ents vals) 3)) (x:Fin 3) :
 (Instr.lookup 106 (.map (some M)) (.int .u8 (x.val:Int)) false).run Tryz.prog W = .ok (vals x) W:=by
 have hu:=Tryz.underlying106
 have hk:=Tryz.underlying5
 have hc:∀(em:Bool) (k:Int),(Instr.checkKey em 10000 5 (.int .u8 k)).run Tryz.prog W = .ok () W:=fun em k =>
  Ws.gW (σ:=fun _ _=>none) (π:=fun _ _=>False) hk (k:=.int .u8 k) (.int _ _) (.inl ⟨_,_,rfl,rfl⟩) em
 have key:∀(k:Int) (i:Nat) (v:Value),Instr.findNow (.int .u8) (.int .u8 k) (Tryz.ents vals).toList 0=some (some (i,v))→(Instr.lookup 106 (.map (some M)) (.int .u8 k) false).run Tryz.prog W = .ok v W:=fun k i v hf=>by
  have hfk:=Go.MapKept.run_findKey (P:=Tryz.prog) (w:=W) (kt:=5) (k:=.int .u8 k) hk hf
  simp only[Tryz.ents] at hfk h
  simp [Instr.lookup,run_underlying hu,hc,Ws.eU h,hfk]
 match x with
 | 0=>exact key 0 0 _ rfl
 | 1=>exact key 1 1 _ rfl
 | 2=>exact key 2 2 _ rfl

theorem Tryz.enters65:∀args w,(callFunc 65 args).run Tryz.prog w = .ok (.enter 65 args) w:=enters_of Tryz.func65 (by kernel_rfl) rfl

section
variable {F:Fence} {n:Nat} {P:Program} {ops:Array Oper} {Q:Exit→Act→World→Prop} {a:Act} {w w':World} {rest:List Oper} {o:Oper} {v:Value}
theorem yP (hg:o.guard=none) (m k:Operand) (t:TypeId) (hop:o.op=Op.lookup t m k false) {p q:Value} (hm:a.eval m=p) (hk:a.eval k=q) (hrun:(Instr.lookup t p q false).run P w = .ok v w') (h:wpListIn F n P ops Q rest (a.put o.dst v) w'):wpListIn F n P ops Q (o::rest) a w:=by
 refine wpListIn_plain hg fun K' hK'=>?_
 unfold Oper.wpIn
 refine⟨by simp [Oper.about,hop],?_⟩
 rw[Oper.semAt_plain F _ _ (by rw[hop];intro c hc';cases hc')]
 simp [execOp,hop,hm,hk,hrun,Result.andThen]
 exact hK' _ _ h
end

set_option maxRecDepth 100000 in
set_option maxHeartbeats 4000000 in
theorem Tryz.all1 (bH M Ball:Nat) (te:TypeId) (vals:Fin 3→Value) (w0:World) (hbH:bH<w0.heap.size) (hM:M<w0.heap.size) (hBl:Ball<w0.heap.size) (hMb:M≠bH) (hBb:Ball≠bH)
 (hBall:w0.heap[Ball]? = some (.cells #[.map (some M)] te (0,0))) (hm:w0.heap[M]? = some (.map (Tryz.ents vals) 3)) :
 Tryz.SeqO bH 46 #[.pointer (some ⟨Ball,0,none⟩)] (fun x=>#[.int .u8 (x.val:Int),vals x]) w0:=by
 intro l J W hW hl0 hl hJ hY h0
 have hszW:=hW.size
 replace hBall:=(hW.block Ball hBl).trans hBall
 replace hm:=(hW.block M hM).trans hm
 have hcB:W.cell? ⟨Ball,0,none⟩=some (.map (some M)):=by simp [World.cell?,hBall]
 refine callsIn_of_wp_marks Tryz.func46 rfl trivial ?_ rfl
 simp only[Tryz.ntmps46,List.size_toArray,List.length_cons,List.length_nil,Nat.reduceAdd,Nat.reduceSub,Array.replicate_succ,Array.replicate_zero,List.push_toArray,List.append_toArray,List.nil_append,List.cons_append]
 have hF49:Fence.wide.fn 49:=trivial
 have hF48:Fence.wide.fn 48:=trivial
 have hF47:Fence.wide.fn 47:=trivial
 obtain⟨W1,hW1⟩:∃W1,W.alloc (.cells #[.func (.yield l) #[] #[]] 114)=W1:=⟨_,rfl⟩
 obtain⟨W2,hW2⟩:∃W2,W1.alloc (.cells #[.map (some M)] 106)=W2:=⟨_,rfl⟩
 have hs1:W1.heap.size=W.heap.size+1:=by rw[← hW1];simp
 have hs2:W2.heap.size=W.heap.size+1+1:=by rw[← hW2];simp [hs1]
 have hk1:∀k,k<W.heap.size→W1.heap[k]? = W.heap[k]?:=fun k hk=>by rw[← hW1];exact Below.heap_alloc W _ k hk
 have hk2:∀k,k<W1.heap.size→W2.heap[k]? = W1.heap[k]?:=fun k hk=>by rw[← hW2];exact Below.heap_alloc W1 _ k hk
 have hB1:W1.heap[W.heap.size]? = some (.cells #[.func (.yield l) #[] #[]] 114 (0,0)):=by rw[← hW1];exact World.alloc_heap_new W _
 have hB2:W2.heap[W1.heap.size]? = some (.cells #[.map (some M)] 106 (0,0)):=by rw[← hW2];exact World.alloc_heap_new W1 _
 have hJ1:J [] W1:=by rw[← hW1];exact hJ.alloc _ h0
 have hJ2:J [] W2:=by rw[← hW2];exact hJ.alloc _ hJ1
 have hcB1:W1.cell? ⟨Ball,0,none⟩=some (.map (some M)):=by simp only[World.cell?,hk1 Ball (by omega),hBall];rfl
 have hes:Tryz.Ent3 (Tryz.ents vals):=⟨vals 0,vals 1,vals 2,rfl⟩
 have hm2:W2.heap[M]? = some (.map (Tryz.ents vals) 3):=(hk2 M (by omega)).trans ((hk1 M (by omega)).trans hm)
 have hcB2:W2.cell? ⟨W1.heap.size,0,none⟩=some (.map (some M)):=by simp only[World.cell?,hB2];rfl
 have cS:=Tryz.sorted_in W1.heap.size M _ hes W2 (by omega) (by omega) hcB2 hm2
 have cS5:CallsIn Fence.wide 3 Tryz.prog 48 #[.func (.func 68) #[] #[.pointer (some ⟨W1.heap.size,0,none⟩)]] W2 _:=callsIn_wide.2 (callsIn_wide.1 cS)
 rw[hs1] at cS5
 gi_wp2_with (first
  | (gi_at_call 49;refine(Tryz.keys_in _ _ (.inr ⟨M,rfl⟩) _).mono ?_;rintro e w' ⟨rfl,rfl⟩;rw[hW2])
  | (gi_at_call 48;refine cS5.mono ?_;rintro e W3 ⟨v,rfl,⟨b,cap,rfl,hb1,hb2,hb3⟩,hb⟩)
  | (gi_at_call 47;refine(Tryz.values_in _ _ _ _ _).mono ?_;rintro e w' ⟨rfl,rfl⟩)
  | gi_in)
 have hk3:∀k,k<W2.heap.size→W3.heap[k]? = W2.heap[k]?:=fun k hk=>hb.block k hk
 have hJ3:J [] W3:=hJ [] W2 W3 none hJ2 ⟨hb.os,hb.tape,hb.output,hb.size,fun k hk _=>hb.block k hk⟩ (fun r e=>by cases e)
 have hsz3:=hb.size
 obtain⟨W4,hW4⟩:∃W4,W3.alloc (.cells #[.slice (some ⟨b,0,none⟩) 3 cap] 27)=W4:=⟨_,rfl⟩
 have hs4:W4.heap.size=W3.heap.size+1:=by rw[← hW4];simp
 have hk4:∀k,k<W3.heap.size→W4.heap[k]? = W3.heap[k]?:=fun k hk=>by rw[← hW4];exact Below.heap_alloc W3 _ k hk
 have hJ4:J [] W4:=by rw[← hW4];exact hJ.alloc _ hJ3
 have hB4:W4.heap[W3.heap.size]? = some (.cells #[.slice (some ⟨b,0,none⟩) 3 cap] 27 (0,0)):=by rw[← hW4];exact World.alloc_heap_new W3 _
 rw[hW4]
 have hold:∀k,k<W.heap.size→W4.heap[k]? = W.heap[k]?:=fun k hk=>(hk4 k (by omega)).trans ((hk3 k (by omega)).trans ((hk2 k (by omega)).trans (hk1 k hk)))
 have hBy:W4.heap[W.heap.size]? = some (.cells #[.func (.yield l) #[] #[]] 114 (0,0)):=(hk4 _ (by omega)).trans ((hk3 _ (by omega)).trans ((hk2 _ (by omega)).trans hB1))
 refine wpIn_rangeFunc_ownG rfl (by omega) (gf:=65) (lb:=#[.pointer (some ⟨W3.heap.size,0,none⟩)]) rfl trivial Tryz.enters65
  (Tryz.values_stops W3.heap.size b cap W4 (by omega) (by simp only[World.cell?,hB4];rfl) (by omega) (fun j hj=>(World.cell?_of_block (a:=⟨b,j,none⟩) (hk4 b hb2)).trans (hb3 j hj)))
  (fun h k=>Eq.trans k h) (fun X l' o o' hl' _ _ _=>World.putObj_heap_other (by omega)) (Below.refl _ _) (fun _=>rfl)
  (fun (pre:List (Fin 3)) X=>J pre X∧W4.heap.size≤X.heap.size∧∀k,k<W4.heap.size→k≠bH→k≠l→X.heap[k]? = W4.heap[k]?)
  (fun _ _ _=>False)
  (fun s A B row hs hg hr=>⟨hJ s A B row hs.1 hg (fun r e=>⟨by have:=(hr r e).1;omega,(hr r e).2⟩),Nat.le_trans hs.2.1 hg.size,fun k hk h1 h2=>(hg.block k (Nat.lt_of_lt_of_le hk hs.2.1) (fun e=>by have:=(hr k e.symm).1;omega)).trans (hs.2.2 k hk h1 h2)⟩)
  (fun _ _ _ _ _ hs _ _=>hs)
  ⟨hJ4,Nat.le_refl _,fun _ _ _ _=>rfl⟩
  (fun x=>{ tmps:=#[.func (.yield l) #[] #[],.pointer (some ⟨Ball,0,none⟩),.pointer (some ⟨W.heap.size,0,none⟩),.int .u8 (x.val:Int),.map (some M),.func (.func 68) #[] #[.pointer (some ⟨W.heap.size+1,0,none⟩)],.slice (some ⟨b,0,none⟩) 3 cap,.func (.func 65) #[] #[.pointer (some ⟨W3.heap.size,0,none⟩)],.int .u8 (x.val:Int),undef,undef,undef,undef,undef,undef,undef],defers:=[] }) ?assign ?body ?done ?stop
 case assign =>
  intro l' x X K hK
  gi_wp2
  exact hK
 case body =>
  rintro l' pre x X ⟨hJx,hsx,hkx⟩ hlt
  obtain⟨fn,tmps,assign,body,hy,hR⟩:=hY pre x X hJx hlt
  have hR1:RoundIn (Fence.wide.inRound l') 1 Tryz.prog l fn tmps assign body X (fun e W'=>e = .returned (.bool true)∧J (pre++[x]) W'∧Tryz.But bH l X W'):=RoundIn.anyWide hR
  have c1:X.cell? ⟨W.heap.size,0,none⟩=some (.func (.yield l) #[] #[]):=by simp only[World.cell?,hkx W.heap.size (by omega) (by omega) (by omega),hBy];rfl
  have c2:X.cell? ⟨Ball,0,none⟩=some (.map (some M)):=by simp only[World.cell?,hkx Ball (by omega) hBb (by omega),hold Ball (by omega),hBall];rfl
  have c3:X.heap[M]? = some (.map (Tryz.ents vals) 3):=(hkx M (by omega) hMb (by omega)).trans ((hold M (by omega)).trans hm)
  have hlk:=Tryz.look3 c3 x
  gi_wp2_with (first
   | (gi_at_lookup;refine yP rfl _ _ _ rfl rfl rfl hlk ?_)
   | gi_in)
  refine RoundIn.mono hR1 ?_
  rintro e X5 ⟨rfl,hJ5,hb5⟩
  gi_wp2
  exact⟨⟨hb5.size,fun k o hk hko hc=>(hb5.same k (Array.getElem?_eq_some_iff.1 hko).1 (by omega) (by omega)).trans hko⟩,hb5.same b (Nat.lt_of_lt_of_le (by omega) hsx) (by omega) (by omega),hJ5,Nat.le_trans hsx hb5.size,fun k hk h1 h2=>(hb5.same k (Nat.lt_of_lt_of_le hk hsx) h1 h2).trans (hkx k hk h1 h2)⟩
 case done =>
  rintro D ys X hD rfl ⟨hJx,hsx,hkx⟩ hK
  gi_wp2
  refine⟨by simp,.inl ⟨_,_,rfl,run_takeDeferred hK,?_⟩⟩
  exact⟨_,results_none rfl _ _ _,⟨_,rfl⟩,hJ.putObj _ hJx (by omega) hK rfl⟩
 case stop =>
  rintro D c pre X _ _ h _
  exact h.elim
end Go.Proofs
