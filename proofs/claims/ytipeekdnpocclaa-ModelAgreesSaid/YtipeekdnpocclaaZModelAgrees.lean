/-
  ModelAgrees, plainly.
  Conditions: none.
-/
import Derived.Test.YtipeekdnpocclaaZPlain
import Derived.Test.YtipeekdnpocclaaZWf
import Derived.KernelRfl
set_option linter.unusedVariables false
set_option linter.unusedSimpArgs false
namespace Go.Ws.L10
set_option linter.unusedVariables false
set_option linter.unusedSimpArgs false
set_option maxHeartbeats 1000000
theorem alive_ag:nY=some true:=t9.le 80 true (by kernel_rfl)
theorem aH7:∀(l:List (Int × Int)) (t:Int) (x:Int) (q:Int),cZ (bG l t x) q=if q=t then some x else cZ l q
 | [],t,x,q=>by
  simp only[bG,cZ]
 | (k,v)::l,t,x,q=>by
  unfold bG
  by_cases hk:t=k
  · rw[if_pos hk]
    subst hk
    simp only[cZ]
    by_cases hq:q=t
    · rw[if_pos hq,if_pos hq]
    · rw[if_neg hq,if_neg hq,if_neg hq]
  · rw[if_neg hk]
    simp only[cZ]
    rw[aH7 l t x q]
    by_cases hq:q=k
    · rw[if_pos hq,if_pos hq,if_neg (by omega)]
    · rw[if_neg hq,if_neg hq]
theorem aIR:∀(l:List (Int × Int)) (t:Int) (x:Int),(bG l t x).map (·.1)=if (cZ l t).isSome then l.map (·.1) else l.map (·.1)++[t]
 | [],t,x=>by simp [bG,cZ]
 | (k,v)::l,t,x=>by
  unfold bG
  by_cases hk:t=k
  · subst hk;simp [cZ]
  · rw[if_neg hk,List.map_cons,aIR l t x]
    simp only[cZ,if_neg hk]
    split<;>simp
theorem ag_key:∀{l:List (Int × Int)} {t:Int},cZ l t=none↔t∉l.map (·.1)
 | [],t=>by simp [cZ]
 | (k,v)::l,t=>by
  simp only[cZ,List.map_cons,List.mem_cons]
  by_cases hk:t=k
  · rw[if_pos hk];simp [hk]
  · rw[if_neg hk,ag_key (l:=l)];simp [hk]
theorem ag_nodup {l:List (Int × Int)} (h:(l.map (·.1)).Nodup) (t:Int) (x:Int):((bG l t x).map (·.1)).Nodup:=by
 rw[aIR]
 cases hg:cZ l t with
 | some y=>exact h
 | none =>
  rw[if_neg (by simp)]
  rw[List.nodup_append]
  refine⟨h,by simp,fun a ha b hb=>?_⟩
  rcases List.mem_singleton.1 hb with rfl
  intro hab
  exact ag_key.1 hg (hab▸ha)
theorem aHP:∀{l:List (Int × Int)} {t v:Int},cZ l t=some v→(t,v)∈l
 | (k,w)::l,t,v,h=>by
  simp only[cZ] at h
  by_cases hk:t=k
  · rw[if_pos hk] at h;cases h;rw[hk];exact List.mem_cons_self
  · rw[if_neg hk] at h;exact List.mem_cons_of_mem _ (aHP h)
theorem ag_get:∀{l:List (Int × Int)},(l.map (·.1)).Nodup→∀{t v:Int},(t,v)∈l→cZ l t=some v
 | (k,w)::l,hn,t,v,h=>by
  rw[List.map_cons,List.nodup_cons] at hn
  simp only[cZ]
  rcases List.mem_cons.1 h with h | h
  · cases h;rw[if_pos rfl]
  · rw[if_neg (fun e=>hn.1 (by rw[← e];exact List.mem_map.2 ⟨_,h,rfl⟩))]
    exact ag_get hn.2 h
def fnd (l:List (Int × Int)) (t:Int):Int:=(cZ l t).getD 0
def kM:List (Int × Int)→List (Int × Int)→List (Int × Int)
 | m,[]=>m
 | m,p::l=>kM (if jA m p.1 then m else bG m p.1 p.2) l
theorem wO:∀(l m:List (Int × Int)),(m.map (·.1)).Nodup→((kM m l).map (·.1)).Nodup
 | [],m,h=>h
 | p::l,m,h=>by
  unfold kM
  split
  · exact wO l m h
  · exact wO l _ (ag_nodup h _ _)
theorem aGO:∀(l m:List (Int × Int)) (t:Int),cZ (kM m l) t=(cZ m t).or (cZ l t)
 | [],m,t=>by simp [kM,cZ]
 | (k,v)::l,m,t=>by
  unfold kM
  rw[aGO l]
  simp only[cZ]
  by_cases hk:t=k
  · subst hk
    rw[if_pos rfl]
    cases hg:cZ m t with
    | some y=>simp [jA,hg]
    | none=>simp [jA,hg,aH7]
  · rw[if_neg hk]
    split
    · rfl
    · rw[aH7,if_neg hk]
theorem yB {l:List (Int × Int)} {t v:Int}:(t,v)∈kM [] l↔cZ l t=some v:=by
 have h:=aGO l [] t
 simp only[cZ,Option.none_or] at h
 rw[← h]
 exact⟨fun m=>ag_get (wO l [] (by simp)) m,aHP⟩
theorem outc_l0 {x:List (Int × Int)} (hl:x.length≤100):∀(d i:Nat) (v:Int) (m:List (Int × Int)),x.length - i=d→i≤x.length→v=(i:Int)→eL x v m=some (kM m (x.drop i)):=by
 intro d
 induction d with
 | zero =>
  intro i v m hd hi hv
  rw[List.drop_of_length_le (by omega),kW]
  repeat (first|refine ip0 ?_|refine jn0 ?_|refine el ?_|refine er ?_)
  rfl
 | succ d ih =>
  intro i v m hd hi hv
  have hlt:i<x.length:=by omega
  have r1:=fun m=>ih (i+1) (aN .i64 v 1) m (by omega) (by omega) sd
  rw[List.drop_eq_getElem_cons hlt,kW]
  unfold kM
  cases hg:cZ m x[i].1 with
  | some y =>
   have hh:jA m x[i].1=true:=by unfold jA;rw[hg];rfl
   rw[if_pos hh]
   repeat (first|refine ip0 ?_|refine jn0 ?_|refine(bnd (geti hv hlt)).trans ?_|refine el ?_|refine er ?_)
   repeat (first|refine ip0 ?_|refine jn0 ?_|refine(bnd hg).trans ?_|refine el ?_|refine er ?_)
   exact r1 _
  | none =>
   have hh:¬jA m x[i].1=true:=by unfold jA;rw[hg];simp
   rw[if_neg hh]
   repeat (first|refine ip0 ?_|refine jn0 ?_|refine(bnd (geti hv hlt)).trans ?_|refine el ?_|refine er ?_)
   exact r1 _
theorem aFZ {x:List (Int × Int)} (hl:x.length≤100):fP x=some (kM [] x):=by
 unfold fP iU
 have h:=outc_l0 hl _ 0 0 [] rfl (by omega) rfl
 rw[List.drop_zero] at h
 rw[h];rfl
theorem find_l0 {x:List (Int × Int)} {t:Int} (hl:x.length≤100):∀(d i:Nat) (v:Int),x.length - i=d→i≤x.length→v=(i:Int)→∃q,i9 x t v=some q∧Sum.elim (fun _=>0) id q=fnd (x.drop i) t:=by
 intro d
 induction d with
 | zero =>
  intro i v hd hi hv
  refine⟨.inl (),?_,?_⟩
  · rw[lL]
    repeat (first|refine ip0 ?_|refine jn0 ?_|refine el ?_|refine er ?_)
    rfl
  · rw[List.drop_of_length_le (by omega)];rfl
 | succ d ih =>
  intro i v hd hi hv
  have hlt:i<x.length:=by omega
  obtain⟨q,r1,r2⟩:=ih (i+1) (aN .i64 v 1) (by omega) (by omega) sd
  rw[List.drop_eq_getElem_cons hlt]
  by_cases h:t=x[i].1
  · refine⟨.inr x[i].2,?_,?_⟩
    · rw[lL]
      repeat (first|refine ip0 ?_|refine jn0 ?_|refine(bnd (geti hv hlt)).trans ?_|refine el ?_|refine er ?_)
      rfl
    · show x[i].2=fnd ((x[i].1,x[i].2)::x.drop (i+1)) t
      unfold fnd cZ;rw[if_pos h];rfl
  · refine⟨q,?_,?_⟩
    · rw[lL]
      repeat (first|refine ip0 ?_|refine jn0 ?_|refine(bnd (geti hv hlt)).trans ?_|refine el ?_|refine er ?_)
      exact r1
    · rw[r2]
      show _=fnd ((x[i].1,x[i].2)::x.drop (i+1)) t
      unfold fnd;rw[cZ,if_neg h]
theorem aIU {x:List (Int × Int)} (t:Int) (hl:x.length≤100):kE x t=some (fnd x t):=by
 obtain⟨q,h1,h2⟩:=find_l0 (t:=t) hl _ 0 0 rfl (by omega) rfl
 rw[List.drop_zero] at h2
 unfold kE
 rw[h1,← h2]
 cases q<;>rfl
def vU (x y:List (Int × Int)) (e:Int × Int):Bool:=decide (fnd x e.1=0) || (decide (fnd y e.1=0) || decide (fnd x e.1=fnd y e.1))
theorem agree_l2 {X:List (List (Int × Int))} (hX:X.length≤8) (hx:∀x∈X,x.length≤100) {i k:Nat} (hi:i<X.length) (hk:k<X.length) {vi vk:Int} (ei:vi=(i:Int)) (ek:vk=(k:Int)):∀(d j:Nat) (v:Int),X[i].length - j=d→j≤X[i].length→v=(j:Int) →
 fO X v vk vi=some (if (X[i].drop j).all (vU X[i] X[k]) then .inl (vi,vk) else .inr false):=by
 have h1:=hx _ (List.getElem_mem hi)
 have h2:=hx _ (List.getElem_mem hk)
 have gi:=geti ei hi
 have gk:=geti ek hk
 generalize X[i]=x at *
 generalize X[k]=y at *
 intro d
 induction d with
 | zero =>
  intro j v hd hj hv
  rw[List.drop_of_length_le (by omega),oX]
  repeat (first|refine ip0 ?_|refine jn0 ?_|refine(bnd gi).trans ?_|refine el ?_|refine er ?_)
  rfl
 | succ d ih =>
  intro j v hd hj hv
  have hlt:j<x.length:=by omega
  have r1:=ih (j+1) (aN .i64 v 1) (by omega) (by omega) sd
  rw[List.drop_eq_getElem_cons hlt,oX,List.all_cons]
  have f1:=aIU x[j].1 h1
  have f2:=aIU x[j].1 h2
  repeat (first|refine ip0 ?_|refine jn0 ?_|refine(bnd gi).trans ?_|refine(bnd (geti hv hlt)).trans ?_|refine(bnd f1).trans ?_|refine(bnd gk).trans ?_|refine(bnd f2).trans ?_|refine el ?_|refine er ?_)
  by_cases c1:fnd x x[j].1=0
  · rw[show vU x y x[j]=true by simp [vU,c1],Bool.true_and]
    repeat (first|refine ip0 ?_|refine jn0 ?_|refine el ?_|refine er ?_)
    exact r1
  refine jn sd ?_
  by_cases c2:fnd y x[j].1=0
  · rw[show vU x y x[j]=true by simp [vU,c2],Bool.true_and]
    repeat (first|refine ip0 ?_|refine jn0 ?_|refine el ?_|refine er ?_)
    exact r1
  refine jn sd ?_
  by_cases c3:fnd x x[j].1=fnd y x[j].1
  · rw[show vU x y x[j]=true by simp [vU,c3],Bool.true_and]
    repeat (first|refine ip0 ?_|refine jn0 ?_|refine el ?_|refine er ?_)
    exact r1
  · rw[show vU x y x[j]=false by simp [vU,c1,c2,c3],Bool.false_and]
    refine jn sd ?_
    rfl
theorem agree_l1 {X:List (List (Int × Int))} (hX:X.length≤8) (hx:∀x∈X,x.length≤100) {i:Nat} (hi:i<X.length) {vi:Int} (ei:vi=(i:Int)):∀(d k:Nat) (v:Int),X.length - k=d→k≤X.length→v=(k:Int) →
 hP X v vi=some (if (X.drop k).all (fun y=>X[i].all (vU X[i] y)) then .inl vi else .inr false):=by
 intro d
 induction d with
 | zero =>
  intro k v hd hk hv
  rw[List.drop_of_length_le (by omega),oT]
  repeat (first|refine ip0 ?_|refine jn0 ?_|refine el ?_|refine er ?_)
  rfl
 | succ d ih =>
  intro k v hd hk hv
  have hlt:k<X.length:=by omega
  have r1:=ih (k+1) (aN .i64 v 1) (by omega) (by omega) sd
  have r2:=agree_l2 hX hx hi hlt ei hv _ 0 0 rfl (by omega) rfl
  rw[List.drop_zero] at r2
  rw[List.drop_eq_getElem_cons hlt,oT,List.all_cons]
  refine ip0 ?_
  refine(bnd r2).trans ?_
  cases hg:X[i].all (vU X[i] X[k]) with
  | true=>rw[Bool.true_and];exact r1
  | false=>rw[Bool.false_and];rfl
theorem agree_l0 {X:List (List (Int × Int))} (hX:X.length≤8) (hx:∀x∈X,x.length≤100):∀(d i:Nat) (v:Int),X.length - i=d→i≤X.length→v=(i:Int) →
 iA X v=some (if (X.drop i).all (fun x=>X.all fun y=>x.all (vU x y)) then .inl () else .inr false):=by
 intro d
 induction d with
 | zero =>
  intro i v hd hi hv
  rw[List.drop_of_length_le (by omega),oW]
  repeat (first|refine ip0 ?_|refine jn0 ?_|refine el ?_|refine er ?_)
  rfl
 | succ d ih =>
  intro i v hd hi hv
  have hlt:i<X.length:=by omega
  have r1:=ih (i+1) (aN .i64 v 1) (by omega) (by omega) sd
  have r2:=agree_l1 hX hx hlt hv _ 0 0 rfl (by omega) rfl
  rw[List.drop_zero] at r2
  rw[List.drop_eq_getElem_cons hlt,oW,List.all_cons]
  refine ip0 ?_
  refine(bnd r2).trans ?_
  cases hg:X.all (fun y=>X[i].all (vU X[i] y)) with
  | true=>rw[Bool.true_and];exact r1
  | false=>rw[Bool.false_and];rfl
def agR (X:List (List (Int × Int))):Bool:=X.all fun x=>X.all fun y=>x.all (vU x y)
theorem ref_ok {X:List (List (Int × Int))} (hX:X.length≤8) (hx:∀x∈X,x.length≤100):kS X=some (agR X):=by
 have h:=agree_l0 hX hx _ 0 0 rfl (by omega) rfl
 rw[List.drop_zero] at h
 unfold kS
 rw[h]
 unfold agR
 cases X.all (fun x=>X.all fun y=>x.all (vU x y))<;>rfl
theorem aJA {x:List (Int × Int)} {t a:Int} (h:cZ x t=some a):fnd x t=a:=by unfold fnd;rw[h];rfl
theorem aFS {x:List (Int × Int)} {t:Int} (h:fnd x t≠0):cZ x t=some (fnd x t):=by
 unfold fnd at *
 cases hg:cZ x t with
 | none=>rw[hg] at h;exact absurd rfl h
 | some y=>rfl
theorem aJB {X:List (List (Int × Int))}:dL (X.map (kM [])).flatten=true↔∀x∈X,∀y∈X,∀t,fnd x t≠0→fnd y t≠0→fnd x t=fnd y t:=by
 rw[pX]
 constructor
 · intro h x hx y hy t h1 h2
   exact h (t,fnd x t) (List.mem_flatten.2 ⟨_,List.mem_map.2 ⟨x,hx,rfl⟩,yB.2 (aFS h1)⟩) (t,fnd y t) (List.mem_flatten.2 ⟨_,List.mem_map.2 ⟨y,hy,rfl⟩,yB.2 (aFS h2)⟩) rfl h1 h2
 · rintro h ⟨t,a⟩ ha ⟨u,b⟩ hb e h1 h2
   obtain⟨_,m1,ha⟩:=List.mem_flatten.1 ha
   obtain⟨x,hx,rfl⟩:=List.mem_map.1 m1
   obtain⟨_,m2,hb⟩:=List.mem_flatten.1 hb
   obtain⟨y,hy,rfl⟩:=List.mem_map.1 m2
   simp only at e h1 h2 ⊢
   subst e
   have e1:=aJA (yB.1 ha)
   have e2:=aJA (yB.1 hb)
   rw[← e1,← e2]
   exact h x hx y hy t (by rw[e1];exact h1) (by rw[e2];exact h2)
theorem aIZ {X:List (List (Int × Int))}:agR X=true↔∀x∈X,∀y∈X,∀t,fnd x t≠0→fnd y t≠0→fnd x t=fnd y t:=by
 unfold agR
 simp only[List.all_eq_true,vU,Bool.or_eq_true,decide_eq_true_eq]
 constructor
 · intro h x hx y hy t h1 h2
   have:=h x hx y hy _ (aHP (aFS h1))
   simp only at this
   rcases this with q | q | q
   · exact absurd q h1
   · exact absurd q h2
   · exact q
 · intro h x hx y hy e he
   by_cases h1:fnd x e.1=0
   · exact .inl h1
   by_cases h2:fnd y e.1=0
   · exact .inr (.inl h2)
   exact .inr (.inr (h x hx y hy _ h1 h2))
theorem ag_eq (X:List (List (Int × Int))):dL (X.map (kM [])).flatten=agR X:=by
 cases h:agR X with
 | true=>exact aJB.2 (aIZ.1 h)
 | false =>
  cases h2:dL (X.map (kM [])).flatten with
  | false=>rfl
  | true=>rw[aIZ.2 (aJB.1 h2)] at h;cases h
theorem aFH {L M:List (Int × Int)} (h:∀x∈M,x∈L) (hL:dL L=true):dL M=true :=
 pX.2 fun x hx y hy=>pX.1 hL x (h x hx) y (h y hy)
theorem agP_rev (L:List (List (Int × Int))):dL L.reverse.flatten=dL L.flatten:=by
 have s1:∀x∈L.reverse.flatten,x∈L.flatten:=fun x hx=>by
  obtain⟨y,m,hy⟩:=List.mem_flatten.1 hx
  exact List.mem_flatten.2 ⟨y,List.mem_reverse.1 m,hy⟩
 have s2:∀x∈L.flatten,x∈L.reverse.flatten:=fun x hx=>by
  obtain⟨y,m,hy⟩:=List.mem_flatten.1 hx
  exact List.mem_flatten.2 ⟨y,List.mem_reverse.2 m,hy⟩
 cases h:dL L.flatten with
 | true=>exact aFH s1 h
 | false =>
  cases h2:dL L.reverse.flatten with
  | false=>rfl
  | true=>rw[aFH s2 h2] at h;cases h
theorem law_l0 {X:List (List (Int × Int))} {b:Int} (hX:X.length≤8):∀(d i:Nat) (v:Int) (A C:List (List (Int × Int))),X.length - i=d→i≤X.length→v=(i:Int)→A=(X.take i).map (kM [])→(∀y∈C,y∈A)→C.length≤i→(∀x∈X.take i,x.length≤100) →
 ∃q,eE X b v A A.reverse C=some q∧(q = .inr true∨∃C',q = .inl (X.map (kM []),(X.map (kM [])).reverse,C')∧(∀y∈C',y∈X.map (kM []))∧C'.length≤8∧∀x∈X,x.length≤100):=by
 intro d
 induction d with
 | zero =>
  intro i v A C hd hi hv hA hC hc hx
  rw[List.take_of_length_le (by omega)] at hA hx
  subst hA
  refine⟨_,?_,.inr ⟨C,rfl,hC,by omega,hx⟩⟩
  rw[kI]
  repeat (first|refine ip0 ?_|refine jn0 ?_|refine el ?_|refine er ?_)
  rfl
 | succ d ih =>
  intro i v A C hd hi hv hA hC hc hx
  have hlt:i<X.length:=by omega
  have hal:A.length=i:=by rw[hA,List.length_map,List.length_take];omega
  rw[kI]
  have gi:=geti hv hlt
  have ht:X.take (i+1)=X.take i++[X[i]]:=by rw[List.take_add_one,List.getElem?_eq_getElem hlt];rfl
  generalize hxi:X[i]=x at gi ht
  by_cases h100:x.length≤100
  rotate_left
  · refine⟨.inr true,?_,.inl rfl⟩
    repeat (first|refine ip0 ?_|refine jn0 ?_|refine(bnd gi).trans ?_|refine el ?_|refine er ?_)
    rfl
  have ho:=aFZ h100
  have hA':A++[kM [] x]=(X.take (i+1)).map (kM []):=by rw[ht,List.map_append,← hA];rfl
  have hx':∀x∈X.take (i+1),x.length≤100:=fun y hy=>by
   rw[ht] at hy
   rcases List.mem_append.1 hy with hy | hy
   · exact hx y hy
   · rcases List.mem_singleton.1 hy with rfl;exact h100
  have hr:[kM [] x]++A.reverse=(A++[kM [] x]).reverse:=by simp
  have l1:(A++[kM [] x]).length=i+1:=by rw[List.length_append,hal];rfl
  have l3:((A++[kM [] x]).reverse).length=i+1:=by rw[List.length_reverse,l1]
  have l2:(C++[kM [] x]).length≤i+1:=by rw[List.length_append];simp;omega
  have hC0:∀y∈C,y∈A++[kM [] x]:=fun y hy=>List.mem_append_left _ (hC y hy)
  have hC1:∀y∈C++[kM [] x],y∈A++[kM [] x]:=fun y hy=>by
   rcases List.mem_append.1 hy with hy | hy
   · exact hC0 y hy
   · exact List.mem_append_right _ hy
  by_cases hc2:v=irem .i64 (conv .i64 b) (nI X.length)
  · obtain⟨q,r1,r2⟩:=ih (i+1) (aN .i64 v 1) _ C (by omega) (by omega) sd hA' hC0 (by omega) hx'
    refine⟨q,?_,r2⟩
    repeat (first|refine ip0 ?_|refine jn0 ?_|refine(bnd gi).trans ?_|refine(bnd ho).trans ?_|refine el ?_|refine er ?_)
    rw[hr]
    repeat (first|refine ip0 ?_|refine jn0 ?_|refine(bnd ho).trans ?_|refine el ?_|refine er ?_)
    refine ip (fE.2 hc2) ?_
    exact r1
  · obtain⟨q,r1,r2⟩:=ih (i+1) (aN .i64 v 1) _ (C++[kM [] x]) (by omega) (by omega) sd hA' hC1 (by omega) hx'
    refine⟨q,?_,r2⟩
    repeat (first|refine ip0 ?_|refine jn0 ?_|refine(bnd gi).trans ?_|refine(bnd ho).trans ?_|refine el ?_|refine er ?_)
    rw[hr]
    repeat (first|refine ip0 ?_|refine jn0 ?_|refine(bnd ho).trans ?_|refine el ?_|refine er ?_)
    refine jn (fun e=>hc2 (fE.1 e)) ?_
    repeat (first|refine ip0 ?_|refine jn0 ?_|refine(bnd ho).trans ?_|refine el ?_|refine er ?_)
    exact r1
theorem aE8 (y0:List (List (Int × Int))) (y1:Int) (w0:w_t48 y0) (w1:w_t5 y1):hI y0 y1=some true:=by
 unfold hI
 refine(bnd alive_ag).trans ?_
 refine ip rfl ?_
 by_cases h8:y0.length≤8
 rotate_left
 · repeat (first|refine ip0 ?_|refine jn0 ?_|refine el ?_|refine er ?_)
   rfl
 refine jn0 ?_
 obtain⟨q,h1,h2⟩:=law_l0 (b:=y1) h8 _ 0 0 [] [] rfl (by omega) rfl rfl (fun _ h=>by cases h) (by simp) (fun _ h=>by simp at h)
 refine(bnd h1).trans ?_
 rcases h2 with rfl | ⟨C,rfl,hC,hc,hx⟩
 · rfl
 show ((dA (y0.map (kM []))).bind _)=_
 have hm:(y0.map (kM [])).length≤8:=by rw[List.length_map];exact h8
 have a1:dA (y0.map (kM []))=some (agR y0):=by unfold dA wB;rw[if_pos (by omega),ag_eq]
 have a2:dA (y0.map (kM [])).reverse=some (agR y0):=by unfold dA wB;rw[if_pos (by rw[List.length_reverse];omega),agP_rev,ag_eq]
 have a3:agR y0=true→dA C=some true:=fun h=>by
  unfold dA wB
  rw[if_pos (by omega),aFH (L:=(y0.map (kM [])).flatten) (fun x hx=>?_) (by rw[ag_eq];exact h)]
  obtain⟨y,m,hy⟩:=List.mem_flatten.1 hx
  exact List.mem_flatten.2 ⟨y,hC y m,hy⟩
 refine(bnd a1).trans ?_
 refine(bnd (ref_ok h8 hx)).trans ?_
 refine ip (aD4.2 rfl) ?_
 refine(bnd a2).trans ?_
 refine ip (aD4.2 rfl) ?_
 by_cases h:agR y0=true
 · refine ip h ?_
   exact(bnd (a3 h)).trans rfl
 · exact(if_neg h).trans rfl
end Go.Ws.L10
