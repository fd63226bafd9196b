/-
  What a site comes to, call by call, plainly.
  Conditions: none.
-/
import Derived.Test.YtpaekffehfdmgaaGreatDoorZCLock
import Derived.Test.YtpaekffehfdmgaaGreatDoorZCLedger
import Derived.Test.YtpaekffehfdmgaaGreatDoorZCPart
set_option linter.unusedVariables false
set_option linter.unusedSimpArgs false
namespace Go.Ws.L10
open L7 L8 L9
set_option linter.unusedVariables false
set_option linter.unusedSimpArgs false
set_option maxHeartbeats 1000000
abbrev Dl:=List (Int × Int)
abbrev Pt:=Int × Dl × Bool × Int
abbrev Rec:=Int × Int × Int × Int
structure St where
 L:Dl
 K:List Ho
 M:List (Int × Pt)
 G:List Rec
abbrev Res:=Int × Int × St
noncomputable def aBD (K:List Ho) (t k:Int) (w:Bool):List Ho:=((iA K t k w).getD (K,0)).1
theorem aB8 {K:List Ho} {t k:Int} {w:Bool} (hr:Lk K) (hl:K.length≤10000) (hk:0≤k) (hm:aKE (k,t,w)) (hc:¬aE1 K k t w):iA K t k w=some (aBD K t k w,0)∧True∧Got K k t w (aBD K t k w):=by
 obtain⟨l',h1,h2,h3⟩:=take_t hr hl hk hm hc
 have e:aBD K t k w=l':=by unfold aBD;rw[h1];rfl
 rw[e];exact⟨h1,h2,h3⟩
noncomputable def errL (p:Pt):Int:=((j4 p.1 p.2.1 p.2.2.1 p.2.2.2).getD (0,[],false,0,[],2)).2.2.2.2.2
noncomputable def errD (p:Pt) (w:Int):Int:=((fG p.1 p.2.1 p.2.2.1 p.2.2.2 w).getD (0,[],false,0,[],2)).2.2.2.2.2
open Classical in
noncomputable def accF (s:St) (p:Pt) (a t k n:Int):Res :=
 if p.1≠0 then (13,0,s)
 else if ¬k<64 then (2,0,s)
 else if aE1 s.K k t (decide (a=3)) then (9,0,s)
 else if a=3 then
  if p.2.1.length<50 then (0,0,⟨s.L,aBD s.K t k true,d7 s.M t (p.1,p.2.1++[(k,n)],p.2.2.1,p.2.2.2),s.G⟩) else (6,0,s)
 else (0,W64 (tot s.L k+tot p.2.1 k),⟨s.L,aBD s.K t k false,s.M,s.G⟩)
noncomputable def endF (s:St) (p:Pt) (a t n:Int):Int × St :=
 if a=4 then
  if p.1=0 then (0,⟨s.L,if n=0 then lI s.K t else s.K,d7 s.M t (if n=0 then 2 else 1,p.2.1,p.2.2.1,p.2.2.2),s.G⟩) else (13,s)
 else if a=5 then
  if p.1=1∧p.2.2.1=false then (0,⟨ofL (s.L++p.2.1),lI s.K t,d7 s.M t (p.1,p.2.1,true,p.2.2.2),s.G⟩) else (errL p,s)
 else if n=1∨n=2 then
  if p.1≠3∧(n=1→p.1=1) then (0,⟨ofL (s.L++dec p.2.1 p.2.2.1 n),lI s.K t,d7 s.M t (3,p.2.1,p.2.2.1,n),s.G⟩)
  else if p.1=3∧p.2.2.2=n then (0,⟨s.L,lI s.K t,d7 s.M t p,s.G⟩) else (errD p n,s)
 else (2,s)
noncomputable def iI (s:St) (p:Pt) (r:Rec):Res:=if r.1=2∨r.1=3 then accF s p r.1 r.2.1 r.2.2.1 r.2.2.2 else ((endF s p r.1 r.2.1 r.2.2.2).1,0,(endF s p r.1 r.2.1 r.2.2.2).2)
noncomputable def doF (s:St) (r:Rec):Res :=
 if r.1<1∨6<r.1∨r.2.1<0∨1000≤r.2.1 then (2,0,s) else
 match gG s.M r.2.1 with
 | none=>if r.1=1 then (0,0,⟨s.L,s.K,d7 s.M r.2.1 (0,[],false,0),s.G++[r]⟩) else (7,0,s)
 | some p=>if r.1=1 then (8,0,s) else if (iI s p r).1=0 then (0,(iI s p r).2.1,⟨(iI s p r).2.2.L,(iI s p r).2.2.K,(iI s p r).2.2.M,s.G++[r]⟩) else ((iI s p r).1,0,s)
def PtOk (p:Pt):Prop:=Rt p.1 p.2.1 p.2.2.1 p.2.2.2∧∀d∈p.2.1,0≤d.1∧InR d.2
structure Wf (s:St):Prop where
 led:Led s.L
 lk:Lk s.K
 kl:s.K.length≤1000
 gl:s.G.length≤1000
 pt:∀t p,gG s.M t=some p→PtOk p
def aD4 (r:Rec):Prop:=(0≤r.2.2.1∧r.2.2.1≤255)∧InR r.2.2.2
theorem has_t {V:Type} {l:List (Int × V)} {q:Int} {y:V} (h:gG l q=some y):aC9 l q=true:=by unfold aC9;rw[h];rfl
theorem has_f {V:Type} {l:List (Int × V)} {q:Int} (h:gG l q=none):aC9 l q=false:=by unfold aC9;rw[h];rfl
theorem acc_l0 {x2:Dl} {a t k n:Int} {L:Dl} {K:List Ho} {M:List (Int × Pt)} {G:List Rec} {q:List Ho × Int} (hl:x2.length≤1000):∀(d i:Nat) (v acc:Int),x2.length - i=d→i≤x2.length→v=(i:Int)→∀b,acc=W64 b →
 fP x2 a t k n L K M G q acc v=some (W64 (b+tot (x2.drop i) k)):=by
 intro d
 induction d with
 | zero =>
  intro i v acc hd hi hv b hb
  rw[List.drop_of_length_le (by omega),uF,Int.add_zero,oA]
  repeat (first|refine ip0 ?_|refine jn0 ?_|refine el ?_|refine er ?_)
  rw[hb]
 | succ d ih =>
  intro i v acc hd hi hv b hb
  have hlt:i<x2.length:=by omega
  rw[List.drop_eq_getElem_cons hlt,oJ,oA]
  by_cases hk:x2[i].1=k
  · rw[if_pos hk]
    repeat (first|refine ip0 ?_|refine jn0 ?_|refine(bnd (kG hv hlt)).trans ?_|refine el ?_|refine er ?_)
    rw[ih (i+1) (aH .i64 v 1) (aH .i64 acc x2[i].2) (by omega) (by omega) sd (b+x2[i].2) (by rw[hb];exact w64_addl b _),Int.add_assoc]
  · rw[if_neg hk,Int.zero_add]
    repeat (first|refine ip0 ?_|refine jn0 ?_|refine(bnd (kG hv hlt)).trans ?_|refine el ?_|refine er ?_)
    exact ih (i+1) (aH .i64 v 1) acc (by omega) (by omega) sd b hb
theorem acc_ok {s:St} (W:Wf s) {p:Pt} {a t k n:Int} (hp:gG s.M t=some p) (ha:a=2∨a=3) (ht:0≤t∧t<1000) (hk:0≤k) :
 cK p.1 p.2.1 p.2.2.1 p.2.2.2 a t k n s.L s.K s.M s.G=some ((accF s p a t k n).2.2.K,(accF s p a t k n).2.2.M,(accF s p a t k n).1,(accF s p a t k n).2.1):=by
 have hP:=W.pt t p hp
 have hpl:=hP.1.2.1
 have hkl:=W.kl
 have hh:=has_t hp
 unfold accF
 by_cases h0:p.1=0
 rotate_left
 · rw[if_pos h0]
   rw[cK]
   repeat (first|refine ip0 ?_|refine jn0 ?_)
   rfl
 rw[if_neg (fun h=>h h0)]
 by_cases h64:k<64
 rotate_left
 · rw[if_pos h64]
   rw[cK]
   repeat (first|refine ip0 ?_|refine jn0 ?_|refine(bnd (take_f (w:=eqI a 3) (t:=t) W.lk.wf (by omega) (fun h=>h64 h.2.1)).1).trans ?_)
   rfl
 rw[if_neg (fun h=>h h64)]
 have hm:∀w:Bool,aKE (k,t,w):=fun w=>⟨h64,ht.1,ht.2⟩
 rcases ha with rfl | rfl
 · have e3:eqI (2:Int) 3=false:=by rfl
   rw[show decide ((2:Int)=3)=false from rfl]
   by_cases hc:aE1 s.K k t false
   · rw[if_pos hc]
     rw[cK,e3]
     repeat (first|refine ip (by first|with_reducible rfl | assumption | (simp (disch:=omega) only[ws,wl,wb,Bool.false_eq_true,not_false_eq_true]<;>omega)|omega) ?_|refine jn (by first|with_reducible rfl | assumption | (simp (disch:=omega) only[ws,wl,wb,Bool.false_eq_true,not_false_eq_true]<;>omega)|omega) ?_|refine(bnd (take_c W.lk (by omega) (hm false) hc).1).trans ?_)
     rfl
   · rw[if_neg hc,if_neg (by decide)]
     have hl64:=Led.len W.led
     rw[cK,e3]
     repeat (first|refine ip (by first|with_reducible rfl | assumption | (simp (disch:=omega) only[ws,wl,wb,Bool.false_eq_true,not_false_eq_true]<;>omega)|omega) ?_|refine jn (by first|with_reducible rfl | assumption | (simp (disch:=omega) only[ws,wl,wb,Bool.false_eq_true,not_false_eq_true]<;>omega)|omega) ?_|refine(bnd (aB8 W.lk (by omega) hk (hm false) hc).1).trans ?_|refine(bnd (get_ok (l:=s.L) (by omega) k)).trans ?_|refine(bnd (acc_l0 (by omega) _ 0 0 _ rfl (by omega) rfl (tot s.L k) (getK_led W.led k))).trans ?_)
     rfl
 · have e3:eqI (3:Int) 3=true:=by rfl
   rw[show decide ((3:Int)=3)=true from rfl]
   by_cases hc:aE1 s.K k t true
   · rw[if_pos hc]
     rw[cK,e3]
     repeat (first|refine ip (by first|with_reducible rfl | assumption | (simp (disch:=omega) only[ws,wl,wb,Bool.false_eq_true,not_false_eq_true]<;>omega)|omega) ?_|refine jn (by first|with_reducible rfl | assumption | (simp (disch:=omega) only[ws,wl,wb,Bool.false_eq_true,not_false_eq_true]<;>omega)|omega) ?_|refine(bnd (take_c W.lk (by omega) (hm true) hc).1).trans ?_)
     rfl
   · rw[if_neg hc,if_pos rfl]
     obtain⟨l',e,q1,_,q2⟩:=add_any (s:=p.1) (l:=p.2.1) (c:=p.2.2.1) (o:=p.2.2.2) (by omega) k n
     by_cases h5:p.2.1.length<50
     · rw[if_pos h5]
       rcases q2 with⟨he,_,_,_,_,hl'⟩ | ⟨_,_,hn,_⟩
       rotate_left
       · exact absurd ⟨hP.1,h0,h64,h5⟩ hn
       subst he hl'
       rw[cK,e3]
       repeat (first|refine ip (by first|with_reducible rfl | assumption | (simp (disch:=omega) only[ws,wl,wb,Bool.false_eq_true,not_false_eq_true]<;>omega)|omega) ?_|refine jn (by first|with_reducible rfl | assumption | (simp (disch:=omega) only[ws,wl,wb,Bool.false_eq_true,not_false_eq_true]<;>omega)|omega) ?_|refine(bnd (aB8 W.lk (by omega) hk (hm true) hc).1).trans ?_|refine(bnd q1).trans ?_|refine(bnd hp).trans ?_)
       rfl
     · rw[if_neg h5]
       rcases q2 with⟨_,_,_,_,h5',_⟩ | ⟨_,_,_,he,_⟩
       · exact absurd h5' h5
       have he:=he hP.1 h0 h64
       subst he
       rw[cK,e3]
       repeat (first|refine ip (by first|with_reducible rfl | assumption | (simp (disch:=omega) only[ws,wl,wb,Bool.false_eq_true,not_false_eq_true]<;>omega)|omega) ?_|refine jn (by first|with_reducible rfl | assumption | (simp (disch:=omega) only[ws,wl,wb,Bool.false_eq_true,not_false_eq_true]<;>omega)|omega) ?_|refine(bnd (aB8 W.lk (by omega) hk (hm true) hc).1).trans ?_|refine(bnd q1).trans ?_)
       rfl
theorem put_nil {s:St} (W:Wf s):j3 s.L []=some (s.L,0):=by
 have:=put_t (d:=[]) W.led (fun x hx=>by cases hx) (by simp)
 rwa [List.append_nil,Led.of W.led] at this
theorem end_ok {s:St} (W:Wf s) {p:Pt} {a t k n:Int} (hp:gG s.M t=some p) (ha:a=4∨a=5∨a=6) (ht:0≤t∧t<1000) :
 bY p.1 p.2.1 p.2.2.1 p.2.2.2 a t k n s.L s.K s.M s.G=some ((endF s p a t n).2.L,(endF s p a t n).2.K,(endF s p a t n).2.M,(endF s p a t n).1):=by
 have hP:=W.pt t p hp
 have hpl:=hP.1.2.1
 have hkl:=W.kl
 have hh:=has_t hp
 have hpn:=put_nil W
 have hfr:=free_ok (l:=s.K) (by omega) t
 have hadd:∀x∈p.2.1,0≤x.1∧x.1<64∧InR x.2:=fun x hx=>⟨(hP.2 x hx).1,hP.1.2.2.1 x hx,(hP.2 x hx).2⟩
 unfold endF
 rcases ha with rfl | rfl | rfl
 · rw[if_pos rfl]
   obtain⟨s',e,q1,_,q2⟩:=vote_any (s:=p.1) (l:=p.2.1) (c:=p.2.2.1) (o:=p.2.2.2) (by omega) (!eqI n 0)
   by_cases h0:p.1=0
   · rw[if_pos h0]
     rcases q2 with⟨he,_,_,hs'⟩ | ⟨_,_,hn,_⟩
     rotate_left
     · exact absurd ⟨hP.1,h0⟩ hn
     subst he
     by_cases hn:n=0
     · rw[if_pos hn,if_pos hn]
       have hn2:eqI n 0=true:=jK.2 hn
       rw[hn2,if_neg (by simp)] at hs'
       subst hs'
       rw[bY]
       repeat (first|refine ip0 ?_|refine jn0 ?_|refine(bnd q1).trans ?_|refine(bnd hpn).trans ?_|refine(bnd hfr).trans ?_)
       rfl
     · rw[if_neg hn,if_neg hn]
       have hn2:eqI n 0=false:=eqf fun h=>hn (jK.1 h)
       rw[hn2,if_pos (by simp)] at hs'
       subst hs'
       rw[bY]
       repeat (first|refine ip0 ?_|refine jn0 ?_|refine(bnd q1).trans ?_|refine(bnd hpn).trans ?_)
       rfl
   · rw[if_neg h0]
     rcases q2 with⟨_,_,h,_⟩ | ⟨_,_,_,he⟩
     · exact absurd h h0
     have he:=he hP.1
     subst he
     rw[bY]
     repeat (first|refine ip0 ?_|refine jn0 ?_|refine(bnd q1).trans ?_)
     rfl
 · rw[if_neg (by decide),if_pos rfl]
   obtain⟨c',d,e,q1,_,q2⟩:=aMV (s:=p.1) (l:=p.2.1) (c:=p.2.2.1) (o:=p.2.2.2) (by omega)
   have ee:errL p=e:=by unfold errL;rw[q1];rfl
   by_cases h1:p.1=1∧p.2.2.1=false
   · rw[if_pos h1]
     rcases q2 with⟨he,_,_,_,hc',hd⟩ | ⟨_,_,_,hn⟩
     rotate_left
     · exact absurd ⟨hP.1,h1⟩ hn
     subst he hc' hd
     rw[bY]
     repeat (first|refine ip0 ?_|refine jn0 ?_|refine(bnd q1).trans ?_|refine(bnd (put_t W.led hadd (by omega))).trans ?_|refine(bnd hfr).trans ?_)
     rfl
   · rw[if_neg h1,ee]
     rcases q2 with⟨_,_,a1,a2,_⟩ | ⟨he,_,_,_⟩
     · exact absurd ⟨a1,a2⟩ h1
     rw[bY]
     repeat (first|refine ip0 ?_|refine jn0 ?_|refine(bnd q1).trans ?_)
     rfl
 · rw[if_neg (by decide),if_neg (by decide)]
   by_cases hn:n=1∨n=2
   rotate_left
   · rw[if_neg hn]
     rw[bY]
     repeat (first|refine ip0 ?_|refine jn0 ?_)
     rfl
   rw[if_pos hn]
   obtain⟨s',o',d,e,q1,_,q2⟩:=aK1 (s:=p.1) (l:=p.2.1) (c:=p.2.2.1) (o:=p.2.2.2) (by omega) n
   have ee:errD p n=e:=by unfold errD;rw[q1];rfl
   by_cases h1:p.1≠3∧(n=1→p.1=1)
   · rw[if_pos h1]
     rcases q2 with⟨he,_,_,_,_,hs',ho',hd⟩ | ⟨_,_,_,⟨_,_,h3,_⟩ | ⟨_,hne⟩⟩
     rotate_left
     · exact absurd h3 h1.1
     · exact absurd ⟨hP.1,hn,.inr h1⟩ hne
     subst he hs' ho'
     have hdd:(∀x∈d,0≤x.1∧x.1<64∧InR x.2)∧d.length≤100000:=by
      rw[hd]
      unfold dec
      have hopp:∀x∈w7 p.2.1,0≤x.1∧x.1<64∧InR x.2:=fun x hx=>by
       unfold w7 at hx
       obtain⟨y,hy,rfl⟩:=List.mem_map.1 hx
       have:=hadd y (List.mem_reverse.1 hy)
       exact⟨this.1,this.2.1,aOZ (0 - y.2)⟩
      have hol:=oppL_len p.2.1
      split<;>split
      · exact⟨fun x hx=>(by cases hx),by simp⟩
      · exact⟨hadd,by omega⟩
      · exact⟨hopp,by omega⟩
      · exact⟨fun x hx=>(by cases hx),by simp⟩
     have hput:=put_t W.led hdd.1 hdd.2
     rcases hn with rfl | rfl
     · rw[bY]
       repeat (first|refine ip0 ?_|refine jn0 ?_|refine(bnd q1).trans ?_|refine(bnd hput).trans ?_|refine(bnd hfr).trans ?_)
       rw[hd]
     · rw[bY]
       repeat (first|refine ip0 ?_|refine jn0 ?_|refine(bnd q1).trans ?_|refine(bnd hput).trans ?_|refine(bnd hfr).trans ?_)
       rw[hd]
   · rw[if_neg h1]
     by_cases h3:p.1=3∧p.2.2.2=n
     · rw[if_pos h3]
       rcases q2 with⟨_,_,_,hx,hy,_⟩ | ⟨hs',ho',hd,⟨he,_⟩ | ⟨_,hne⟩⟩
       · exact absurd ⟨hx,hy⟩ h1
       rotate_left
       · exact absurd ⟨hP.1,hn,.inl h3.2⟩ hne
       subst hs' ho' hd he
       rcases hn with rfl | rfl
       · rw[bY]
         repeat (first|refine ip0 ?_|refine jn0 ?_|refine(bnd q1).trans ?_|refine(bnd hpn).trans ?_|refine(bnd hfr).trans ?_)
         rfl
       · rw[bY]
         repeat (first|refine ip0 ?_|refine jn0 ?_|refine(bnd q1).trans ?_|refine(bnd hpn).trans ?_|refine(bnd hfr).trans ?_)
         rfl
     · rw[if_neg h3,ee]
       rcases q2 with⟨_,_,_,hx,hy,_⟩ | ⟨hs',ho',hd,⟨_,_,hx,hy⟩ | ⟨he,_⟩⟩
       · exact absurd ⟨hx,hy⟩ h1
       · exact absurd ⟨hx,hy⟩ h3
       rcases hn with rfl | rfl
       · rw[bY]
         repeat (first|refine ip0 ?_|refine jn0 ?_|refine(bnd q1).trans ?_)
         rfl
       · rw[bY]
         repeat (first|refine ip0 ?_|refine jn0 ?_|refine(bnd q1).trans ?_)
         rfl
def ans (q:Res):Option (Int × Int × Dl × List Ho × List (Int × Pt) × List Rec):=some (q.1,q.2.1,q.2.2.L,q.2.2.K,q.2.2.M,q.2.2.G)
theorem do_ok {s:St} (W:Wf s) {r:Rec} (hr:aD4 r):bR r.1 r.2.1 r.2.2.1 r.2.2.2 s.L s.K s.M s.G=ans (doF s r):=by
 have hgl:=W.gl
 unfold doF
 by_cases hb:r.1<1∨6<r.1∨r.2.1<0∨1000≤r.2.1
 · rw[if_pos hb]
   by_cases h1:r.1<1
   · rw[bR]
     repeat (first|refine ip0 ?_|refine jn0 ?_)
     rfl
   by_cases h2:6<r.1
   · rw[bR]
     repeat (first|refine ip0 ?_|refine jn0 ?_)
     rfl
   by_cases h3:r.2.1<0
   · rw[bR]
     repeat (first|refine ip0 ?_|refine jn0 ?_)
     rfl
   · rw[bR]
     repeat (first|refine ip0 ?_|refine jn0 ?_)
     rfl
 rw[if_neg hb]
 have ht:0≤r.2.1∧r.2.1<1000:=by omega
 cases hg:gG s.M r.2.1 with
 | none =>
  have hh:=has_f hg
  have hh':¬aC9 s.M r.2.1=true:=by rw[hh];simp
  simp only
  by_cases h1:r.1=1
  · rw[if_pos h1]
    have hx:eqB false (eqI r.1 1)=false:=by rw[jK.2 h1];rfl
    have hx':¬eqB false (eqI r.1 1)=true:=by rw[hx];simp
    have hs:dZ 0 [] false 0 r.1 r.2.1 r.2.2.1 r.2.2.2 s.L s.K s.M s.G=some (0,0,s.K,d7 s.M r.2.1 (0,[],false,0),s.L):=by
     rw[dZ]
     repeat (first|refine ip0 ?_|refine jn0 ?_)
     rfl
    rw[bR]
    repeat (first|refine ip (by first|with_reducible rfl | assumption | (simp (disch:=omega) only[ws,wl,wb,List.length_append,List.length_cons,List.length_nil]<;>omega)|omega) ?_|refine jn (by first|with_reducible rfl | assumption | (simp (disch:=omega) only[ws,wl,wb,List.length_append,List.length_cons,List.length_nil]<;>omega)|omega) ?_|refine(bnd hs).trans ?_)
    rfl
  · rw[if_neg h1]
    have hx:eqB false (eqI r.1 1)=true:=by rw[eqf (fun h=>h1 (jK.1 h))];rfl
    rw[bR]
    repeat (first|refine ip0 ?_|refine jn0 ?_)
    rfl
 | some p =>
  have hh:=has_t hg
  simp only
  by_cases h1:r.1=1
  · rw[if_pos h1]
    have hx:eqB true (eqI r.1 1)=true:=by rw[jK.2 h1];rfl
    rw[bR]
    repeat (first|refine ip0 ?_|refine jn0 ?_|refine(bnd hg).trans ?_)
    rfl
  rw[if_neg h1]
  have hx:¬eqB true (eqI r.1 1)=true:=by rw[eqf (fun h=>h1 (jK.1 h))];simp [eqB]
  have hs:dZ p.1 p.2.1 p.2.2.1 p.2.2.2 r.1 r.2.1 r.2.2.1 r.2.2.2 s.L s.K s.M s.G=some ((iI s p r).2.1,(iI s p r).1,(iI s p r).2.2.K,(iI s p r).2.2.M,(iI s p r).2.2.L):=by
   unfold iI
   by_cases h23:r.1=2∨r.1=3
   · rw[if_pos h23]
     have ha:=acc_ok W (n:=r.2.2.2) hg h23 ht hr.1.1
     have hL:(accF s p r.1 r.2.1 r.2.2.1 r.2.2.2).2.2.L=s.L:=by
      unfold accF
      repeat' (first|rfl | split)
     rw[hL]
     rcases h23 with h | h
     · rw[dZ]
       repeat (first|refine ip0 ?_|refine jn0 ?_|refine(bnd ha).trans ?_)
       rfl
     · rw[dZ]
       repeat (first|refine ip0 ?_|refine jn0 ?_|refine(bnd ha).trans ?_)
       rfl
   · rw[if_neg h23]
     have ha:=end_ok W (k:=r.2.2.1) (n:=r.2.2.2) hg (a:=r.1) (by omega) ht
     rw[dZ]
     repeat (first|refine ip0 ?_|refine jn0 ?_|refine(bnd ha).trans ?_)
     rfl
  have hsame:(iI s p r).1≠0→(iI s p r).2.2=s∧True:=by
   intro hne
   refine⟨?_,trivial⟩
   revert hne
   unfold iI accF endF
   repeat' (first|(intro _;rfl)|(intro h;exact absurd rfl h)|split)
  by_cases he:(iI s p r).1=0
  · rw[if_pos he]
    rw[bR]
    repeat (first|refine ip (by first|with_reducible rfl | assumption | (simp (disch:=omega) only[ws,wl,wb,List.length_append,List.length_cons,List.length_nil]<;>omega)|omega) ?_|refine jn (by first|with_reducible rfl | assumption | (simp (disch:=omega) only[ws,wl,wb,List.length_append,List.length_cons,List.length_nil]<;>omega)|omega) ?_|refine(bnd hg).trans ?_|refine(bnd hs).trans ?_)
    rfl
  · rw[if_neg he]
    have e2:=(hsame he).1
    rw[e2] at hs
    rw[bR]
    repeat (first|refine ip0 ?_|refine jn0 ?_|refine(bnd hg).trans ?_|refine(bnd hs).trans ?_)
    rfl
end Go.Ws.L10
