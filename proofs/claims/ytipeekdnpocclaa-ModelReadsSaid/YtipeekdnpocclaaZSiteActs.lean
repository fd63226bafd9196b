/-
  SiteActs, plainly: the document's site does as the site.
  Conditions: none.
-/
import Derived.Test.YtipeekdnpocclaaZSiteLaws
set_option linter.unusedVariables false
set_option linter.unusedSimpArgs false
namespace Go.Ws.L10
open L7 L8 L9
set_option linter.unusedVariables false
set_option linter.unusedSimpArgs false
set_option linter.unusedSectionVars false
set_option maxHeartbeats 1000000
theorem aIF {V:Type}:∀{M:List (Int × V)} {t:Int} {p:V},bD M t=some p→∃A R,M=A++(t,p)::R∧(∀x∈A,x.1≠t)∧∀q,bH M t q=A++(t,q)::R
 | [],t,p,h=>by cases h
 | (k,v)::M,t,p,h=>by
  simp only[bD] at h
  by_cases hk:t=k
  · rw[if_pos hk] at h
    cases h
    subst hk
    exact⟨[],M,rfl,fun _ h=>(by cases h),fun q=>by simp [bH]⟩
  · rw[if_neg hk] at h
    obtain⟨A,R,h1,h2,h3⟩:=aIF h
    refine⟨(k,v)::A,R,by rw[h1];rfl,fun x hx=>?_,fun q=>by simp only[bH];rw[if_neg hk,h3 q];rfl⟩
    rcases List.mem_cons.1 hx with rfl | hx
    · exact fun e=>hk e.symm
    · exact h2 x hx
theorem aNT {V:Type}:∀{M:List (Int × V)} {t:Int} (q:V),bD M t=none→bH M t q=M++[(t,q)]
 | [],t,q,h=>rfl
 | (k,v)::M,t,q,h=>by
  simp only[bD] at h
  by_cases hk:t=k
  · rw[if_pos hk] at h;cases h
  · rw[if_neg hk] at h
    simp only[bH]
    rw[if_neg hk,aNT q h];rfl
theorem aVW {L:Dl} {K:List Ho} {M:List (Int × Pt)} {G:List Rec} {t:Int} (hl:M.length≤100000):∀(d i:Nat) (v:Int),M.length - i=d→i≤M.length→v=(i:Int) →
 (bD (M.drop i) t=none→jZ L K M G t v=some (.inl ()))∧(∀A p R,M.drop i=A++(t,p)::R→(∀x∈A,x.1≠t)→jZ L K M G t v=some (.inr ((i+A.length:Nat):Int))):=by
 intro d
 induction d with
 | zero =>
  intro i v hd hi hv
  rw[List.drop_of_length_le (by omega)]
  refine⟨fun _=>?_,fun A p R h _=>?_⟩
  · rw[sZ]
    repeat (first|refine ip0 ?_|refine jn0 ?_|refine el ?_|refine er ?_)
    rfl
  · cases A<;>cases h
 | succ d ih =>
  intro i v hd hi hv
  have hlt:i<M.length:=by omega
  obtain⟨q1,q2⟩:=ih (i+1) (aL .i64 v 1) (by omega) (by omega) sd
  rw[List.drop_eq_getElem_cons hlt]
  by_cases hk:M[i].1=t
  · refine⟨fun h=>?_,fun A p R h hA=>?_⟩
    · exfalso
      simp only[bD] at h
      rw[if_pos hk.symm] at h
      cases h
    · cases A with
      | cons a A =>
       rw[List.cons_append,List.cons.injEq] at h
       exact absurd (h.1▸hk) (hA a (by simp))
      | nil =>
       rw[sZ]
       repeat (first|refine ip0 ?_|refine jn0 ?_|refine(bnd (cU hv hlt)).trans ?_|refine el ?_|refine er ?_)
       rw[hv];rfl
  · have e:jZ L K M G t v=jZ L K M G t (aL .i64 v 1):=by
     rw[sZ]
     repeat (first|refine ip0 ?_|refine jn0 ?_|refine(bnd (cU hv hlt)).trans ?_|refine el ?_|refine er ?_)
     rfl
    rw[e]
    refine⟨fun h=>q1 ?_,fun A p R h hA=>?_⟩
    · simp only[bD] at h
      rwa [if_neg (fun e=>hk e.symm)] at h
    · cases A with
      | nil =>
       rw[List.nil_append,List.cons.injEq] at h
       rw[h.1] at hk
       exact absurd rfl hk
      | cons a A =>
       rw[List.cons_append,List.cons.injEq] at h
       rw[q2 A p R h.2 fun x hx=>hA x (by simp [hx])]
       congr 2
       simp only[List.length_cons]
       omega
theorem aX6 {L:Dl} {K:List Ho} {M:List (Int × Pt)} {G:List Rec} {t:Int} (hl:M.length≤100000) (h:bD M t=none):mY L K M G t=some (-1):=by
 have q:=(aVW (L:=L) (K:=K) (G:=G) (t:=t) hl _ 0 0 rfl (by omega) rfl).1 h
 rw[mY]
 repeat (first|refine ip0 ?_|refine jn0 ?_|refine(bnd q).trans ?_|refine el ?_|refine er ?_)
 rfl
theorem aXH {L:Dl} {K:List Ho} {A R:List (Int × Pt)} {G:List Rec} {t:Int} {p:Pt} (hl:(A++(t,p)::R).length≤100000) (hA:∀x∈A,x.1≠t):mY L K (A++(t,p)::R) G t=some (A.length:Int):=by
 have q:=(aVW (L:=L) (K:=K) (G:=G) (t:=t) hl _ 0 0 rfl (by omega) rfl).2 A p R rfl hA
 rw[Nat.zero_add] at q
 rw[mY]
 repeat (first|refine ip0 ?_|refine jn0 ?_|refine(bnd q).trans ?_|refine el ?_|refine er ?_)
 rfl
theorem aUX {L:Dl} {K:List Ho} {A R:List (Int × Pt)} {G:List Rec} {t:Int} {p:Pt} (hl:(A++(t,p)::R).length≤100000) (s:Int) (l:Dl) (c:Bool) (o:Int):kM L K (A++(t,p)::R) G (A.length:Int) s l c o=some (L,K,A++(t,(s,l,c,o))::R,G):=by
 have g:(A++(t,p)::R)[tN (A.length:Int)]? = some (t,p):=by rw[qQ];exact vV A R _
 have hi:inI (A.length:Int) (A++(t,p)::R).length=true:=by rw[aEG];simp;omega
 have hr:bC ((A++(t,p)::R).length*56)=true:=by rw[aN4];omega
 rw[kM]
 refine ip hr ?_
 refine ip hi ?_
 refine(bnd g).trans ?_
 rw[qQ,aKE]
theorem aH6 {s:St} (W:Wf s) {L:Dl} {M:List (Int × Pt)} {d:Dl} (hL:Led L) (hd:L9.kY d) (hdl:d.length≤100000) (t:Int):iW L s.K M s.G t d=some (ofL (L++d),lO s.K t,M,s.G):=by
 have:=W.kl
 have hp:=rput_t hL (d:=d) hd hdl
 rw[iW]
 repeat (first|refine ip0 ?_|refine jn0 ?_|refine(bnd hp).trans ?_|refine(bnd (rfree_ok (l:=s.K) (by omega) t)).trans ?_|refine el ?_|refine er ?_)
 rfl
theorem racc_l0 {x1:Dl} {x3:List (Int × Pt)} {G:List Rec} {a t k n:Int} {x10:Int × Pt} {q:List Ho × Int} (hl:x10.2.2.1.length≤1000):∀(d i:Nat) (v acc:Int),x10.2.2.1.length - i=d→i≤x10.2.2.1.length→v=(i:Int)→∀b,acc=W64 b →
 lD x1 x3 G a t k n x10 q acc v=some (W64 (b+tot (x10.2.2.1.drop i) k)):=by
 intro d
 induction d with
 | zero =>
  intro i v acc hd hi hv b hb
  rw[List.drop_of_length_le (by omega),oA,Int.add_zero,wA]
  repeat (first|refine ip0 ?_|refine jn0 ?_|refine el ?_|refine er ?_)
  rw[hb]
 | succ d ih =>
  intro i v acc hd hi hv b hb
  have hlt:i<x10.2.2.1.length:=by omega
  rw[List.drop_eq_getElem_cons hlt,oC,wA]
  by_cases hk:x10.2.2.1[i].1=k
  · rw[if_pos hk]
    repeat (first|refine ip0 ?_|refine jn0 ?_|refine(bnd (cU hv hlt)).trans ?_|refine el ?_|refine er ?_)
    rw[ih (i+1) (aL .i64 v 1) (aL .i64 acc x10.2.2.1[i].2) (by omega) (by omega) sd (b+x10.2.2.1[i].2) (by rw[hb];exact aL9 b _),Int.add_assoc]
  · rw[if_neg hk,Int.zero_add]
    repeat (first|refine ip0 ?_|refine jn0 ?_|refine(bnd (cU hv hlt)).trans ?_|refine el ?_|refine er ?_)
    exact ih (i+1) (aL .i64 v 1) acc (by omega) (by omega) sd b hb
theorem racc_ok {s:St} (W:Wf s) (hM:s.M.length≤1000) {p:Pt} {a t k n:Int} {A R:List (Int × Pt)} (hs:s.M=A++(t,p)::R) (hput:∀q,bH s.M t q=A++(t,q)::R) (hp:bD s.M t=some p) (ha:a=2∨a=3) (ht:0≤t∧t<1000) (hk:0≤k) :
 hZ s.L s.K s.M s.G (A.length:Int) a t k n=some ((aD0 s p a t k n).2.2.L,(aD0 s p a t k n).2.2.K,(aD0 s p a t k n).2.2.M,(aD0 s p a t k n).2.2.G,(aD0 s p a t k n).2.1,(aD0 s p a t k n).1):=by
 have hP:=W.pt t p hp
 have hpl:=hP.1.2.1
 have hkl:=W.kl
 have hpl':((t,p):Int × Pt).2.2.1.length≤1000:=by simp only;omega
 have g:s.M[tN (A.length:Int)]? = some (t,p):=by rw[qQ,hs];exact vV A R _
 have hi:inI (A.length:Int) s.M.length=true:=by rw[aEG,hs];simp;omega
 have hw:=aUX (L:=s.L) (G:=s.G) (A:=A) (R:=R) (t:=t) (p:=p) (K:=aA8 s.K t k true) (by rw[← hs];omega)
 rw[← hs] at hw
 unfold aD0
 by_cases h0:p.1=0
 rotate_left
 · rw[if_pos h0]
   rw[hZ]
   repeat (first|refine ip0 ?_|refine jn0 ?_|refine(bnd g).trans ?_|refine el ?_|refine er ?_)
   rfl
 rw[if_neg (fun h=>h h0)]
 by_cases h64:k<64
 rotate_left
 · rw[if_pos h64]
   rw[hZ]
   repeat (first|refine ip0 ?_|refine jn0 ?_|refine(bnd g).trans ?_|refine(bnd (take_f (w:=eqI a 3) (t:=t) W.lk.wf (by omega) (fun h=>h64 h.2.1)).2).trans ?_|refine el ?_|refine er ?_)
   rfl
 rw[if_neg (fun h=>h h64)]
 have hm:∀w:Bool,aHM (k,t,w):=fun w=>⟨h64,ht.1,ht.2⟩
 rcases ha with rfl | rfl
 · have e3:eqI (2:Int) 3=false:=by rfl
   rw[show decide ((2:Int)=3)=false from rfl]
   by_cases hc:aCM s.K k t false
   · rw[if_pos hc]
     rw[hZ,e3]
     repeat (first|refine ip0 ?_|refine jn0 ?_|refine(bnd g).trans ?_|refine(bnd (aQJ W.lk (by omega) (hm false) hc).2).trans ?_|refine el ?_|refine er ?_)
     rfl
   · rw[if_neg hc,if_neg (by decide)]
     have hl64:=Led.len W.led
     rw[hZ,e3]
     repeat (first|refine ip0 ?_|refine jn0 ?_|refine(bnd g).trans ?_|refine(bnd (v9 W.lk (by omega) hk (hm false) hc).2.1).trans ?_|refine(bnd (rget_ok (l:=s.L) (by omega) k)).trans ?_|refine(bnd (racc_l0 (x10:=(t,p)) hpl' _ 0 0 _ rfl (by omega) rfl (tot s.L k) (aRK W.led k))).trans ?_|refine el ?_|refine er ?_)
     rfl
 · have e3:eqI (3:Int) 3=true:=by rfl
   rw[show decide ((3:Int)=3)=true from rfl]
   by_cases hc:aCM s.K k t true
   · rw[if_pos hc]
     rw[hZ,e3]
     repeat (first|refine ip0 ?_|refine jn0 ?_|refine(bnd g).trans ?_|refine(bnd (aQJ W.lk (by omega) (hm true) hc).2).trans ?_|refine el ?_|refine er ?_)
     rfl
   · rw[if_neg hc,if_pos rfl]
     obtain⟨l',e,_,q1,q2⟩:=aWS (s:=p.1) (l:=p.2.1) (c:=p.2.2.1) (o:=p.2.2.2) (by omega) k n
     by_cases h5:p.2.1.length<50
     · rw[if_pos h5,hput]
       rcases q2 with⟨he,_,_,_,_,hl'⟩ | ⟨_,_,hn,_⟩
       rotate_left
       · exact absurd ⟨hP.1,h0,h64,h5⟩ hn
       subst he hl'
       rw[hZ,e3]
       repeat (first|refine ip0 ?_|refine jn0 ?_|refine(bnd g).trans ?_|refine(bnd (v9 W.lk (by omega) hk (hm true) hc).2.1).trans ?_|refine(bnd q1).trans ?_|refine(bnd (hw p.1 (p.2.1++[(k,n)]) p.2.2.1 p.2.2.2)).trans ?_|refine el ?_|refine er ?_)
       rfl
     · rw[if_neg h5]
       rcases q2 with⟨_,_,_,_,h5',_⟩ | ⟨_,_,_,he,_⟩
       · exact absurd h5' h5
       have he:=he hP.1 h0 h64
       subst he
       rw[hZ,e3]
       repeat (first|refine ip0 ?_|refine jn0 ?_|refine(bnd g).trans ?_|refine(bnd (v9 W.lk (by omega) hk (hm true) hc).2.1).trans ?_|refine(bnd q1).trans ?_|refine el ?_|refine er ?_)
       rfl
theorem aSN {s:Int} {l:Dl} {c:Bool} {o:Int} (hl:l.length≤1000) (hr:Rt s l c o):eX s l c o 0=some (s,l,c,o,[],2):=by
 have r2:=(aG3 hr).2
 rw[eX]
 repeat (first|refine ip0 ?_|refine jn0 ?_|refine(bnd r2).trans ?_|refine el ?_|refine er ?_)
 rfl
theorem rend_ok {s:St} (W:Wf s) (hM:s.M.length≤1000) {p:Pt} {a t k n:Int} {A R:List (Int × Pt)} (hs:s.M=A++(t,p)::R) (hput:∀q,bH s.M t q=A++(t,q)::R) (hp:bD s.M t=some p) (ha:a=4∨a=5∨a=6) (ht:0≤t∧t<1000) :
 gR s.L s.K s.M s.G (A.length:Int) a t k n=some ((aF0 s p a t n).2.L,(aF0 s p a t n).2.K,(aF0 s p a t n).2.M,(aF0 s p a t n).2.G,(aF0 s p a t n).1):=by
 have hP:=W.pt t p hp
 have hpl:=hP.1.2.1
 have hkl:=W.kl
 have g:s.M[tN (A.length:Int)]? = some (t,p):=by rw[qQ,hs];exact vV A R _
 have hi:inI (A.length:Int) s.M.length=true:=by rw[aEG,hs];simp;omega
 have hw:=aUX (L:=s.L) (K:=s.K) (G:=s.G) (A:=A) (R:=R) (t:=t) (p:=p) (by rw[← hs];omega)
 rw[← hs] at hw
 have hch0:∀M,iW s.L s.K M s.G t []=some (s.L,lO s.K t,M,s.G):=fun M=>by
  have:=aH6 W (M:=M) W.led (d:=[]) (fun x hx=>by cases hx) (by simp) t
  rwa [List.append_nil,Led.of W.led] at this
 unfold aF0
 rcases ha with rfl | rfl | rfl
 · rw[if_pos rfl]
   obtain⟨s',e,_,q1,q2⟩:=aR6 (s:=p.1) (l:=p.2.1) (c:=p.2.2.1) (o:=p.2.2.2) (by omega) (!eqI n 0)
   by_cases h0:p.1=0
   · rw[if_pos h0]
     rcases q2 with⟨he,_,_,hs'⟩ | ⟨_,_,hn,_⟩
     rotate_left
     · exact absurd ⟨hP.1,h0⟩ hn
     subst he
     by_cases hn:n=0
     · rw[if_pos hn,if_pos hn,hput]
       have hn2:eqI n 0=true:=cA.2 hn
       rw[hn2,if_neg (by simp)] at hs'
       subst hs'
       rw[gR]
       repeat (first|refine ip0 ?_|refine jn0 ?_|refine(bnd g).trans ?_|refine(bnd q1).trans ?_|refine(bnd (hw 2 p.2.1 p.2.2.1 p.2.2.2)).trans ?_|refine(bnd (hch0 _)).trans ?_|refine el ?_|refine er ?_)
       rfl
     · rw[if_neg hn,if_neg hn,hput]
       have hn2:eqI n 0=false:=eqf fun h=>hn (cA.1 h)
       rw[hn2,if_pos (by simp)] at hs'
       subst hs'
       rw[gR]
       repeat (first|refine ip0 ?_|refine jn0 ?_|refine(bnd g).trans ?_|refine(bnd q1).trans ?_|refine(bnd (hw 1 p.2.1 p.2.2.1 p.2.2.2)).trans ?_|refine el ?_|refine er ?_)
       rfl
   · rw[if_neg h0]
     rcases q2 with⟨_,_,h,_⟩ | ⟨_,_,_,he⟩
     · exact absurd h h0
     have he:=he hP.1
     subst he
     rw[gR]
     repeat (first|refine ip0 ?_|refine jn0 ?_|refine(bnd g).trans ?_|refine(bnd q1).trans ?_|refine el ?_|refine er ?_)
     rfl
 · rw[if_neg (by decide),if_pos rfl]
   obtain⟨c',d,e,q0,q1,q2⟩:=aH5 (s:=p.1) (l:=p.2.1) (c:=p.2.2.1) (o:=p.2.2.2) (by omega)
   have ee:errL p=e:=by unfold errL;rw[q0];rfl
   by_cases h1:p.1=1∧p.2.2.1=false
   · rw[if_pos h1,hput]
     rcases q2 with⟨he,_,_,_,hc',hd⟩ | ⟨_,_,_,hn⟩
     rotate_left
     · exact absurd ⟨hP.1,h1⟩ hn
     subst he hc' hd
     rw[gR]
     repeat (first|refine ip0 ?_|refine jn0 ?_|refine(bnd g).trans ?_|refine(bnd q1).trans ?_|refine(bnd (hw p.1 p.2.1 true p.2.2.2)).trans ?_|refine(bnd (aH6 W W.led hP.1.2.2.1 (by omega) t)).trans ?_|refine el ?_|refine er ?_)
     rfl
   · rw[if_neg h1,ee]
     rcases q2 with⟨_,_,a1,a2,_⟩ | ⟨he,_,_,_⟩
     · exact absurd ⟨a1,a2⟩ h1
     rw[gR]
     repeat (first|refine ip0 ?_|refine jn0 ?_|refine(bnd g).trans ?_|refine(bnd q1).trans ?_|refine el ?_|refine er ?_)
     rfl
 · rw[if_neg (by decide),if_neg (by decide)]
   by_cases hn:n=1∨n=2
   rotate_left
   · rw[if_neg hn]
     have hn1:n≠1:=fun h=>hn (.inl h)
     have hn2:n≠2:=fun h=>hn (.inr h)
     obtain⟨s',o',d,e,q0,q1,q2⟩:=aB4 (s:=p.1) (l:=p.2.1) (c:=p.2.2.1) (o:=p.2.2.2) (by omega) 0
     have he:e=2:=by
      have:=aSN (s:=p.1) (l:=p.2.1) (c:=p.2.2.1) (o:=p.2.2.2) (by omega) hP.1
      rw[q1] at this
      cases this;rfl
     subst he
     rw[gR]
     repeat (first|refine ip0 ?_|refine jn0 ?_|refine(bnd g).trans ?_|refine(bnd q1).trans ?_|refine el ?_|refine er ?_)
     rfl
   rw[if_pos hn]
   obtain⟨s',o',d,e,q0,q1,q2⟩:=aB4 (s:=p.1) (l:=p.2.1) (c:=p.2.2.1) (o:=p.2.2.2) (by omega) n
   have ee:errD p n=e:=by unfold errD;rw[q0];rfl
   by_cases h1:p.1≠3∧(n=1→p.1=1)
   · rw[if_pos h1,hput]
     rcases q2 with⟨he,_,_,_,_,hs',ho',hd⟩ | ⟨_,_,_,⟨_,_,h3,_⟩ | ⟨_,hne⟩⟩
     rotate_left
     · exact absurd h3 h1.1
     · exact absurd ⟨hP.1,hn,.inr h1⟩ hne
     subst he hs' ho'
     have hdd:L9.kY d∧d.length≤100000:=by
      rw[hd]
      unfold dec
      have hopp:L9.kY (tP p.2.1):=fun x hx=>by
       unfold tP at hx
       obtain⟨y,hy,rfl⟩:=List.mem_map.1 hx
       exact hP.1.2.2.1 y (List.mem_reverse.1 hy)
      have hol:=aKR p.2.1
      split<;>split
      · exact⟨fun x hx=>(by cases hx),by simp⟩
      · exact⟨hP.1.2.2.1,by omega⟩
      · exact⟨hopp,by omega⟩
      · exact⟨fun x hx=>(by cases hx),by simp⟩
     have hch:=fun M=>aH6 W (M:=M) W.led hdd.1 hdd.2 t
     rcases hn with rfl | rfl
     · rw[gR]
       repeat (first|refine ip0 ?_|refine jn0 ?_|refine(bnd g).trans ?_|refine(bnd q1).trans ?_|refine(bnd (hw 3 p.2.1 p.2.2.1 1)).trans ?_|refine(bnd (hch _)).trans ?_|refine el ?_|refine er ?_)
       rw[hd]
     · rw[gR]
       repeat (first|refine ip0 ?_|refine jn0 ?_|refine(bnd g).trans ?_|refine(bnd q1).trans ?_|refine(bnd (hw 3 p.2.1 p.2.2.1 2)).trans ?_|refine(bnd (hch _)).trans ?_|refine el ?_|refine er ?_)
       rw[hd]
   · rw[if_neg h1]
     by_cases h3:p.1=3∧p.2.2.2=n
     · rw[if_pos h3,hput]
       rcases q2 with⟨_,_,_,hx,hy,_⟩ | ⟨hs',ho',hd,⟨he,_⟩ | ⟨_,hne⟩⟩
       · exact absurd ⟨hx,hy⟩ h1
       rotate_left
       · exact absurd ⟨hP.1,hn,.inl h3.2⟩ hne
       subst hs' ho' hd he
       rcases hn with rfl | rfl
       · rw[gR]
         repeat (first|refine ip0 ?_|refine jn0 ?_|refine(bnd g).trans ?_|refine(bnd q1).trans ?_|refine(bnd (hw p.1 p.2.1 p.2.2.1 p.2.2.2)).trans ?_|refine(bnd (hch0 _)).trans ?_|refine el ?_|refine er ?_)
         rfl
       · rw[gR]
         repeat (first|refine ip0 ?_|refine jn0 ?_|refine(bnd g).trans ?_|refine(bnd q1).trans ?_|refine(bnd (hw p.1 p.2.1 p.2.2.1 p.2.2.2)).trans ?_|refine(bnd (hch0 _)).trans ?_|refine el ?_|refine er ?_)
         rfl
     · rw[if_neg h3,ee]
       rcases q2 with⟨_,_,_,hx,hy,_⟩ | ⟨hs',ho',hd,⟨_,_,hx,hy⟩ | ⟨he,_⟩⟩
       · exact absurd ⟨hx,hy⟩ h1
       · exact absurd ⟨hx,hy⟩ h3
       rcases hn with rfl | rfl
       · rw[gR]
         repeat (first|refine ip0 ?_|refine jn0 ?_|refine(bnd g).trans ?_|refine(bnd q1).trans ?_|refine el ?_|refine er ?_)
         rfl
       · rw[gR]
         repeat (first|refine ip0 ?_|refine jn0 ?_|refine(bnd g).trans ?_|refine(bnd q1).trans ?_|refine el ?_|refine er ?_)
         rfl
theorem rdo_ok {s:St} (W:Wf s) (hM:s.M.length≤1000) {r:Rec} (hr:aGE r):nS s.L s.K s.M s.G r.1 r.2.1 r.2.2.1 r.2.2.2=some ((doF s r).2.2.L,(doF s r).2.2.K,(doF s r).2.2.M,(doF s r).2.2.G,(doF s r).2.1,(doF s r).1):=by
 have hgl:=W.gl
 unfold doF
 by_cases hb:r.1<1∨6<r.1∨r.2.1<0∨1000≤r.2.1
 · rw[if_pos hb]
   have hs:gV s.L s.K s.M s.G r.1 r.2.1 r.2.2.1 r.2.2.2=some (s.L,s.K,s.M,s.G,0,2):=by
    rw[gV]
    by_cases h1:r.1<1
    · repeat (first|refine ip0 ?_|refine jn0 ?_|refine el ?_|refine er ?_)
      rfl
    by_cases h2:6<r.1
    · repeat (first|refine ip0 ?_|refine jn0 ?_|refine el ?_|refine er ?_)
      rfl
    by_cases h3:r.2.1<0
    · repeat (first|refine ip0 ?_|refine jn0 ?_|refine el ?_|refine er ?_)
      rfl
    · repeat (first|refine ip0 ?_|refine jn0 ?_|refine el ?_|refine er ?_)
      rfl
   rw[nS]
   repeat (first|refine ip0 ?_|refine jn0 ?_|refine(bnd hs).trans ?_|refine el ?_|refine er ?_)
   rfl
 rw[if_neg hb]
 have ht:0≤r.2.1∧r.2.1<1000:=by omega
 cases hg:bD s.M r.2.1 with
 | none =>
  have hf:=aX6 (L:=s.L) (K:=s.K) (G:=s.G) (by omega) hg
  simp only
  by_cases h1:r.1=1
  · rw[if_pos h1,aNT _ hg]
    have hs:gV s.L s.K s.M s.G r.1 r.2.1 r.2.2.1 r.2.2.2=some (s.L,s.K,s.M++[(r.2.1,(0,[],false,0))],s.G,0,0):=by
     rw[gV]
     repeat (first|refine ip0 ?_|refine jn0 ?_|refine(bnd hf).trans ?_|refine el ?_|refine er ?_)
     rfl
    rw[nS]
    repeat (first|refine ip0 ?_|refine jn0 ?_|refine(bnd hs).trans ?_|refine el ?_|refine er ?_)
    rfl
  · rw[if_neg h1]
    have hs:gV s.L s.K s.M s.G r.1 r.2.1 r.2.2.1 r.2.2.2=some (s.L,s.K,s.M,s.G,0,7):=by
     rw[gV]
     repeat (first|refine ip0 ?_|refine jn0 ?_|refine(bnd hf).trans ?_|refine el ?_|refine er ?_)
     rfl
    rw[nS]
    repeat (first|refine ip0 ?_|refine jn0 ?_|refine(bnd hs).trans ?_|refine el ?_|refine er ?_)
    rfl
 | some p =>
  obtain⟨A,R,hM1,hA,hput⟩:=aIF hg
  have hf:mY s.L s.K s.M s.G r.2.1=some (A.length:Int):=by
   have:=aXH (L:=s.L) (K:=s.K) (G:=s.G) (p:=p) (R:=R) (by rw[← hM1];omega) hA
   rwa [← hM1] at this
  simp only
  by_cases h1:r.1=1
  · rw[if_pos h1]
    have hs:gV s.L s.K s.M s.G r.1 r.2.1 r.2.2.1 r.2.2.2=some (s.L,s.K,s.M,s.G,0,8):=by
     rw[gV]
     repeat (first|refine ip0 ?_|refine jn0 ?_|refine(bnd hf).trans ?_|refine el ?_|refine er ?_)
     rfl
    rw[nS]
    repeat (first|refine ip0 ?_|refine jn0 ?_|refine(bnd hs).trans ?_|refine el ?_|refine er ?_)
    rfl
  rw[if_neg h1]
  have hs:gV s.L s.K s.M s.G r.1 r.2.1 r.2.2.1 r.2.2.2=some ((hH s p r).2.2.L,(hH s p r).2.2.K,(hH s p r).2.2.M,(hH s p r).2.2.G,(hH s p r).2.1,(hH s p r).1):=by
   unfold hH
   by_cases h23:r.1=2∨r.1=3
   · rw[if_pos h23]
     have ha:=racc_ok W hM (n:=r.2.2.2) hM1 hput hg h23 ht hr.1.1
     rw[gV]
     repeat (first|refine ip0 ?_|refine jn0 ?_|refine(bnd hf).trans ?_|refine(bnd ha).trans ?_|refine el ?_|refine er ?_)
     rfl
   · rw[if_neg h23]
     have ha:=rend_ok W hM (k:=r.2.2.1) (n:=r.2.2.2) hM1 hput hg (a:=r.1) (by omega) ht
     rw[gV]
     repeat (first|refine ip0 ?_|refine jn0 ?_|refine(bnd hf).trans ?_|refine(bnd ha).trans ?_|refine el ?_|refine er ?_)
     rfl
  by_cases he:(hH s p r).1=0
  · rw[if_pos he]
    rw[nS]
    repeat (first|refine ip0 ?_|refine jn0 ?_|refine(bnd hs).trans ?_|refine el ?_|refine er ?_)
    rfl
  · rw[if_neg he]
    rw[nS]
    repeat (first|refine ip0 ?_|refine jn0 ?_|refine(bnd hs).trans ?_|refine el ?_|refine er ?_)
    rfl
section
variable {s:St} {n:Nat} (I:Inv s n) (hn:n≤1000) (hM:s.M.length≤1000)
include I hn hM
end
theorem aWV {V:Type}:∀(l:List (Int × V)) (t:Int) (x:V),(bH l t x).length≤l.length+1
 | [],t,x=>by simp [bH]
 | (k,v)::l,t,x=>by
  unfold bH
  split
  · simp
  · have:=aWV l t x
    simp only[List.length_cons]
    omega
theorem Step.len {s:St} {r:Rec} {q:Res} (h:Step s r q):q.2.2.M.length≤s.M.length+1:=by
 cases h with
 | err r e he=>exact Nat.le_succ _
 | read=>exact Nat.le_succ _
 | _=>exact aWV _ _ _
end Go.Ws.L10
