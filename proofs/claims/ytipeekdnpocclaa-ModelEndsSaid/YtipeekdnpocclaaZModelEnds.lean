/-
  ModelEnds, plainly.
  Conditions: none.
-/
import Derived.Test.YtipeekdnpocclaaZModelS
set_option linter.unusedVariables false
set_option linter.unusedSimpArgs false
namespace Go.Ws.L10
open L7 L8 L9
set_option linter.unusedVariables false
set_option linter.unusedSimpArgs false
set_option maxHeartbeats 1000000
theorem play_l0 {x1:List Rec} (hx:xZ x1) (hl:x1.length≤100):∀(d i:Nat) (v:Int) (s:St),x1.length - i=d→i≤x1.length→v=(i:Int)→Inv s i→Rp s→Lg s→∃s',jA x1 v s.L s.K s.M s.G=some (s'.L,s'.K,s'.M,s'.G)∧Inv s' 100∧Rp s'∧Lg s':=by
 intro d
 induction d with
 | zero =>
  intro i v s hd hi hv I R G
  refine⟨s,?_,I.le (by omega),R,G⟩
  rw[qB]
  repeat (first|refine ip0 ?_|refine jn0 ?_|refine el ?_|refine er ?_)
  rfl
 | succ d ih =>
  intro i v s hd hi hv I R G
  have hlx:i<x1.length:=by omega
  have hr:=hx.2 _ (List.getElem_mem hlx)
  obtain⟨q1,q2,q3⟩:=aK1 I (by omega) hr
  obtain⟨s',r1,r2⟩:=ih (i+1) (aH .i64 v 1) (doF s x1[i]).2.2 (by omega) (by omega) sd q2 (R.step hr q3) (G.step I q3)
  refine⟨s',?_,r2⟩
  rw[qB]
  repeat (first|refine ip0 ?_|refine jn0 ?_|refine(bnd (eJ hv hlx)).trans ?_|refine(bnd q1).trans ?_|refine el ?_|refine er ?_)
  exact r1
theorem lsame_l0 {x:List (Int × Int)} (hl:x.length≤100000):∀(d i:Nat) (v:Int),v=(i:Int)→x.length - i=d→i≤x.length→nA x x v=some (.inl ()):=by
 intro d
 induction d with
 | zero =>
  intro i v hv hd hi
  rw[uB]
  repeat (first|refine ip0 ?_|refine jn0 ?_|refine el ?_|refine er ?_)
  rfl
 | succ d ih =>
  intro i v hv hd hi
  have hlt:i<x.length:=by omega
  rw[uB]
  repeat (first|refine ip (by first|with_reducible rfl | assumption | (simp (disch:=omega) only[ws,wl,wb,qL]<;>omega)|omega) ?_|refine jn (by first|with_reducible rfl | assumption | (simp (disch:=omega) only[ws,wl,wb,qL]<;>omega)|omega) ?_|refine(bnd (eJ hv hlt)).trans ?_|refine el ?_|refine er ?_)
  exact ih (i+1) _ sd (by omega) (by omega)
theorem lsame_ok {x:List (Int × Int)} (hl:x.length≤100000):q7 x x=some true:=by
 rw[q7]
 repeat (first|refine ip (by first|with_reducible rfl | assumption | (simp (disch:=omega) only[ws,wl,wb,qL]<;>omega)|omega) ?_|refine jn (by first|with_reducible rfl | assumption | (simp (disch:=omega) only[ws,wl,wb,qL]<;>omega)|omega) ?_|refine(bnd (lsame_l0 hl _ 0 0 rfl rfl (by omega))).trans ?_|refine el ?_|refine er ?_)
 rfl
theorem aQX {s:St} {t k:Int} {p:Pt} (t0:0≤t) (t1:t<1000) (hg:bC s.M t=some p) (h0:p.1≠3):doF s (6,t,k,2)=(0,0,⟨ofL (s.L++dec p.2.1 p.2.2.1 2),jZ s.K t,aR s.M t (3,p.2.1,p.2.2.1,2),s.G++[(6,t,k,2)]⟩):=by
 have e:gQ s p (6,t,k,2)=(0,0,⟨ofL (s.L++dec p.2.1 p.2.2.1 2),jZ s.K t,aR s.M t (3,p.2.1,p.2.2.1,2),s.G⟩):=by
  unfold gQ
  rw[if_neg (by simp)]
  unfold endF
  dsimp only
  rw[if_neg (by decide),if_neg (by decide),if_pos (.inr rfl),if_pos ⟨h0,fun h=>by omega⟩]
 unfold doF
 simp only
 rw[if_neg (by omega),hg]
 simp only
 rw[if_neg (by decide),e,if_pos rfl]
structure Aft (s0 s:St):Prop where
 led:∀c,rR c s.G=rR c s0.G
 out:∀t,isO (kK [] s.G) t 1=isO (kK [] s0.G) t 1
 keys:∀t p,bC s.M t=some p→∃p0,bC s0.M t=some p0
 has:∀t p0,bC s0.M t=some p0→∃p,bC s.M t=some p
theorem Aft.same {s0 s:St} (h:Aft s0 s):aAZ s.G=aAZ s0.G:=by
 unfold aAZ
 rw[h.led]
 exact aN2 fun r _=>h.out _
theorem Aft.abort {s0 s:St} (A:Aft s0 s) (G:Lg s) {t k:Int} {p:Pt} {L:Dl} {K:List Ho} (hg:bC s.M t=some p) (h0:p.1≠3):Aft s0 ⟨L,K,aR s.M t (3,p.2.1,p.2.2.1,2),s.G++[(6,t,k,2)]⟩:=by
 refine⟨fun c=>?_,fun u=>?_,fun u q hq=>?_,fun u q hq=>aO4 (A.has u q hq)⟩
 · show rR c (s.G++[(6,t,k,2)])=_
   rw[sL,sY,if_neg (by simp),List.append_nil];exact A.led c
 · show isO (kK [] (s.G++[(6,t,k,2)])) u 1=_
   rw[sR,if_pos rfl,← A.out u]
   show isO (aR (kK [] s.G) t 2) u 1=isO (kK [] s.G) u 1
   have hm:bC (aR (kK [] s.G) t 2) u=if u=t then some 2 else bC (kK [] s.G) u:=cX _ _ _ _
   by_cases e:u=t
   · have hn:bC (kK [] s.G) u=none:=by rw[e,G.out t p hg,if_neg h0]
     rw[isO_f hn,isO_t (show bC (aR (kK [] s.G) t 2) u=some 2 by rw[hm,if_pos e])];rfl
   · unfold isO;rw[hm,if_neg e]
 · have hq':bC (aR s.M t (3,p.2.1,p.2.2.1,2)) u=some q:=hq
   rw[cX] at hq'
   split at hq'
   · rename_i e;rw[e];exact A.keys t p hg
   · exact A.keys u q hq'
theorem ends_l1 {s0:St} {N:Nat} (I0:Inv s0 N) (hN:N≤100) (G0:Lg s0) (x6:Dl × Int):∀(d i:Nat) (v:Int) (s:St),s0.G.length - i=d→i≤s0.G.length→v=(i:Int)→Inv s (100+i)→Rp s→Lg s→Aft s0 s→(∀j (hj:j<s0.G.length),j<i→∀p,bC s.M s0.G[j].2.1=some p→p.1=3) →
 ∃s',g5 (s0.L,s0.K,s0.M,s0.G) x6 v s.L s.K s.M s.G=some (.inl (s'.L,s'.K,s'.M,s'.G))∧Inv s' 200∧Rp s'∧Lg s'∧Aft s0 s'∧∀t p,bC s'.M t=some p→p.1=3:=by
 have hgl:=I0.gl
 intro d
 induction d with
 | zero =>
  intro i v s hd hi hv I R G A hdone
  refine⟨s,?_,I.le (by omega),R,G,A,fun t p hp=>?_⟩
  · rw[l8]
    repeat (first|refine ip0 ?_|refine jn0 ?_|refine el ?_|refine er ?_)
    rfl
  · obtain⟨p0,hp0⟩:=A.keys t p hp
    obtain⟨r,hr,e⟩:=G0.bgn t p0 hp0
    obtain⟨j,hj⟩:=List.mem_iff_getElem.1 hr
    obtain⟨hj1,hj2⟩:=hj
    exact hdone j hj1 (by omega) p (by rw[hj2,e];exact hp)
 | succ d ih =>
  intro i v s hd hi hv I R G A hdone
  have hlt:i<s0.G.length:=by omega
  obtain⟨p0,hp0⟩:=G0.has _ (List.getElem_mem hlt)
  obtain⟨p,hg⟩:=A.has _ _ hp0
  have hp:=part_ok I s0.G[i].2.1
  rw[hg] at hp
  by_cases h3:p.1=3
  · obtain⟨s',r1,r2⟩:=ih (i+1) (aH .i64 v 1) s (by omega) (by omega) sd (I.le (by omega)) R G A (fun j hj hji q hq=>by
     rcases Nat.lt_or_ge j i with h | h
     · exact hdone j hj h q hq
     · have:j=i:=by omega
       subst this
       rw[hg] at hq;cases hq;exact h3)
    refine⟨s',?_,r2⟩
    rw[l8]
    repeat (first|refine ip0 ?_|refine jn0 ?_|refine(bnd (eJ hv hlt)).trans ?_|refine(bnd hp).trans ?_|refine el ?_|refine er ?_)
    exact r1
  · obtain⟨_,t0,t1⟩:=I.pt _ _ hg
    have hr:aCA (6,s0.G[i].2.1,0,2):=recOk (by decide) (by decide)
    obtain⟨q1,q2,q3⟩:=aK1 I (by omega) hr
    have hR:=R.step hr q3
    have hG:=G.step I q3
    have hA:=A.abort G (k:=0) (L:=ofL (s.L++dec p.2.1 p.2.2.1 2)) (K:=jZ s.K s0.G[i].2.1) hg h3
    rw[aQX t0 t1 hg h3] at q1 q2 hR hG
    simp only at q1
    obtain⟨s',r1,r2⟩:=ih (i+1) (aH .i64 v 1) ⟨ofL (s.L++dec p.2.1 p.2.2.1 2),jZ s.K s0.G[i].2.1,aR s.M s0.G[i].2.1 (3,p.2.1,p.2.2.1,2),s.G++[(6,s0.G[i].2.1,0,2)]⟩ (by omega) (by omega) sd (q2.le (by omega)) hR hG hA (fun j hj hji q hq=>by
     have hq':bC (aR s.M s0.G[i].2.1 (3,p.2.1,p.2.2.1,2)) s0.G[j].2.1=some q:=hq
     rw[cX] at hq'
     split at hq'
     · cases hq';rfl
     · rename_i hne
       rcases Nat.lt_or_ge j i with h | h
       · exact hdone j hj h q hq'
       · have:j=i:=by omega
         subst this
         exact absurd rfl hne)
    refine⟨s',?_,r2⟩
    rw[l8,P_do4]
    repeat (first|refine ip0 ?_|refine jn0 ?_|refine(bnd (eJ hv hlt)).trans ?_|refine(bnd hp).trans ?_|refine(bnd q1).trans ?_|refine el ?_|refine er ?_)
    exact r1
theorem ends_l2 {s:St} {N:Nat} (I:Inv s N) (G:Lg s) (hd:∀t p,bC s.M t=some p→p.1=3) {g:Dl} (hgg:aAZ s.G=g) (x11:Dl × Int):∀(d i:Nat) (v:Int),64 - i=d→i≤64→v=(i:Int)→i9 (ofL g,0) (s.L,s.K,s.M,s.G) x11 v=some (.inl ()):=by
 have hl:=Led.len I.led
 have hl2:=aJE g
 intro d
 induction d with
 | zero =>
  intro i v hd hi hv
  rw[qI]
  repeat (first|refine ip0 ?_|refine jn0 ?_|refine el ?_|refine er ?_)
  rfl
 | succ d ih =>
  intro i v hdd hi hv
  have hi8:aH .u8 v 1=((i+1:Nat):Int):=by rw[iadd8 (by omega)];omega
  have r1:=ih (i+1) _ (by omega) (by omega) hi8
  have hs:=sum_done I G hd (k:=v) (by omega) (by omega)
  rw[hgg] at hs
  have g1:m9 v s.L s.K s.M s.G=some (aA4 (ofL g) v):=by
   rw[m9,← hs]
   repeat (first|refine ip0 ?_|refine jn0 ?_|refine(bnd (get_ok (l:=s.L) (by omega) v)).trans ?_|refine el ?_|refine er ?_)
   rfl
  rw[qI]
  repeat (first|refine ip (by first|with_reducible rfl | assumption | (simp (disch:=omega) only[ws,wl,wb,qL]<;>omega)|omega) ?_|refine jn (by first|with_reducible rfl | assumption | (simp (disch:=omega) only[ws,wl,wb,qL]<;>omega)|omega) ?_|refine(bnd g1).trans ?_|refine(bnd (rget_ok (l:=ofL g) (by omega) v)).trans ?_|refine el ?_|refine er ?_)
  exact r1
theorem aO1 {s:St} {n:Nat} (I:Inv s n) (hn:n≤1000):jL s.L s.K s.M s.G=some ():=by
 have:=I.gl
 rw[jL]
 repeat (first|refine ip0 ?_|refine jn0 ?_|refine(bnd (hZ s.G (by omega))).trans ?_|refine el ?_|refine er ?_)
 rfl
theorem aOL (y0:List Rec) (w0:w_t22 y0):lA y0=some true:=by
 have hx:=recs_of w0
 have hml:=hx.1
 unfold maxLen at hml
 by_cases hl:y0.length≤100
 rotate_left
 · rw[lA]
   repeat (first|refine ip0 ?_|refine jn0 ?_|refine(bnd aME).trans ?_|refine el ?_|refine er ?_)
   rfl
 obtain⟨s,h1,I,R,G⟩:=play_l0 hx hl _ 0 0 ⟨[],[],[],[]⟩ rfl (by omega) rfl aK7 rp_nil lg_nil
 have hgl:=I.gl
 have hxs:xZ s.G:=⟨by unfold maxLen;omega,R.recs⟩
 have h2:=aHE hxs (by omega) G.key R.ok
 obtain⟨s',h3,I',R',G',A',hd'⟩:=ends_l1 I (by omega) G (ofL (aAZ s.G),0) _ 0 0 s rfl (by omega) rfl (I.le (by omega)) R G ⟨fun _=>rfl,fun _=>rfl,fun t p h=>⟨p,h⟩,fun t p h=>⟨p,h⟩⟩ (fun j hj h=>absurd h (Nat.not_lt_zero j))
 have hgl':=I'.gl
 have hxs':xZ s'.G:=⟨by unfold maxLen;omega,R'.recs⟩
 have h4:=aHE hxs' (by omega) G'.key R'.ok
 rw[A'.same] at h4
 have h5:=ends_l2 I' G' hd' A'.same (ofL (aAZ s.G),0) _ 0 0 rfl (by omega) rfl
 have hl2:=aJE (aAZ s.G)
 have h6:=lsame_ok (x:=ofL (aAZ s.G)) (by omega)
 rw[lA]
 repeat (first|refine ip0 ?_|refine jn0 ?_|refine(bnd aME).trans ?_|refine(bnd h1).trans ?_|refine(bnd (log_ok I (by omega))).trans ?_|refine(bnd h2).trans ?_|refine(bnd (aO1 I (by omega))).trans ?_|refine(bnd h3).trans ?_|refine(bnd (aO1 I' (by omega))).trans ?_|refine(bnd h4).trans ?_|refine(bnd h5).trans ?_|refine(bnd h6).trans ?_|refine el ?_|refine er ?_)
 rfl
end Go.Ws.L10
