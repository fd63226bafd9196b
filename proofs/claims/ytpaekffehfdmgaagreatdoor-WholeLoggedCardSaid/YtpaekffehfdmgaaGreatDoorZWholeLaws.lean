/-
  WholeLogged, plainly.
  Conditions: none.
-/
import Derived.Test.YtpaekffehfdmgaaGreatDoorZSiteRep
import Derived.Test.YtpaekffehfdmgaaGreatDoorZDisk
import Derived.Test.YtpaekffehfdmgaaGreatDoorZCode
import Derived.Test.YtpaekffehfdmgaaGreatDoorZWf
set_option linter.unusedVariables false
set_option linter.unusedSimpArgs false
namespace Go.Ws.L10
open L7 L8 L9 L99
set_option linter.unusedVariables false
set_option linter.unusedSimpArgs false
set_option maxHeartbeats 1000000
theorem works_ok:q9=some true:=aGJ.le 80 true (by kernel_rfl)
def aHQ (r:Rec):List Int:=enc r.1 r.2.1 r.2.2.1 r.2.2.2
def Rc (r:Rec):Prop:=(0≤r.1∧r.1<256)∧(0≤r.2.1∧r.2.1<65536)∧(0≤r.2.2.1∧r.2.2.1<256)∧(-9223372036854775808≤r.2.2.2∧r.2.2.2≤9223372036854775807)
theorem aMF (G:List Rec):good (G.map aHQ):=fun x hx=>by
 obtain⟨r,_,rfl⟩:=List.mem_map.1 hx
 exact⟨aL3 _ _ _ _,by rw[show (aHQ r).length=12 from rfl];omega⟩
theorem aG2:∀(G:List Rec),(cat (G.map aHQ)).length=19*G.length
 | []=>rfl
 | r::G=>by
  rw[List.map_cons,cat,List.length_append,wF,aG2 G,show (aHQ r).length=12 from rfl,List.length_cons]
  omega
theorem iand3 (n:Int):0≤aA3 .i64 n 3∧aA3 .i64 n 3≤3:=by
 have h:(BitVec.ofInt 64 n &&& BitVec.ofInt 64 3).toNat≤3:=by
  rw[BitVec.toNat_and]
  exact Nat.and_le_right
 have e:aA3 .i64 n 3=((BitVec.ofInt 64 n &&& BitVec.ofInt 64 3).toNat:Int):=wrap64 (by
  show -9223372036854775808≤((BitVec.ofInt 64 n &&& BitVec.ofInt 64 3).toNat:Int)∧((BitVec.ofInt 64 n &&& BitVec.ofInt 64 3).toNat:Int)≤9223372036854775807
  omega)
 rw[e];omega
structure Dsk (s:St) (i m:Nat) (b:List Int) (sy:Int):Prop where
 inv:Inv s i
 rp:Rp s
 gl:s.G.length≤i
 rc:∀r∈s.G,Rc r
 ml:m≤s.G.length
 hb:b=cat (s.G.map aHQ)
 hs:sy=((cat ((s.G.map aHQ).take m)).length:Int)
theorem aGT {G:List Rec} {m:Nat} (h:m≤G.length):(cat ((G.map aHQ).take m)).length=19*m:=by
 rw[← List.map_take,aG2,List.length_take,Nat.min_eq_left h]
theorem Dsk.dk {s:St} {i m:Nat} {b:List Int} {sy:Int} (D:Dsk s i m b sy) (h:i≤100):Dk b sy 1048576:=by
 have h1:=D.gl
 have h2:=D.ml
 have hl:b.length=19*s.G.length:=by rw[D.hb,aG2]
 have hs:sy=((19*m:Nat):Int):=by rw[D.hs,aGT h2]
 exact⟨by rw[D.hb];exact aHI (aMF _),by omega,by omega,by omega,by omega,by omega⟩
theorem Dsk.more {s s':St} {i m:Nat} {b:List Int} {sy:Int} {r:Rec} (D:Dsk s i m b sy) (I:Inv s' (i+1)) (R:Rp s') (hg:s'.G=s.G++[r]) (hr:Rc r):Dsk s' (i+1) m (b++fr (aHQ r)) sy:=by
 have h1:=D.gl
 have h2:=D.ml
 refine⟨I,R,by rw[hg,List.length_append];simp;omega,fun x hx=>?_,by rw[hg,List.length_append];omega,?_,?_⟩
 · rw[hg] at hx
   rcases List.mem_append.1 hx with hx | hx
   · exact D.rc x hx
   · rcases List.mem_singleton.1 hx with rfl;exact hr
 · rw[hg,List.map_append,aJH,← D.hb];simp [cat]
 · rw[hg,List.map_append,List.take_append_of_le_length (by rw[List.length_map];exact h2)];exact D.hs
theorem Dsk.syn {s:St} {i m:Nat} {b:List Int} {sy:Int} (D:Dsk s i m b sy):Dsk s i s.G.length b (b.length:Int) :=
 ⟨D.inv,D.rp,D.gl,D.rc,Nat.le_refl _,D.hb,by rw[List.take_of_length_le (by rw[List.length_map];exact Nat.le_refl _),← D.hb]⟩
theorem Dsk.same {s:St} {i m:Nat} {b:List Int} {sy:Int} (D:Dsk s i m b sy):Dsk s (i+1) m b sy:=⟨D.inv.le (by omega),D.rp,by have:=D.gl;omega,D.rc,D.ml,D.hb,D.hs⟩
def aHR (m:Nat) (s:St) (b:List Int) (sy:Int):Int × Dl × List Ho × List Int × Int × Int × List (Int × Pt) × List Rec:=((m:Int),s.L,s.K,b,sy,1048576,s.M,s.G)
theorem aU0 {x1:List (Int × Int × Int × Int × Bool)} {x2:Int} (hx:∀y∈x1,w_t31 y) (h60:x1.length≤60):∀(d i:Nat) (v1 v2 v3:Int) (s:St) (m:Nat) (b:List Int) (sy:Int),x1.length - i=d→i≤x1.length→v1=(s.G.length:Int)→v2=(m:Int)→v3=(i:Int)→Dsk s i m b sy →
 ∃s' m' b' sy',bD x1 x2 v1 v2 v3 s.L s.K b sy 1048576 s.M s.G=some (.inl (aHR m' s' b' sy'))∧Dsk s' x1.length m' b' sy':=by
 intro d
 induction d with
 | zero =>
  intro i v1 v2 v3 s m b sy hd hi h1 h2 h3 D
  obtain rfl:i=x1.length:=by omega
  refine⟨s,m,b,sy,?_,D⟩
  rw[rI]
  repeat (first|refine ip0 ?_|refine jn0 ?_|refine el ?_|refine er ?_)
  rw[h2];rfl
 | succ d ih =>
  intro i v1 v2 v3 s m b sy hd hi h1 h2 h3 D
  have hlt:i<x1.length:=by omega
  have hw:=hx _ (List.getElem_mem hlt)
  have hgi:=kG h3 hlt
  generalize x1[i]=c at hw hgi
  obtain⟨c1,c2,c3,c4,c5⟩:=c
  obtain⟨⟨a0,a1⟩,⟨t0,t1⟩,⟨k0,k1⟩,⟨n0,n1⟩,_⟩:=hw
  simp only at a0 a1 t0 t1 k0 k1 n0 n1
  have e1:conv .i64 (gK .u8 c1 8)=c1 % 8:=by rw[aBG a0,xY (by omega)]
  have e2:conv .i64 (gK .u8 c2 4)=c2 % 4:=by rw[aBG t0,xY (by omega)]
  have e3:gK .u8 c3 4=c3 % 4:=aBG k0
  have h4:=iand3 c4
  have hgl:=D.gl
  have key:∀n:Int,-9223372036854775808≤n∧n≤9223372036854775807→∃s' m' b' sy',(bR (c1 % 8) (c2 % 4) (c3 % 4) n s.L s.K s.M s.G).bind (fun aF=>(if eqI aF.1 0=true then ((k7 (c1 % 8) (c2 % 4) (c3 % 4) n).bind fun dX=>((jB b sy 1048576 dX.1).bind fun aR=>(if eqI dX.2 0=true then (if eqI aR.2.2.2 0=true then (if c5=true then ((j6 aR.1 aR.2.1 aR.2.2.1).bind fun cJ=>(bD x1 x2 (aH .i64 v1 1) (aH .i64 v1 1) (aH .i64 v3 1) aF.2.2.1 aF.2.2.2.1 cJ.1 cJ.2.1 cJ.2.2 aF.2.2.2.2.1 aF.2.2.2.2.2)) else (bD x1 x2 (aH .i64 v1 1) v2 (aH .i64 v3 1) aF.2.2.1 aF.2.2.2.1 aR.1 aR.2.1 aR.2.2.1 aF.2.2.2.2.1 aF.2.2.2.2.2)) else (some (.inr false))) else (some (.inr false))))) else (bD x1 x2 v1 v2 (aH .i64 v3 1) aF.2.2.1 aF.2.2.2.1 b sy 1048576 aF.2.2.2.2.1 aF.2.2.2.2.2)))=some (.inl (aHR m' s' b' sy'))∧Dsk s' x1.length m' b' sy':=by
   intro n hn
   have hR:aD4 (c1 % 8,c2 % 4,c3 % 4,n):=⟨⟨by simp only;omega,by simp only;omega⟩,hn⟩
   have hC:Rc (c1 % 8,c2 % 4,c3 % 4,n):=⟨⟨by simp only;omega,by simp only;omega⟩,⟨by simp only;omega,by simp only;omega⟩,⟨by simp only;omega,by simp only;omega⟩,hn⟩
   obtain⟨q1,q2,q3⟩:=aTE D.inv (by omega) hR
   have R':=D.rp.step hR q3
   have hlog:=q3.log
   simp only at q1
   generalize hq:doF s (c1 % 8,c2 % 4,c3 % 4,n)=q at q1 q2 R' hlog
   rcases hlog with⟨z,hg⟩ | ⟨z,hz⟩
   · have hbs:=bytes_ok (a:=c1 % 8) (t:=c2 % 4) (k:=c3 % 4) (n:=n) (by omega) (by omega) (by omega) hn
     have K:=D.dk (by omega)
     have hbl:b.length=19*s.G.length:=by rw[D.hb,aG2]
     have hel:=aT2 (c1 % 8) (c2 % 4) (c3 % 4) n
     have hap:=(aU8 K (aL3 (c1 % 8) (c2 % 4) (c3 % 4) n) (by omega) (by omega)).1
     have D':=D.more q2 R' hg hC
     have hgl':(q.2.2.G.length:Int)=s.G.length+1:=by rw[hg,List.length_append];simp
     by_cases h5:c5=true
     · have D2:=D'.syn
       have hsy:=aSX (D'.dk (by omega))
       obtain⟨s',m',b',sy',p1,p2⟩:=ih (i+1) (aH .i64 v1 1) (aH .i64 v1 1) (aH .i64 v3 1) q.2.2 q.2.2.G.length _ _ (by omega) (by omega) (by rw[hgl',h1,qW (by omega)]) (by rw[hgl',h1,qW (by omega)]) sd D2
       refine⟨s',m',b',sy',?_,p2⟩
       repeat (first|refine ip0 ?_|refine jn0 ?_|refine(bnd q1).trans ?_|refine(bnd hbs).trans ?_|refine(bnd hap).trans ?_|refine(bnd hsy).trans ?_|refine el ?_|refine er ?_)
       exact p1
     · obtain⟨s',m',b',sy',p1,p2⟩:=ih (i+1) (aH .i64 v1 1) v2 (aH .i64 v3 1) q.2.2 m _ _ (by omega) (by omega) (by rw[hgl',h1,qW (by omega)]) h2 sd D'
       refine⟨s',m',b',sy',?_,p2⟩
       repeat (first|refine ip0 ?_|refine jn0 ?_|refine(bnd q1).trans ?_|refine(bnd hbs).trans ?_|refine(bnd hap).trans ?_|refine el ?_|refine er ?_)
       exact p1
   · have hs:q.2.2=s:=by rw[hz]
     obtain⟨s',m',b',sy',p1,p2⟩:=ih (i+1) v1 v2 (aH .i64 v3 1) q.2.2 m b sy (by omega) (by omega) (by rw[hs];exact h1) h2 sd (by rw[hs];exact D.same)
     refine⟨s',m',b',sy',?_,p2⟩
     repeat (first|refine ip0 ?_|refine jn0 ?_|refine(bnd q1).trans ?_|refine el ?_|refine er ?_)
     exact p1
  rw[rI]
  by_cases hk4:c1 % 8=4
  · obtain⟨s',m',b',sy',p1,p2⟩:=key (aA3 .i64 c4 3) (by omega)
    refine⟨s',m',b',sy',?_,p2⟩
    refine ip0 ?_
    refine ip0 ?_
    refine(bnd hgi).trans ?_
    simp only[e1,e2,e3]
    refine ip0 ?_
    exact p1
  by_cases hk6:c1 % 8=6
  · obtain⟨s',m',b',sy',p1,p2⟩:=key (aA3 .i64 c4 3) (by omega)
    refine⟨s',m',b',sy',?_,p2⟩
    refine ip0 ?_
    refine ip0 ?_
    refine(bnd hgi).trans ?_
    simp only[e1,e2,e3]
    refine jn0 ?_
    refine ip0 ?_
    exact p1
  · obtain⟨s',m',b',sy',p1,p2⟩:=key c4 ⟨n0,n1⟩
    refine⟨s',m',b',sy',?_,p2⟩
    refine ip0 ?_
    refine ip0 ?_
    refine(bnd hgi).trans ?_
    simp only[e1,e2,e3]
    refine jn0 ?_
    refine jn0 ?_
    exact p1
theorem aUV {x5:Int × Dl × List Ho × List Int × Int × Int × List (Int × Pt) × List Rec} {H:List Rec} {z:Int} (hH:∀r∈H,Rc r) (hl:H.length≤1000):∀(d i:Nat) (v:Int) (o:List Rec),H.length - i=d→i≤H.length→v=(i:Int)→o=H.take i→jD x5 (H.map aHQ,z) v o=some (.inl H):=by
 intro d
 induction d with
 | zero =>
  intro i v o hd hi hv ho
  rw[qY]
  repeat (first|refine ip (by first|with_reducible rfl | assumption | (simp (disch:=omega) only[ws,wl,wb,List.length_map]<;>omega)|omega) ?_|refine jn (by first|with_reducible rfl | assumption | (simp (disch:=omega) only[ws,wl,wb,List.length_map]<;>omega)|omega) ?_|refine el ?_|refine er ?_)
  rw[ho,List.take_of_length_le (by omega)]
 | succ d ih =>
  intro i v o hd hi hv ho
  have hlt:i<H.length:=by omega
  have hol:o.length=i:=by rw[ho,List.length_take];omega
  obtain⟨a,t,k,n⟩:=hH _ (List.getElem_mem hlt)
  have hr:=aVN a t k n
  have hg:(H.map aHQ)[i]? = some (enc H[i].1 H[i].2.1 H[i].2.2.1 H[i].2.2.2):=by rw[List.getElem?_map,List.getElem?_eq_getElem hlt];rfl
  have ih:=ih (i+1) (aH .i64 v 1) (o++[(H[i].1,H[i].2.1,H[i].2.2.1,H[i].2.2.2)]) (by omega) (by omega) sd (by rw[ho,List.take_add_one,List.getElem?_eq_getElem hlt];rfl)
  rw[qY]
  repeat (first|refine ip (by first|with_reducible rfl | assumption | (simp (disch:=omega) only[ws,wl,wb,List.length_map,hol,List.length_append,List.length_cons,List.length_nil]<;>omega)|omega) ?_|refine jn (by first|with_reducible rfl | assumption | (simp (disch:=omega) only[ws,wl,wb,List.length_map,hol,List.length_append,List.length_cons,List.length_nil]<;>omega)|omega) ?_|refine(bnd (getn hv hg)).trans ?_|refine(bnd hr).trans ?_|refine el ?_|refine er ?_)
  exact ih
theorem aPU:∀(l:List Rec) (s:St) (n:Nat),Inv s n→n+l.length≤900→(∀r∈l,aD4 r)→okF s l=true→Inv (aAF s l) (n+l.length)∧(aAF s l).G=s.G++l
 | [],s,n,I,hn,hr,ho=>⟨I,by simp [aAF]⟩
 | r::l,s,n,I,hn,hr,ho=>by
  simp only[List.length_cons] at hn
  have h0:=hr r (by simp)
  simp only[okF,Bool.and_eq_true] at ho
  have hst:=aOA I (by omega) h0
  obtain⟨r1,r2⟩:=aPU l (doF s r).2.2 (n+1) (aPS I (by omega) h0) (by omega) (fun x hx=>hr x (by simp [hx])) ho.2
  have hz:(doF s r).1=0:=jK.1 ho.1
  rcases hst.log with⟨_,hg⟩ | ⟨h,_⟩
  · simp only[List.length_cons,aAF]
    rw[show n+(l.length+1)=n+1+l.length by omega]
    exact⟨r1,by rw[r2,hg];simp⟩
  · exact absurd hz h
theorem aT6 {s:St} {n:Nat} (I:Inv s n) (k:Int):fN k s.L s.K s.M s.G=some (aHD s.L k):=by
 have:=I.led.len
 rw[fN]
 repeat (first|refine ip0 ?_|refine jn0 ?_|refine(bnd (get_ok (l:=s.L) (by omega) k)).trans ?_)
 rfl
theorem aVH {x5:Int × Dl × List Ho × List Int × Int × Int × List (Int × Pt) × List Rec} {x9:List Rec} {s t:St} {n p:Nat} (I:Inv s n) (J:Inv t p) (h5:x5.2.1=s.L∧x5.2.2.1=s.K∧x5.2.2.2.2.2.2.1=s.M∧x5.2.2.2.2.2.2.2=s.G) (he:nI x9.length=nI s.G.length→t.L=s.L) :
 ∀(d i:Nat) (v:Int),8 - i=d→i≤8→v=(i:Int)→gD x5 x9 (aAV t) (aAV t) v=some (.inl ()):=by
 obtain⟨z1,z2,z3,z4⟩:=h5
 intro d
 induction d with
 | zero =>
  intro i v hd hi hv
  rw[rJ]
  repeat (first|refine ip0 ?_|refine jn0 ?_|refine el ?_|refine er ?_)
  rfl
 | succ d ih =>
  intro i v hd hi hv
  have ih:=ih (i+1) (aH .u8 v 1) (by omega) (by omega) (by rw[iadd8 (by omega)];omega)
  have g1:fN v (aAV t).1 (aAV t).2.1 (aAV t).2.2.1 (aAV t).2.2.2=some (aHD t.L v):=aT6 J v
  have g2:=aT6 I v
  rw[rJ]
  simp only[z1,z2,z3,z4]
  by_cases h:nI x9.length=nI s.G.length
  · have e:=he h
    have g3:eqI (aHD t.L v) (aHD s.L v)=true:=by rw[e];exact jK.2 rfl
    repeat (first|refine ip0 ?_|refine jn0 ?_|refine(bnd g1).trans ?_|refine el ?_|refine er ?_)
    refine ip (jK.2 h) ?_
    refine(bnd g1).trans ?_
    refine(bnd g2).trans ?_
    exact(if_pos g3).trans ih
  · repeat (first|refine ip0 ?_|refine jn0 ?_|refine(bnd g1).trans ?_|refine el ?_|refine er ?_)
    exact(if_neg (fun hh=>h (jK.1 hh))).trans ih
theorem aVV {x5:Int × Dl × List Ho × List Int × Int × Int × List (Int × Pt) × List Rec} {t:St} {w:Nat} (hw:t.G=x5.2.2.2.2.2.2.2.take w) (hl:t.G.length≤1000):∀(d i:Nat) (v:Int),t.G.length - i=d→i≤t.G.length→v=(i:Int)→hZ x5 (aAV t) v=some (.inl ()):=by
 intro d
 induction d with
 | zero =>
  intro i v hd hi hv
  have hlen:(aAV t).2.2.2.length=t.G.length:=rfl
  rw[rD]
  repeat (first|refine ip (by first|with_reducible rfl | assumption | (simp (disch:=omega) only[ws,wl,wb,hlen]<;>omega)|omega) ?_|refine jn (by first|with_reducible rfl | assumption | (simp (disch:=omega) only[ws,wl,wb,hlen]<;>omega)|omega) ?_|refine el ?_|refine er ?_)
  rfl
 | succ d ih =>
  intro i v hd hi hv
  have hlt:i<t.G.length:=by omega
  have hlen:(aAV t).2.2.2.length=t.G.length:=rfl
  have hle:t.G.length≤x5.2.2.2.2.2.2.2.length:=by rw[hw,List.length_take];omega
  have ih:=ih (i+1) (aH .i64 v 1) (by omega) (by omega) sd
  have g1:(aAV t).2.2.2[tN v]? = some t.G[i]:=kG hv hlt
  have g2:x5.2.2.2.2.2.2.2[tN v]? = some t.G[i]:=by
   refine getn hv ?_
   have h:(x5.2.2.2.2.2.2.2.take w)[i]? = some t.G[i]:=by rw[← hw];exact List.getElem?_eq_getElem hlt
   rw[List.getElem?_take] at h
   split at h
   · exact h
   · cases h
  generalize t.G[i]=q at g1 g2
  rw[rD]
  repeat (first|refine ip (by first|with_reducible rfl | assumption | (simp (disch:=omega) only[ws,wl,wb,hlen]<;>omega)|omega) ?_|refine jn (by first|with_reducible rfl | assumption | (simp (disch:=omega) only[ws,wl,wb,hlen]<;>omega)|omega) ?_|refine(bnd g1).trans ?_|refine(bnd g2).trans ?_|refine el ?_|refine er ?_)
  exact ih
theorem log1_ok {s:St} {n:Nat} (I:Inv s n) (hn:n≤1000):iR s.L s.K s.M s.G=some ():=by
 have:=I.gl
 rw[iR]
 repeat (first|refine ip0 ?_|refine jn0 ?_|refine(bnd (gN s.G (by omega))).trans ?_)
 rfl
theorem aN7 (y0:List (Int × Int × Int × Int × Bool)) (y1:Int) (w0:w_t22 y0) (w1:w_t23 y1):nU y0 y1=some true:=by
 obtain⟨hm,hx⟩:=w0
 obtain⟨y10,y11⟩:=w1
 have hw:=works_ok
 rw[nU]
 by_cases h60:60<y0.length
 · repeat (first|refine ip0 ?_|refine jn0 ?_|refine(bnd hw).trans ?_|refine el ?_|refine er ?_)
   rfl
 have D0:Dsk ⟨[],[],[],[]⟩ 0 0 [] 0:=⟨aPA,rp_nil,Nat.le_refl _,fun _ h=>(by cases h),Nat.le_refl _,rfl,rfl⟩
 obtain⟨s,m,b,sy,q0,D⟩:=aU0 (x2:=y1) hx (by omega) _ 0 0 0 0 ⟨[],[],[],[]⟩ 0 [] 0 rfl (by omega) rfl rfl rfl D0
 have hgl:=D.gl
 have hml:=D.ml
 have K:=D.dk (by omega)
 obtain⟨c,rfl⟩:∃c:Nat,y1=(c:Int):=⟨y1.toNat,by omega⟩
 have h0:=K.s0
 have h1:=K.s1
 obtain⟨n,hn,hnl,hns⟩:=crash_n K c
 have cr:=(crash_ok K rfl (by omega) hn).1
 have D2:=K.take hnl (s':=(n:Int)) (by omega) (by omega)
 have hgd:=aMF s.G
 obtain⟨w,v1,v2,v3⟩:=cut_at (s.G.map aHQ) n
 have ht:=aQK hgd n w v1 v2 v3
 rw[List.length_map] at v1
 have hwm:m≤w:=by
  rcases Nat.lt_or_ge w m with h | h
  · have e1:=aGT (G:=s.G) (m:=m) hml
    have e2:=D.hs
    rcases v3 with v3 | v3
    · rw[List.length_map] at v3;omega
    · have e3:=aGT (G:=s.G) (m:=w+1) (by omega)
      omega
  · exact h
 have rc:=aSA D2
 rw[D.hb,ht] at rc
 rw[D.hb] at cr
 have hHl:(s.G.take w).length=w:=by rw[List.length_take];omega
 have hHr:∀r∈s.G.take w,Rc r:=fun r hr=>D.rc r (List.mem_of_mem_take hr)
 have q1:=aUV (x5:=aHR m s b sy) (z:=((cat ((s.G.map aHQ).take w)).length:Int)) hHr (by omega) _ 0 0 [] rfl (by omega) rfl (by simp)
 rw[List.map_take] at q1
 have hHo:∀r∈s.G.take w,aD4 r:=fun r hr=>D.rp.recs r (List.mem_of_mem_take hr)
 have hok:okF ⟨[],[],[],[]⟩ (s.G.take w)=true:=by
  have:=D.rp.ok
  rw[← List.take_append_drop w s.G,aNH,Bool.and_eq_true] at this
  exact this.1
 have q2:=(aUT (x1:=s.G.take w) ⟨by unfold maxLen;omega,hHo⟩ (by omega)).1 hok
 obtain⟨J,hJg⟩:=aPU (s.G.take w) ⟨[],[],[],[]⟩ 0 aPA (by omega) hHo hok
 simp only[List.nil_append] at hJg
 have hfull:nI (s.G.take w).length=nI s.G.length→(aAF ⟨[],[],[],[]⟩ (s.G.take w)).L=s.L:=fun h=>by
  simp only[aEM] at h
  rw[List.take_of_length_le (by omega),D.rp.run]
 generalize ht':aAF ⟨[],[],[],[]⟩ (s.G.take w)=t at q2 J hJg hfull
 have q3:=log_ok D.inv (by omega)
 have q4:=aVH (x5:=aHR m s b sy) (x9:=s.G.take w) D.inv J ⟨rfl,rfl,rfl,rfl⟩ hfull _ 0 0 rfl (by omega) rfl
 have q5:iR (aAV t).1 (aAV t).2.1 (aAV t).2.2.1 (aAV t).2.2.2=some ():=log1_ok J (by omega)
 have q6:=aVV (x5:=aHR m s b sy) (t:=t) (w:=w) hJg (by rw[hJg,hHl];omega) _ 0 0 rfl (by omega) rfl
 have q7:gW (List.take (s.G.take w).length s.G)=some (.inl (aAV t)):=by rw[hHl];exact q2
 have t1:(aHR m s b sy).1=(m:Int):=rfl
 have t2:(aHR m s b sy).2.2.2.2.2.2.2=s.G:=rfl
 have cr':kX (aHR m s b sy).2.2.2.1 (aHR m s b sy).2.2.2.2.1 (aHR m s b sy).2.2.2.2.2.1 (c:Int)=some ((cat (s.G.map aHQ)).take n,(n:Int),1048576):=by
  show kX b sy 1048576 _=_
  rw[D.hb];exact cr
 have q3':jP (aHR m s b sy).2.1 (aHR m s b sy).2.2.1 (aHR m s b sy).2.2.2.2.2.2.1 s.G=some ():=q3
 repeat (first|refine ip0 ?_|refine jn0 ?_|refine(bnd hw).trans ?_|refine(bnd q0).trans ?_|refine el ?_|refine er ?_)
 refine(bnd cr').trans ?_
 refine(bnd rc).trans ?_
 refine(bnd q1).trans ?_
 refine el ?_
 refine(bnd q2).trans ?_
 refine el ?_
 simp only[t1,t2]
 refine(bnd q3').trans ?_
 by_cases hz:s.G.length=0
 · have hz2:s.G.take w=[]:=List.eq_nil_of_length_eq_zero (by omega)
   have q8:gW []=some (.inl (aAV t)):=by rw[← hz2];exact q2
   repeat (first|refine ip0 ?_|refine jn0 ?_|refine(bnd q8).trans ?_|refine(bnd q4).trans ?_|refine(bnd q5).trans ?_|refine(bnd q6).trans ?_|refine el ?_|refine er ?_)
   rfl
 · repeat (first|refine ip (by first|with_reducible rfl | assumption | (simp (disch:=omega) only[ws,wl,wb,hHl]<;>omega)|omega) ?_|refine jn (by first|with_reducible rfl | assumption | (simp (disch:=omega) only[ws,wl,wb,hHl]<;>omega)|omega) ?_|refine(bnd q7).trans ?_|refine(bnd q4).trans ?_|refine(bnd q5).trans ?_|refine(bnd q6).trans ?_|refine el ?_|refine er ?_)
   rfl
end Go.Ws.L10
