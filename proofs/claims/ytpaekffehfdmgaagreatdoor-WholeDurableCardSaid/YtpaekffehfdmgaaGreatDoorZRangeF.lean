/-
  The range over the cells: what it counts, as a law of its text.
  Conditions: none.
-/
import Derived.Test.YtpaekffehfdmgaaGreatDoorZRangeE
set_option linter.unusedVariables false
set_option linter.unusedSimpArgs false
namespace Go.Ws
open Go.Proofs Go.RowKit
set_option linter.unusedVariables false
set_option linter.unusedSimpArgs false

def sig1 (H:Nat):Sig:=fun b g=>if b=0∧g=0 then some ⟨H,0⟩ else none
def aCE (H B:Nat):Sig:=fun b g=>if b=0∧g=0 then some ⟨H,0⟩ else if b=1∧g=0 then some ⟨B,0⟩ else none
def noP:bX:=fun _ _=>False

theorem rel_1 {W:World} {H:Nat} {n:Int} {te:TypeId} (h:W.heap[H]? = some (.cells #[.int .i64 n] te (0,0))):Rel (sig1 H) noP W ([Blk.row [.int .i64 n]][·]?):=by
 have s0:sig1 H 0 0=some ⟨H,0⟩:=rfl
 have back:∀b g x,sig1 H b g=some x→b=0∧x=⟨H,0⟩:=fun b g x hx=>by
  unfold sig1 at hx
  split at hx
  · rename_i hc;cases hx;exact⟨hc.1,rfl⟩
  · cases hx
 refine⟨fun b x hx=>?_,fun b hb g=>?_,fun b g b' g' l l' hl hl' _=>?_,fun b g x hx=>?_,fun _ _ h=>h.elim⟩
 · match b,hx with
   | 0,hx =>
    cases hx
    exact⟨_,_,te,s0,h,rfl,fun i v hi=>by
     match i,hi with
     | 0,hi=>cases hi;exact⟨_,rfl,.int _ _⟩
     | i+1,hi=>simp at hi,fun _ h=>h⟩
   | b+1,hx=>simp at hx
 · match b,hb with
   | 0,hb=>simp at hb
   | b+1,_=>simp [sig1]
 · rw[(back _ _ _ hl).1,(back _ _ _ hl').1]
 · rw[(back _ _ _ hx).2];exact(Array.getElem?_eq_some_iff.1 h).1

theorem rel_2 {W:World} {H B:Nat} {n:Int} {te e:TypeId} {y:Sd} {C:Array Value} (h:W.heap[H]? = some (.cells #[.int .i64 n] te (0,0))) (hB:W.heap[B]? = some (.cells C e (0,0))) (hHB:H≠B)
 (hs:C.size=6) (hr:jX (aCE H B) noP W (sdC y) C 0):Rel (aCE H B) noP W ([Blk.row [.int .i64 n],.row (sdC y)][·]?):=by
 have s0:aCE H B 0 0=some ⟨H,0⟩:=rfl
 have s1:aCE H B 1 0=some ⟨B,0⟩:=rfl
 have back:∀b g x,aCE H B b g=some x→(b=0∧x=⟨H,0⟩)∨(b=1∧x=⟨B,0⟩):=fun b g x hx=>by
  unfold aCE at hx
  split at hx
  · rename_i hc;cases hx;exact .inl ⟨hc.1,rfl⟩
  · split at hx
    · rename_i hc;cases hx;exact .inr ⟨hc.1,rfl⟩
    · cases hx
 refine⟨fun b x hx=>?_,fun b hb g=>?_,fun b g b' g' l l' hl hl' he=>?_,fun b g x hx=>?_,fun _ _ h=>h.elim⟩
 · match b,hx with
   | 0,hx =>
    cases hx
    exact⟨_,_,te,s0,h,rfl,fun i v hi=>by
     match i,hi with
     | 0,hi=>cases hi;exact⟨_,rfl,.int _ _⟩
     | i+1,hi=>simp at hi,fun _ h=>h⟩
   | 1,hx =>
    cases hx
    exact⟨_,_,e,s1,hB,hs,hr,fun _ h=>h⟩
   | b+2,hx=>simp at hx
 · match b,hb with
   | 0,hb=>simp at hb
   | 1,hb=>simp at hb
   | b+2,_=>simp [aCE]
 · rcases back _ _ _ hl with⟨rfl,rfl⟩ | ⟨rfl,rfl⟩<;>rcases back _ _ _ hl' with⟨rfl,rfl⟩ | ⟨rfl,rfl⟩
   · rfl
   · exact absurd he hHB
   · exact absurd he.symm hHB
   · rfl
 · rcases back _ _ _ hx with⟨_,rfl⟩ | ⟨_,rfl⟩
   · exact(Array.getElem?_eq_some_iff.1 h).1
   · exact(Array.getElem?_eq_some_iff.1 hB).1

theorem fn_vr {σ:Sig} {π:bX} {w:World} {f:Nat} {c:List AV} {u:Value} (hf:f<1000000) (h:VR σ π w (.fn f c) u):∃d,u = .func (.func f) #[] d∧d.size=c.length∧∀(i:Nat) v u,c[i]? = some v→d[i]? = some u→VR σ π w v u:=by
 generalize hv:AV.fn f c=v at h
 cases h with
 | fn f' c' d hl hv' hf'=>cases hv;exact⟨d,rfl,hl,hv'⟩
 | bm f' c' d hl hv'=>cases hv;omega
 | _=>cases hv

theorem clo_vr {σ:Sig} {π:bX} {w:World} {b:Nat} {u:Value} (h:VR σ π w (.fn 46 [.hp b 0]) u):∃l,σ b 0=some l∧u = .func (.func 46) #[] #[.pointer (some ⟨l.blk,0,none⟩)]:=by
 obtain⟨d,rfl,hl,hv⟩:=fn_vr (by omega) h
 obtain⟨d0,rfl⟩:∃d0,d = #[d0]:=Array.size_eq_one_iff.1 hl
 have:=hv 0 _ _ rfl rfl
 cases this with
 | hp _ _ l hl2=>exact⟨l,hl2,rfl⟩

theorem aIY {H b g:Nat} {l:Loc} (h:sig1 H b g=some l):l.blk=H:=by
 unfold sig1 at h
 split at h
 · cases h;rfl
 · cases h

theorem sig2_blk {H B b g:Nat} {l:Loc} (h:aCE H B b g=some l):l.blk=H∨l.blk=B:=by
 unfold aCE at h
 split at h
 · cases h;exact .inl rfl
 · split at h
   · cases h;exact .inr rfl
   · cases h

theorem mp_vr {σ:Sig} {π:bX} {w:World} {b:Nat} {u:Value} (h:VR σ π w (.mp b) u):∃l,σ b 0=some l∧u = .map (some l.blk):=by
 cases h with
 | mp _ l hl=>exact⟨l,hl,rfl⟩

theorem hp_vr {σ:Sig} {π:bX} {w:World} {b:Nat} {u:Value} (h:VR σ π w (.hp b 0) u):∃l,σ b 0=some l∧u = .pointer (some ⟨l.blk,0,none⟩):=by
 cases h with
 | hp _ _ l hl=>exact⟨l,hl,rfl⟩

theorem aDM {σ:Sig} {π:bX} {w:World} {v:AV} {C:Array Value} (hs:C.size=[v].length) (hr:jX σ π w [v] C 0):∃u,C = #[u]∧VR σ π w v u:=by
 obtain⟨u,rfl⟩:∃u,C = #[u]:=Array.size_eq_one_iff.1 hs
 obtain⟨u',h1,h2⟩:=hr 0 v rfl
 cases h1
 exact⟨_,rfl,h2⟩

theorem cnt_at {H:Nat} {n m:Int} {te:TypeId} {σ σ2:Sig} {π π2:bX} {X X2:World} {h:List Blk} (s0:σ 0 0=some ⟨H,0⟩) (i1:X.heap[H]? = some (.cells #[.int .i64 n] te (0,0))) (D:Done σ π X σ2 π2 X2 (h[·]?)) (hh:h[0]? = some (.row [.int .i64 m])) :
 X2.heap[H]? = some (.cells #[.int .i64 m] te (0,0)):=by
 have s2:=D.ext.sig _ _ _ s0
 obtain⟨l0,C0,e0,p1,p2,p3,p4,p5⟩:=D.rel.blk 0 _ hh
 rw[s2] at p1;cases p1
 obtain⟨u0,rfl,v0⟩:=aDM p3 p4
 obtain rfl:=aCW v0
 obtain⟨C',fr',q1,_⟩:=D.ext.size 0 0 _ _ te _ s0 i1
 simp only at p2 q1
 rw[p2] at q1
 cases q1
 exact p2

theorem aJY {σ:Sig} {π:bX} {w:World} {ys:_root_.Fin 3→Sd} {C:Array MapEntry} (hs:C.size=3)
 (h:∀(i:Nat) k v born e,(aZ .u8 (fun y=>AV.agg (sdC y)) [(0,ys 0),(1,ys 1),(2,ys 2)])[i]? = some (k,v,born)→C[i]? = some e→VR σ π w k e.key∧VR σ π w v e.val∧e.born=born∧v.refs=[]∧k.refs=[]) :
 ∃vals:_root_.Fin 3→Value,C=Tryz.ents vals∧∀x,∀σ π w,VR σ π w (.agg (sdC (ys x))) (vals x):=by
 obtain⟨c0,c1,c2,rfl⟩:∃c0 c1 c2,C = #[c0,c1,c2]:=by
  match C,hs with
  | ⟨[c0,c1,c2]⟩,_=>exact⟨c0,c1,c2,rfl⟩
 obtain⟨k0,v0,b0,_⟩:=h 0 _ _ _ c0 rfl rfl
 obtain⟨k1,v1,b1,_⟩:=h 1 _ _ _ c1 rfl rfl
 obtain⟨k2,v2,b2,_⟩:=h 2 _ _ _ c2 rfl rfl
 have e0:=aCW k0
 have e1:=aCW k1
 have e2:=aCW k2
 refine⟨fun x=>match x with | 0=>c0.val | 1=>c1.val | 2=>c2.val,?_,fun x=>?_⟩
 · simp only[Tryz.ents]
   obtain⟨_,_,_⟩:=c0
   obtain⟨_,_,_⟩:=c1
   obtain⟨_,_,_⟩:=c2
   simp only at e0 e1 e2 b0 b1 b2
   subst e0 e1 e2 b0 b1 b2
   rfl
 · match x with
   | 0=>exact fun σ' π' w'=>aEG v0 σ' π' w'
   | 1=>exact fun σ' π' w'=>aEG v1 σ' π' w'
   | 2=>exact fun σ' π' w'=>aEG v2 σ' π' w'

set_option maxHeartbeats 2000000 in
theorem held_tc {k:Nat} {x:Ctx} {t t1 t2:List AV} {h h1:List Blk} {hb ba bm:Nat} {M:List (Int × Sd)} {n:Int}
 (hr:Tc Tryz.prog x c42R ⟨t,h⟩ (.st .normal ⟨t1,h1⟩)) (q157:t1[157]? = some (.fn 46 [.hp ba 0])) (qba:h1[ba]? = some (.row [.mp bm]))
 (qbm:h1[bm]? = some (.map (aZ .u8 (fun y=>AV.agg (sdC y)) M) M.length)) (q22:t1[22]? = some (.hp hb 0)) (qhb:h1[hb]? = some (.row [.int .i64 0])) (qlen:t1.length=200∧t2.length=200)
 (hl:aF7 t2 t1 (t2.map fun v=>!aDU v)=t2) (e:held k M=some n):Tc Tryz.prog x c42 ⟨t,h⟩ (.st .normal ⟨t2,h1.set hb (.row [.int .i64 n])⟩):=by
 intro σ π w a w1 Q R0 N hQ
 rw[c42_eq]
 refine wp_seq (hr σ π w a w1 _ R0 N fun ex a1 W hp=>?_)
 obtain⟨rfl,N1⟩:=hp
 show Code.wp _ _ _ _ _
 obtain⟨σ1,π1,ht,D,hI⟩:=N1
 have R1:=D.rel
 simp only at ht D R1
 obtain⟨ys,cs,rfl,hone,rfl⟩:=aKM e
 have hsz:a1.tmps.size=200:=by rw[ht.1];exact qlen.1
 have hat:∀i:Nat,i<200→∃u,a1.tmps[i]? = some u:=fun i hi=>⟨_,Array.getElem?_eq_getElem (by omega)⟩
 obtain⟨u157,g157⟩:=hat 157 (by omega)
 obtain⟨u22,g22⟩:=hat 22 (by omega)
 obtain⟨lA,sA,rfl⟩:=clo_vr (ht.2 157 _ _ q157 g157)
 obtain⟨lH,sH,rfl⟩:=hp_vr (ht.2 22 _ _ q22 g22)
 obtain⟨lA',CA,eA,x1,x2,x3,x4,x5⟩:=R1.blk ba _ qba
 rw[sA] at x1;cases x1
 obtain⟨uA,rfl,vA⟩:=aDM x3 x4
 obtain⟨lM,sM,rfl⟩:=mp_vr vA
 obtain⟨lH',CH,te,z1,z2,z3,z4,z5⟩:=R1.blk hb _ qhb
 rw[sH] at z1;cases z1
 obtain⟨uH,rfl,vH⟩:=aDM z3 z4
 obtain rfl:=aCW vH
 obtain⟨lM',C,y1,y2,y3,y4,y5⟩:=R1.blk bm _ qbm
 rw[sM] at y1;cases y1
 obtain⟨vals,rfl,hvals⟩:=aJY (by rw[y3];rfl) y5
 have y2':W.heap[lM.blk]? = some (.map (Tryz.ents vals) 3):=y2
 have hMH:lM.blk≠lH.blk:=fun e=>by rw[e,z2] at y2';cases y2'
 have hAH:lA.blk≠lH.blk:=fun e=>by
  rw[e,z2] at x2
  cases x2
 have hseq:=Tryz.all1 lH.blk lM.blk lA.blk eA vals W (R1.lt _ _ _ sH) (R1.lt _ _ _ sM) (R1.lt _ _ _ sA) hMH hAH x2 y2'
 have hcs:∀x,cs x=0∨cs x=1:=fun x=>(body_R 0 0 (hone x) ⟨by omega,by omega⟩).1
 refine(wpIn_wide (n:=5)).1 (wpIn_block (Tryz.range_law (bH:=lH.blk) (lb:=#[.pointer (some ⟨lA.blk,0,none⟩)]) (gf:=46) ?_ (enters_of Tryz.func46 (by kernel_rfl) rfl) hseq (fun _=>rfl) (R1.lt _ _ _ sH)
  (fun pre X=>X.heap[lH.blk]? = some (.cells #[.int .i64 (aCB cs pre)] te (0,0))∧(X.os=W.os∧X.tape=W.tape∧X.output=W.output∧W.heap.size≤X.heap.size)∧∀i,i<W.heap.size→i≠lH.blk→X.heap[i]? = W.heap[i]?)
  ?own ⟨z2,⟨rfl,rfl,rfl,Nat.le_refl _⟩,fun _ _ _=>rfl⟩
  (fun z x a' X=>a'.tmps.size=200∧a'.defers=[]∧a'.tmps[22]? = some (.pointer (some ⟨lH.blk,0,none⟩))∧∃B C e,z≤B∧a'.tmps[24]? = some (.pointer (some ⟨B,0,none⟩))∧X.heap[B]? = some (.cells C e (0,0))∧C.size=6∧∀σ π w,jX σ π w (sdC (ys x)) C 0)
  ?ownA ?assign ?body ?done))
 · show a1.tmps.getD 157 undef=_
   rw[Array.getD_eq_getD_getElem?,g157];rfl
 case own =>
  intro s A B row hs hg hr'
  have hne:∀i o,A.heap[i]? = some o→o.isCells=true→some i≠row:=fun i o ho hc e=>by
   obtain⟨_,o',ho',hc'⟩:=hr' i e.symm
   rw[ho] at ho';cases ho'
   rw[hc] at hc';cases hc'
  exact⟨(hg.block _ (Array.getElem?_eq_some_iff.1 hs.1).1 (hne _ _ hs.1 rfl)).trans hs.1,⟨hg.os.trans hs.2.1.1,hg.tape.trans hs.2.1.2.1,hg.output.trans hs.2.1.2.2.1,Nat.le_trans hs.2.1.2.2.2 hg.size⟩,
   fun i hi hn=>(hg.block i (Nat.lt_of_lt_of_le hi hs.2.1.2.2.2) (fun e=>by have:=(hr' i e.symm).1;omega)).trans (hs.2.2 i hi hn)⟩
 case ownA =>
  rintro z x a' s A B row ⟨h1,h2,h3,Bx,C,e',h4,h5,h6,h7⟩ hg hr'
  refine⟨h1,h2,h3,Bx,C,e',h4,h5,(hg.block _ (Array.getElem?_eq_some_iff.1 h6).1 (fun e=>?_)).trans h6,h7⟩
  obtain⟨_,o',ho',hc'⟩:=hr' Bx e.symm
  rw[h6] at ho';cases ho'
  cases hc'
 case assign =>
  rintro l pre x X K hlz ⟨i1,i2,i3⟩ hK
  have hT:=asgR k l (aCB cs pre) (ys x)
  have hX:=rel_1 i1
  obtain⟨tm,htm⟩:∃tm,((#[158,159]:Array Tmp).zip #[Value.int .u8 (x.val:Int),vals x]).foldl (fun t (p,v)=>t.setIfInBounds p v) a1.tmps=tm:=⟨_,rfl⟩
  have hts:tm.size=200:=by rw[← htm];simp [hsz]
  have ht22:tm[22]? = some (.pointer (some ⟨lH.blk,0,none⟩)):=by
   rw[← htm]
   simp [Array.getElem?_setIfInBounds,g22]
  have ht159:tm[159]? = some (vals x):=by
   rw[← htm]
   simp [Array.getElem?_setIfInBounds,hsz]
  have hv:VRs (sig1 lH.blk) noP X (mkT 200 [(22,.hp 0 0),(159,.agg (sdC (ys x)))]) tm:=aCM hts _ fun p hp u hu=>by
   simp at hp
   rcases hp with rfl | rfl
   · rw[ht22] at hu;cases hu
     exact .hp 0 0 ⟨lH.blk,0⟩ rfl
   · rw[ht159] at hu;cases hu
     exact hvals x _ _ _
  rw[htm]
  refine hT (sig1 lH.blk) noP X { tmps:=tm,defers:=[] } X _ hX ⟨⟨_,_,hv,.refl hX,.nil⟩,rfl⟩ fun ex a' X' hp=>?_
  obtain⟨rfl,⟨σ2,π2,ht2,D2,hd2⟩,hdf⟩:=hp
  show K a' X'
  simp only at ht2 D2
  have hc:=cnt_at (σ:=sig1 lH.blk) rfl i1 D2 rfl
  have s2:σ2 0 0=some ⟨lH.blk,0⟩:=D2.ext.sig _ _ _ rfl
  obtain⟨l1,C1,e1,r1,r2,r3,r4,r5⟩:=D2.rel.blk 1 _ rfl
  have hge:X.heap.size≤l1.blk:=by
   rcases D2.frm.own 1 0 l1 r1 with h1 | ⟨b0,g0,l0,h1,h2⟩
   · exact h1
   · have h3:=aIY h1
     have:=D2.rel.inj _ _ _ _ _ _ r1 s2 (by rw[← h2,h3])
     cases this
  have hsz':a'.tmps.size=200:=by rw[ht2.1,pG]
  obtain⟨w22,k22⟩:∃u,a'.tmps[22]? = some u:=⟨_,Array.getElem?_eq_getElem (by omega)⟩
  obtain⟨w24,k24⟩:∃u,a'.tmps[24]? = some u:=⟨_,Array.getElem?_eq_getElem (by omega)⟩
  obtain⟨m0,n0,rfl⟩:=hp_vr (ht2.2 22 (.hp 0 0) _ (by kernel_rfl) k22)
  obtain⟨m1,n1,rfl⟩:=hp_vr (ht2.2 24 (.hp 1 0) _ (by kernel_rfl) k24)
  rw[s2] at n0;cases n0
  rw[r1] at n1;cases n1
  have hsame:∀i,i<X.heap.size→i≠lH.blk→X'.heap[i]? = X.heap[i]?:=fun i hi hn=>D2.frm.same i hi fun b g l hl e=>hn (by rw[← e];exact aIY hl)
  exact hK a' X' ⟨D2.frm.size,fun i hi h1 _=>hsame i hi h1⟩ ⟨hc,⟨D2.frm.os.trans i2.1,D2.frm.tape.trans i2.2.1,D2.frm.output.trans i2.2.2.1,Nat.le_trans i2.2.2.2 D2.frm.size⟩,fun i hi hn=>(hsame i (Nat.lt_of_lt_of_le hi i2.2.2.2) hn).trans (i3 i hi hn)⟩
   ⟨hsz',hdf,k22,l1.blk,C1,e1,hge,k24,r2,r3,fun σ' π' w'=>row_any r4 σ' π' w'⟩
 case body =>
  rintro l z pre x a' X hlz hwz hz ⟨i1,i2,i3⟩ ⟨h1,h2,h3,Bx,C,e',h4,h5,h6,h7,h8⟩ hlen
  have hbd:=aB1 cs hcs pre
  obtain⟨hc,s,hs,hT⟩:=body_R l (aCB cs pre) (hone x) ⟨hbd.1,by omega⟩
  have hne:lH.blk≠Bx:=fun e=>by
   rw[e,h6] at i1
   cases i1
   simp at h7
  have hX:=rel_2 i1 h6 hne h7 (h8 _ _ _)
  have hv:VRs (aCE lH.blk Bx) noP X (mkT 200 [(22,.hp 0 0),(24,.hp 1 0)]) a'.tmps:=aCM h1 _ fun p hp u hu=>by
   simp at hp
   rcases hp with rfl | rfl
   · rw[h3] at hu;cases hu
     exact .hp 0 0 ⟨lH.blk,0⟩ rfl
   · rw[h5] at hu;cases hu
     exact .hp 1 0 ⟨Bx,0⟩ rfl
  refine hT (aCE lH.blk Bx) noP X a' X _ hX ⟨⟨_,_,hv,.refl hX,by rw[h2];exact .nil⟩,h2⟩ fun ex a3 X3 hp=>?_
  obtain⟨rfl,⟨σ3,π3,ht3,D3,hd3⟩,hdf⟩:=hp
  have hc3:=cnt_at (σ:=aCE lH.blk Bx) rfl i1 D3 (m:=aCB cs pre+cs x) (by rw[hs];rfl)
  have hsame:∀i,i<z→i≠lH.blk→X3.heap[i]? = X.heap[i]?:=fun i hi hn=>D3.frm.same i (by omega) fun b g l hl e=>by
   rcases sig2_blk hl with h9 | h9
   · exact hn (by rw[← e];exact h9)
   · omega
  refine⟨rfl,⟨D3.frm.size,hsame⟩,?_,⟨D3.frm.os.trans i2.1,D3.frm.tape.trans i2.2.1,D3.frm.output.trans i2.2.2.1,Nat.le_trans i2.2.2.2 D3.frm.size⟩,fun i hi hn=>(hsame i (by omega) hn).trans (i3 i hi hn)⟩
  rw[aM8]
  exact hc3
 case done =>
  rintro D0 X hD0 ⟨i1,i2,i3⟩ hK0
  have Dn:=aNH R1 qhb sH z2 i1 (fun _ _ _=>.int _ _) i2.1 i2.2.1 i2.2.2.1 i2.2.2.2 i3
  have hI2:=hI.step Dn.frm
  show Q .normal _ _
  refine hQ _ _ _ ⟨rfl,σ1,π1,vrs_less (ht.mono Dn.ext) (by rw[qlen.1,qlen.2]) hl,D.trans Dn,List.nodup_cons.2 ⟨fun hm=>?_,hI2.1⟩,fun d hd=>?_⟩
  · obtain⟨D',hD',_,_,hh⟩:=hI.2 _ hm
    cases hD'
    have:=(Array.getElem?_eq_some_iff.1 hh).1
    omega
  · rcases List.mem_cons.1 hd with rfl | hd
    · exact⟨D0,rfl,Nat.le_trans D.frm.size hD0,fun b g l hl e=>by have:=R1.lt b g l hl;omega,hK0⟩
    · exact hI2.2 d hd

def liveR (i:Nat):Bool:=!(decide (23≤i) && decide (i≤28)) && !(decide (156≤i) && decide (i≤191))
def n9 (l:List (Nat × AV)) (h nb:List Blk) (hb:Nat) (n:Int):GX:=.st .normal ⟨mkT 200 (l.filter fun p=>liveR p.1),(h++nb).set hb (.row [.int .i64 n])⟩

theorem g8 {x:Ctx} (k:Nat) (l:List (Nat × AV)) (h nb:List Blk) (cb hb ba bm:Nat) (M:List (Int × Sd)) {n:Int} (e:held k M=some n)
 (hr:Tc Tryz.prog x c42R ⟨mkT 200 l,h⟩ (.st .normal ⟨mkT 200 (l++[(156,.hp cb 0),(157,.fn 46 [.hp ba 0])]),h++nb⟩))
 (q157:(mkT 200 (l++[(156,.hp cb 0),(157,.fn 46 [.hp ba 0])]))[157]? = some (.fn 46 [.hp ba 0])) (qba:(h++nb)[ba]? = some (.row [.mp bm]))
 (qbm:(h++nb)[bm]? = some (.map (aZ .u8 (fun y=>AV.agg (sdC y)) M) M.length)) (q22:(mkT 200 (l++[(156,.hp cb 0),(157,.fn 46 [.hp ba 0])]))[22]? = some (.hp hb 0)) (qhb:(h++nb)[hb]? = some (.row [.int .i64 0]))
 (hl:aF7 (mkT 200 (l.filter fun p=>liveR p.1)) (mkT 200 (l++[(156,.hp cb 0),(157,.fn 46 [.hp ba 0])])) ((mkT 200 (l.filter fun p=>liveR p.1)).map fun v=>!aDU v)=mkT 200 (l.filter fun p=>liveR p.1)) :
 Tc Tryz.prog x c42 ⟨mkT 200 l,h⟩ (n9 l h nb hb n) :=
 held_tc hr q157 qba qbm q22 qhb ⟨pG _ _,pG _ _⟩ hl e
end Go.Ws
