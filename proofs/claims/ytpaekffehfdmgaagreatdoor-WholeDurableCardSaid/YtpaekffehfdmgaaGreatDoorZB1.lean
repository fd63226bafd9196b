/-
  The abstract machine and its soundness, part 1.
  Conditions: none.
-/
import Derived.Test.YtpaekffehfdmgaaGreatDoorZB0
import Derived.Orders
import Derived.LoopN
import Derived.Scope
set_option linter.unusedVariables false
set_option linter.unusedSimpArgs false
namespace Go.Ws
set_option linter.unusedVariables false
set_option linter.unusedSimpArgs false

section
variable {P:Program} {σ:Sig} {π:bX} {w:World} {h:Nat→Option Blk} {n:Nat} {δ:Delta} {L:List Nat}

theorem bytes_eq {a b:ByteArray} (h:(a == b)=true):a=b:=by
 rw[beq_toListBytes,ByteArray.toList_eq,ByteArray.toList_eq] at h
 have:=eq_of_beq h
 exact ByteArray.ext (Array.ext' this)

def pH (σ:Sig) (π:bX) (w:World) (es:List (AV × AV × Nat)) (C:List MapEntry):Prop :=
 C.length=es.length∧∀(i:Nat) k v born e,es[i]? = some (k,v,born)→C[i]? = some e→VR σ π w k e.key∧VR σ π w v e.val∧e.born=born∧v.refs=[]∧k.refs=[]

theorem pH.mono {σ':Sig} {π':bX} {w':World} (E:Ext σ π w σ' π' w') {es:List (AV × AV × Nat)} {C:List MapEntry} (k:pH σ π w es C):pH σ' π' w' es C :=
 ⟨k.1,fun i kk v born e h1 h2=>let ⟨a,b,c⟩:=k.2 i kk v born e h1 h2;⟨a.mono E,b.mono E,c⟩⟩

theorem aLN {d:TypeDesc} {k k':AV} {ku ku':Value} (hk:VR σ π w k ku) (hk':VR σ π w k' ku') {b:Bool} (e:keyEq k k'=some b) (hd:(∃kk n,k = .int kk n∧d = .int kk)∨(∃s,k = .str s∧d = .string)) :
 Instr.sameNow d ku ku'=some b∧(b=true→Instr.sameBits 10000 ku' ku=true):=by
 unfold keyEq at e
 split at e
 · split at e
   · rename_i hkk
     subst hkk
     cases e
     cases hk;cases hk'
     rcases hd with⟨kk,n,hh,rfl⟩ | ⟨s,hh,_⟩
     · refine⟨by simp [Instr.sameNow],fun hb=>?_⟩
       have:=eq_of_beq hb
       subst this
       simp [Instr.sameBits]
     · cases hh
   · cases e
 · cases e
   cases hk;cases hk'
   rcases hd with⟨kk,n,hh,_⟩ | ⟨s,hh,rfl⟩
   · cases hh
   · refine⟨by simp [Instr.sameNow],fun hb=>?_⟩
     have h2:=bytes_eq hb
     subst h2
     simpa [Instr.sameBits] using hb
 · cases hk;cases hk'
   rcases hd with⟨kk,n,hh,_⟩ | ⟨s,hh,_⟩<;>cases hh
 · cases e

theorem k7 {d:TypeDesc} {k:AV} {ku:Value} (hk:VR σ π w k ku) (hd:(∃kk n,k = .int kk n∧d = .int kk)∨(∃s,k = .str s∧d = .string)) :
 ∀{es:List (AV × AV × Nat)} {C:List MapEntry} {i:Nat} {r:Option (Nat × AV × Nat)},pH σ π w es C→o6 k es i=some r →
  (r=none∧Instr.findNow d ku C i=some none)∨(∃j v b k' e,r=some (i+j,v,b)∧es[j]? = some (k',v,b)∧C[j]? = some e∧Instr.findNow d ku C i=some (some (i+j,e.val))∧Instr.sameBits 10000 e.key ku=true)
 | [],C,i,r,hC,e=>by
  obtain rfl:C=[]:=List.eq_nil_of_length_eq_zero hC.1
  simp [o6] at e
  subst e
  exact .inl ⟨rfl,rfl⟩
 | (k',v,b)::es,C,i,r,hC,e=>by
  cases C with
  | nil=>have:=hC.1;simp at this
  | cons c C =>
   obtain⟨h1,h2,h3,_⟩:=hC.2 0 k' v b c rfl rfl
   have hC':pH σ π w es C:=⟨by have:=hC.1;simpa using this,fun j kk vv bb ee a1 a2=>hC.2 (j+1) kk vv bb ee (by simpa using a1) (by simpa using a2)⟩
   simp only[o6] at e
   split at e
   · rename_i hke
     cases e
     obtain⟨q1,q2⟩:=aLN hk h1 hke hd
     exact .inr ⟨0,v,b,k',c,rfl,rfl,rfl,by simp [Instr.findNow,q1],q2 rfl⟩
   · rename_i hke
     obtain⟨q1,_⟩:=aLN hk h1 hke hd
     rcases k7 hk hd hC' e with⟨rfl,hf⟩ | ⟨j,v',b',k'',ee,rfl,a1,a2,a3,a4⟩
     · exact .inl ⟨rfl,by simp [Instr.findNow,q1,hf]⟩
     · refine .inr ⟨j+1,v',b',k'',ee,by rw[show i+1+j=i+(j+1) by omega],by simpa using a1,by simpa using a2,?_,a4⟩
       simp only[Instr.findNow,q1,a3]
       rw[show i+1+j=i+(j+1) by omega]
   · cases e

theorem rJ {kt:Nat} {k:AV} (e:iD (dS P) kt k=true):∃d,P.underlying kt=some d∧((∃kk n,k = .int kk n∧d = .int kk)∨(∃s,k = .str s∧d = .string)):=by
 unfold iD at e
 split at e
 · split at e
   · rename_i kk n k' sz bts z cmp hi
     obtain⟨d,inf,h1,h2,he⟩:=bT hi
     simp only[TI.mk.injEq] at he
     obtain rfl:=tO he.1.symm
     have:=eq_of_beq e
     subst this
     exact⟨_,h1,.inl ⟨_,_,rfl,rfl⟩⟩
   · cases e
 · split at e
   · rename_i sz bts z cmp hi
     obtain⟨d,inf,h1,h2,he⟩:=bT hi
     simp only[TI.mk.injEq] at he
     obtain rfl:=xP he.1.symm
     exact⟨_,h1,.inr ⟨_,rfl,rfl⟩⟩
   · cases e
 · cases e

theorem gW {kt:Nat} {d:TypeDesc} (h1:P.underlying kt=some d) {k:AV} {ku:Value} (hk:VR σ π w k ku) (hd:(∃kk n,k = .int kk n∧d = .int kk)∨(∃s,k = .str s∧d = .string)) (em:Bool):(Instr.checkKey em 10000 kt ku).run P w = .ok () w:=by
 have key:∀m,(Instr.checkKey em (m+1) kt ku).run P w = .ok () w:=by
  intro m
  rcases hd with⟨kk,n,rfl,rfl⟩ | ⟨s,rfl,rfl⟩<;>cases hk<;>simp [Instr.checkKey,run_underlying h1]
 exact key 9999

theorem eU {r:Nat} {C:Array MapEntry} {cl:Nat} (hg:w.heap[r]? = some (.map C cl)):(getObj r).run P w = .ok (.map C cl) w:=by
 simp [getObj,Sem.run,hg]

theorem uE {b:Nat} {es:List (AV × AV × Nat)} {cl:Nat} (R:Rel σ π w h) (hb:h b=some (.map es cl)) {l:Loc} (hl:σ b 0=some l):∃C,w.heap[l.blk]? = some (.map C cl)∧pH σ π w es C.toList∧(∀o,¬π l.blk o):=by
 obtain⟨l',C,q1,q2,q3,q4,q5⟩:=R.blk b _ hb
 rw[hl] at q1
 cases q1
 exact⟨C,q2,⟨by rw[Array.length_toList];exact q3,fun i k v born e h1 h2=>q5 i k v born e h1 (by simpa using h2)⟩,q4⟩

theorem aMW (R:Rel σ π w h) (t:Nat) (x k:AV) (ok:Bool) (xu ku:Value) (hx:VR σ π w x xu) (hk:VR σ π w k ku) (e:(uG (dS P) t x k ok).run h=some (δ,L)) :
 cG P (do pure (.value (← Instr.lookup t xu ku ok))) σ π w h n δ:=by
 unfold uG at e
 split at e
 · rename_i kt et sz bts z cmp hst
   obtain⟨d,inf,h1,h2,he⟩:=bT hst
   simp only[TI.mk.injEq] at he
   obtain rfl:=yJ he.1.symm
   split at e
   · rename_i hsk
     obtain⟨dk,hdk,hkd⟩:=rJ hsk
     split at e
     · rename_i ei hei
       obtain⟨de,infe,e1,e2,rfl⟩:=bT hei
       split at e
       · rename_i zc hzc
         obtain⟨zc0,hzc0,hzce⟩:=Option.map_eq_some_iff.1 hzc
         obtain⟨zv,hzv,hzvr⟩:=j5 (e:=et) hzc0
         have hz:VR σ π w zc zv:=by rw[← hzce];exact((hzvr σ π w).1).cast (iP (dS P) 4 et 0)
         have hzr:(zeroValue et).run P w = .ok zv w:=by simp [zeroValue,typeInfo,e2,hzv]
         have hmiss:∀(s:Sem Value),(s.run P w = .ok (if ok then .tuple #[zv,.bool false] else zv) w)→cG P (do pure (.value (← s))) σ π w h n ⟨if ok then .tup [zc,.bool false] else zc,[],[]⟩:=by
          intro s hs
          cases ok with
          | false=>exact a8 R hs hz
          | true =>
           refine a8 R hs (.tup _ _ rfl (fun i v u h3 h4=>?_))
           rcases i with _ | _ | i
           · simp at h3 h4;subst h3;subst h4;exact hz
           · simp at h3 h4;subst h3;subst h4;exact .bool _
           · simp at h3
         split at e
         · have hδ:=bW e;subst hδ
           cases hx
           refine hmiss _ ?_
           have hfk:=Go.MapKept.run_findKey (P:=P) (w:=w) (kt:=kt) (k:=ku) (l:=[]) (a:=none) hdk rfl
           simp [Instr.lookup,run_underlying h1,gW hdk hk hkd,hfk,hzr]
         · rename_i b
           obtain⟨y,L',hy,e5,_⟩:=lC e
           split at e5
           · rename_i es cl
             cases hx with
             | mp _ l hl =>
              obtain⟨C,c1,c2,c3⟩:=uE R hy hl
              split at e5
              · rename_i j v born hm
                have hδ:=bW e5;subst hδ
                rcases k7 hk hkd c2 hm with⟨hh,_⟩ | ⟨j',v',b',k',ee,hh,a1,a2,a3,a4⟩
                · cases hh
                · simp only[Option.some.injEq,Prod.mk.injEq] at hh
                  obtain⟨_,rfl,_⟩:=hh
                  have hfk:=Go.MapKept.run_findKey (P:=P) (w:=w) (kt:=kt) (k:=ku) hdk a3
                  obtain⟨_,hv,_⟩:=c2.2 j' k' v b' ee a1 a2
                  have hs:(Instr.lookup t (.map (some l.blk)) ku ok).run P w = .ok (if ok then .tuple #[ee.val,.bool true] else ee.val) w:=by
                   simp [Instr.lookup,run_underlying h1,gW hdk hk hkd,eU c1,hfk]
                  cases ok with
                  | false=>exact a8 R hs hv
                  | true =>
                   refine a8 R hs (.tup _ _ rfl (fun i v u h3 h4=>?_))
                   rcases i with _ | _ | i
                   · simp at h3 h4;subst h3;subst h4;exact hv
                   · simp at h3 h4;subst h3;subst h4;exact .bool _
                   · simp at h3
              · rename_i hm
                have hδ:=bW e5;subst hδ
                rcases k7 hk hkd c2 hm with⟨_,hf⟩ | ⟨j',v',b',k',ee,hh,_⟩
                · have hfk:=Go.MapKept.run_findKey (P:=P) (w:=w) (kt:=kt) (k:=ku) hdk hf
                  refine hmiss _ ?_
                  simp [Instr.lookup,run_underlying h1,gW hdk hk hkd,eU c1,hfk,hzr]
                · cases hh
              · exact(aO e5).elim
           · exact(aO e5).elim
         · exact(aO e).elim
       · exact(aO e).elim
     · exact(aO e).elim
   · exact(aO e).elim
 · exact(aO e).elim

def World.setMap (w:World) (r:Nat) (C:Array MapEntry) (cl:Nat):World:={ w with heap:=w.heap.setIfInBounds r (.map C cl) }

theorem f7 {r:Nat} {C C':Array MapEntry} {cl cl':Nat} (hg:w.heap[r]? = some (.map C cl)):(setObj r (.map C' cl')).run P w = .ok () (World.setMap w r C' cl'):=by
 simp [setObj,Sem.run,hg,World.setMap]

theorem mY (R:Rel σ π w h) {b:Nat} {es es':List (AV × AV × Nat)} {cl cl':Nat} (hb:h b=some (.map es cl)) {l:Loc} (hl:σ b 0=some l) {C C':Array MapEntry} (hg:w.heap[l.blk]? = some (.map C cl)) (hE:pH σ π w es' C'.toList) (v:AV) :
 Done σ π w σ π (World.setMap w l.blk C' cl') (gG h n ⟨v,[(b,.map es' cl')],[]⟩):=by
 obtain⟨C0,c1,c2,c3⟩:=uE R hb hl
 have hlt:=aK6 hg
 have hother:∀B,B≠l.blk→(World.setMap w l.blk C' cl').heap[B]? = w.heap[B]?:=fun B hne=>by simp [World.setMap,Array.getElem?_setIfInBounds_ne (Ne.symm hne)]
 have hthis:(World.setMap w l.blk C' cl').heap[l.blk]? = some (.map C' cl'):=by simp [World.setMap,hlt]
 have E:Ext σ π w σ π (World.setMap w l.blk C' cl'):=by
  refine⟨fun _ _ _ h=>h,fun _ _ h=>h,fun B o hB=>kP (hother B (fun e=>c3 o (e▸hB))),fun b' g l' C1 e fr q1 q2=>?_,fun B o C2 k hB h2=>(hother B (fun e=>c3 o (e▸hB))).trans h2⟩
  by_cases hne:l'.blk=l.blk
  · rw[hne,hg] at q2;cases q2
  · exact⟨C1,fr,(hother _ hne).trans q2,rfl⟩
 refine iQ R hb v E (fun _ _ _=>rfl) (fun g l' hl'=>.inl ⟨g,l',hl',rfl⟩) (fun B _ hn=>hother B (fun e=>hn 0 l hl e.symm)) (by simp [World.setMap]) rfl rfl rfl ?_
 have hE':=hE.mono E
 exact⟨l,C',hl,hthis,by have:=hE'.1;rwa [Array.length_toList] at this,c3,fun i k v born e h1 h2=>hE'.2 i k v born e h1 (by simpa using h2)⟩

theorem aEB {es:List (AV × AV × Nat)} {C:Array MapEntry} (hC:pH σ π w es C.toList) {j:Nat} {e:MapEntry} (he:C[j]? = some e) {k v:AV} {ku vu:Value} {born:Nat} (hb:e.born=born) (hk:VR σ π w k ku) (hv:VR σ π w v vu) (hkr:k.refs=[]) (hvr:v.refs=[]) {f:MapEntry→MapEntry}
 (hf:f e={ key:=ku,val:=vu,born:=born }):pH σ π w (es.set j (k,v,born)) (C.modify j f).toList:=by
 have hj:j<C.size:=(Array.getElem?_eq_some_iff.1 he).1
 refine⟨by have:=hC.1;simp at this ⊢;exact this,fun i kk vv bb ee h1 h2=>?_⟩
 rw[Array.getElem?_toList,Array.getElem?_modify] at h2
 by_cases hij:j=i
 · subst hij
   rw[List.getElem?_set_self (by have:=hC.1;simp at this;omega)] at h1
   cases h1
   rw[if_pos rfl,he] at h2
   simp only[Option.map_some,Option.some.injEq] at h2
   rw[hf] at h2
   subst h2
   exact⟨hk,hv,rfl,hvr,hkr⟩
 · rw[List.getElem?_set_ne hij] at h1
   rw[if_neg hij] at h2
   exact hC.2 i kk vv bb ee h1 (by simpa using h2)

theorem aFN {es:List (AV × AV × Nat)} {C:Array MapEntry} (hC:pH σ π w es C.toList) {k v:AV} {ku vu:Value} {born:Nat} (hk:VR σ π w k ku) (hv:VR σ π w v vu) (hkr:k.refs=[]) (hvr:v.refs=[]) :
 pH σ π w (es++[(k,v,born)]) (C.push { key:=ku,val:=vu,born:=born }).toList:=by
 have hl:=hC.1
 simp only[Array.length_toList] at hl
 refine⟨by simp [hl],fun i kk vv bb ee h1 h2=>?_⟩
 rw[Array.toList_push] at h2
 rcases Nat.lt_or_ge i es.length with hlt | hge
 · rw[List.getElem?_append_left hlt] at h1
   rw[List.getElem?_append_left (by simp;omega)] at h2
   exact hC.2 i kk vv bb ee h1 h2
 · rw[List.getElem?_append_right hge] at h1
   rw[List.getElem?_append_right (by simp;omega)] at h2
   simp only[Array.length_toList,hl] at h2
   rcases hq:i - es.length with _ | q
   · rw[hq] at h1 h2
     simp at h1 h2
     obtain⟨rfl,rfl,rfl⟩:=h1
     subst h2
     exact⟨hk,hv,rfl,hvr,hkr⟩
   · rw[hq] at h1
     simp at h1

theorem zB {k:AV} {d:TypeDesc} (hd:(∃kk n,k = .int kk n∧d = .int kk)∨(∃s,k = .str s∧d = .string)):k.refs=[]:=by
 rcases hd with⟨_,_,rfl,_⟩ | ⟨_,rfl,_⟩<;>simp [AV.refs]

theorem aAL {o k:Value} (h1:Instr.sameBits 10000 o k=true):(Instr.keyThatStays o k).run P w = .ok k w:=by
 simp [Instr.keyThatStays,h1]

theorem aAD (R:Rel σ π w h) (t:Nat) (x k v:AV) (xu ku vu:Value) (hx:VR σ π w x xu) (hk:VR σ π w k ku) (hv:VR σ π w v vu) (e:(mX (dS P) t x k v).run h=some (δ,L)) :
 cG P (do Instr.mapUpdate t xu ku vu;pure .skip) σ π w h n δ:=by
 unfold mX at e
 split at e
 · rename_i kt et sz bts z cmp hst
   obtain⟨d,inf,h1,h2,he⟩:=bT hst
   simp only[TI.mk.injEq] at he
   obtain rfl:=yJ he.1.symm
   split at e
   · rename_i hcd
     obtain⟨hsk,hvr⟩:=hcd
     obtain⟨dk,hdk,hkd⟩:=rJ hsk
     split at e
     · rename_i b
       obtain⟨y,L',hy,e5,_⟩:=lC e
       split at e5
       · rename_i es cl
         cases hx with
         | mp _ l hl =>
          obtain⟨C,c1,c2,c3⟩:=uE R hy hl
          split at e5
          · rename_i j v0 born hm
            have hδ:=cT e5;subst hδ
            rcases k7 hk hkd c2 hm with⟨hh,_⟩ | ⟨j',v',b',k',ee,hh,a1,a2,a3,a4⟩
            · cases hh
            · simp only[Option.some.injEq,Prod.mk.injEq,Nat.zero_add] at hh a3
              obtain⟨rfl,rfl,rfl⟩:=hh
              have hfk:=Go.MapKept.run_findKey (P:=P) (w:=w) (kt:=kt) (k:=ku) hdk a3
              obtain⟨_,hv0,hbn,_⟩:=c2.2 j k' v0 born ee a1 a2
              have ha2:C[j]? = some ee:=by simpa using a2
              refine⟨_,_,_,σ,π,aIO (w':=World.setMap w l.blk (C.modify j fun e=>{ e with key:=ku,val:=vu }) cl) ?_,.inr ⟨rfl,rfl⟩,fS _ _ _,
               mY R hy hl c1 (aEB c2 ha2 hbn hk hv (zB hkd) hvr (by simp [hbn])) _⟩
              simp [Instr.mapUpdate,run_underlying h1,gW hdk hk hkd,eU c1,hfk,ha2,aAL a4,f7 c1]
          · rename_i hm
            have hδ:=cT e5;subst hδ
            rcases k7 hk hkd c2 hm with⟨_,hf⟩ | ⟨j',v',b',k',ee,hh,_⟩
            · have hfk:=Go.MapKept.run_findKey (P:=P) (w:=w) (kt:=kt) (k:=ku) hdk hf
              refine⟨_,_,_,σ,π,aIO (w':=World.setMap w l.blk (C.push { key:=ku,val:=vu,born:=cl }) (cl+1)) ?_,.inr ⟨rfl,rfl⟩,fS _ _ _,
               mY R hy hl c1 (aFN c2 hk hv (zB hkd) hvr) _⟩
              simp [Instr.mapUpdate,run_underlying h1,gW hdk hk hkd,eU c1,hfk,f7 c1]
            · cases hh
          · exact(aO e5).elim
       · exact(aO e5).elim
     · exact(aO e).elim
   · exact(aO e).elim
 · exact(aO e).elim

end
end Go.Ws

namespace Go.Ws
set_option linter.unusedVariables false
set_option linter.unusedSimpArgs false

section
variable {P:Program} {σ:Sig} {π:bX} {w:World} {h:Nat→Option Blk} {n:Nat} {δ:Delta} {L:List Nat}

theorem aLZ {a b:AV} {au bu:Value} (ha:VR σ π w a au) (hb:VR σ π w b bu):VR σ π w (.tup [a,b]) (.tuple #[au,bu]):=by
 refine .tup _ _ rfl (fun i v u h3 h4=>?_)
 rcases i with _ | _ | i
 · simp at h3 h4;subst h3;subst h4;exact ha
 · simp at h3 h4;subst h3;subst h4;exact hb
 · simp at h3

theorem aJM (R:Rel σ π w h) (t:Nat) (x k:AV) (xu ku:Value) (hx:VR σ π w x xu) (hk:VR σ π w k ku) (e:(oT (dS P) t x k).run h=some (δ,L)) :
 cG P (do pure (.value (← Instr.mapEntry t xu ku))) σ π w h n δ:=by
 unfold oT at e
 split at e
 · rename_i kt et sz bts z cmp hst
   obtain⟨d,inf,h1,h2,he⟩:=bT hst
   simp only[TI.mk.injEq] at he
   obtain rfl:=yJ he.1.symm
   split at e
   · rename_i hsk
     obtain⟨dk,hdk,hkd⟩:=rJ hsk
     split at e
     · rename_i ei hei
       obtain⟨de,infe,e1,e2,rfl⟩:=bT hei
       split at e
       · rename_i zc hzc
         obtain⟨zc0,hzc0,hzce⟩:=Option.map_eq_some_iff.1 hzc
         obtain⟨zv,hzv,hzvr0⟩:=j5 (e:=et) hzc0
         have hzvr:∀(σ:Sig) (π:bX) (w:World),VR σ π w zc zv∧True:=fun σ π w=>by rw[← hzce];exact⟨((hzvr0 σ π w).1).cast (iP (dS P) 4 et 0),trivial⟩
         have hzr:∀w1,(zeroValue et).run P w1 = .ok zv w1:=fun w1=>by simp [zeroValue,typeInfo,e2,hzv]
         split at e
         · rename_i hzrf
           split at e
           · rename_i b
             obtain⟨y,L',hy,e5,_⟩:=lC e
             split at e5
             · rename_i es cl
               cases hx with
               | mp _ l hl =>
                obtain⟨C,c1,c2,c3⟩:=uE R hy hl
                split at e5
                · rename_i j v0 born hm
                  have hδ:=cT e5;subst hδ
                  rcases k7 hk hkd c2 hm with⟨hh,_⟩ | ⟨j',v',b',k',ee,hh,a1,a2,a3,a4⟩
                  · cases hh
                  · simp only[Option.some.injEq,Prod.mk.injEq,Nat.zero_add] at hh a3
                    obtain⟨rfl,rfl,rfl⟩:=hh
                    have hfk:=Go.MapKept.run_findKey (P:=P) (w:=w) (kt:=kt) (k:=ku) hdk a3
                    obtain⟨_,hv0,hbn,hvr,_⟩:=c2.2 j k' v0 born ee a1 a2
                    have ha2:C[j]? = some ee:=by simpa using a2
                    have hD:=mY (n:=n) R hy hl c1 (aEB (f:=fun e=>{ e with key:=ku }) c2 ha2 hbn hk hv0 (zB hkd) hvr (by simp [← hbn])) (cl':=cl) (.tup [v0,.int .i64 born])
                    refine⟨_,.tuple #[ee.val,goInt born],_,σ,π,iV (w':=World.setMap w l.blk (C.modify j fun e=>{ e with key:=ku }) cl) ?_,.inl rfl,aLZ (hv0.mono hD.ext) (.int _ _),hD⟩
                    simp [Instr.mapEntry,run_underlying h1,gW hdk hk hkd,eU c1,hfk,ha2,aAL a4,f7 c1,hbn]
                · rename_i hm
                  have hδ:=cT e5;subst hδ
                  rcases k7 hk hkd c2 hm with⟨_,hf⟩ | ⟨j',v',b',k',ee,hh,_⟩
                  · have hfk:=Go.MapKept.run_findKey (P:=P) (w:=w) (kt:=kt) (k:=ku) hdk hf
                    have hD:=mY (n:=n) R hy hl c1 (aFN (born:=cl) c2 hk (hzvr σ π w).1 (zB hkd) hzrf) (cl':=cl+1) (.tup [zc,.int .i64 cl])
                    refine⟨_,.tuple #[zv,goInt cl],_,σ,π,iV (w':=World.setMap w l.blk (C.push { key:=ku,val:=zv,born:=cl }) (cl+1)) ?_,.inl rfl,aLZ (hzvr _ _ _).1 (.int _ _),hD⟩
                    simp [Instr.mapEntry,run_underlying h1,gW hdk hk hkd,eU c1,hfk,f7 c1,hzr]
                  · cases hh
                · exact(aO e5).elim
             · exact(aO e5).elim
           · exact(aO e).elim
         · exact(aO e).elim
       · exact(aO e).elim
     · exact(aO e).elim
   · exact(aO e).elim
 · exact(aO e).elim

theorem z8 {born:Int} {v:AV}:∀{es es':List (AV × AV × Nat)} {C:List MapEntry},pH σ π w es C→uB born v es=some es' →
 ∃j k v0 b e,es[j]? = some (k,v0,b)∧C[j]? = some e∧C.findIdx? (fun e=>(e.born:Int) == born)=some j∧es'=es.set j (k,v,b)
 | [],es',C,_,e=>by simp [uB] at e
 | (k,v0,b)::es,es',C,hC,e=>by
  cases C with
  | nil=>have:=hC.1;simp at this
  | cons c C =>
   obtain⟨_,_,h3,_⟩:=hC.2 0 k v0 b c rfl rfl
   have hC':pH σ π w es C:=⟨by have:=hC.1;simpa using this,fun j kk vv bb ee a1 a2=>hC.2 (j+1) kk vv bb ee (by simpa using a1) (by simpa using a2)⟩
   simp only[uB] at e
   split at e
   · rename_i hb
     cases e
     exact⟨0,k,v0,b,c,rfl,rfl,by simp [List.findIdx?_cons,h3,hb],rfl⟩
   · rename_i hb
     obtain⟨es2,h4,rfl⟩:=Option.map_eq_some_iff.1 e
     obtain⟨j,k',v',b',ee,q1,q2,q3,rfl⟩:=z8 hC' h4
     exact⟨j+1,k',v',b',ee,by simpa using q1,by simpa using q2,by simp [List.findIdx?_cons,h3,hb,q3],rfl⟩

theorem aES (R:Rel σ π w h) (t:Nat) (x s v:AV) (xu su vu:Value) (hx:VR σ π w x xu) (hs:VR σ π w s su) (hv:VR σ π w v vu) (e:(nJ x s v).run h=some (δ,L)) :
 cG P (do Instr.entryStore t xu su vu;pure .skip) σ π w h n δ:=by
 unfold nJ at e
 split at e
 · rename_i b kk born
   split at e
   · rename_i hvr
     obtain⟨y,L',hy,e5,_⟩:=lC e
     split at e5
     · rename_i es cl
       split at e5
       · rename_i es' hsb
         have hδ:=cT e5;subst hδ
         cases hs
         cases hx with
         | mp _ l hl =>
          obtain⟨C,c1,c2,c3⟩:=uE R hy hl
          obtain⟨j,k,v0,b0,ee,q1,q2,q3,rfl⟩:=z8 c2 hsb
          obtain⟨hk0,_,hbn,_,hkr⟩:=c2.2 j k v0 b0 ee q1 q2
          have ha2:C[j]? = some ee:=by simpa using q2
          have hfi:C.findIdx? (fun e=>(e.born:Int) == born)=some j:=by
           cases C with
           | mk l=>simpa using q3
          have hD:=mY (n:=n) R hy hl c1 (aEB (f:=fun e=>{ e with val:=vu }) c2 ha2 hbn hk0 hv hkr hvr (by simp [← hbn])) (cl':=cl) dD
          refine⟨_,_,_,σ,π,aIO (w':=World.setMap w l.blk (C.modify j fun e=>{ e with val:=vu }) cl) ?_,.inr ⟨rfl,rfl⟩,fS _ _ _,hD⟩
          simp [Instr.entryStore,eU c1,asInt,asIntOf,hfi,f7 c1]
       · exact(aO e5).elim
     · exact(aO e5).elim
   · exact(aO e).elim
 · exact(aO e).elim

theorem aKI {es:List (AV × AV × Nat)} {C:List MapEntry} (hC:pH σ π w es C) (j:Nat):pH σ π w (es.eraseIdx j) (C.eraseIdx j):=by
 refine⟨by simp [List.length_eraseIdx,hC.1],fun i k v b e h1 h2=>?_⟩
 rw[List.getElem?_eraseIdx] at h1 h2
 by_cases hij:i<j
 · rw[if_pos hij] at h1 h2
   exact hC.2 i k v b e h1 h2
 · rw[if_neg hij] at h1 h2
   exact hC.2 (i+1) k v b e h1 h2

theorem aM2 (R:Rel σ π w h) (t ty:Nat) (ts:Array TypeId) (x k:AV) (xu ku:Value) (hts:ts[0]? = some t) (hx:VR σ π w x xu) (hk:VR σ π w k ku) (e:(uD (dS P) t x k).run h=some (δ,L)) :
 cG P (do pure (.value (← Builtin.delete_ ts ty #[xu,ku]))) σ π w h n δ:=by
 unfold uD at e
 split at e
 · rename_i kt et sz bts z cmp hst
   obtain⟨d,inf,h1,h2,he⟩:=bT hst
   simp only[TI.mk.injEq] at he
   obtain rfl:=yJ he.1.symm
   split at e
   · rename_i hsk
     obtain⟨dk,hdk,hkd⟩:=rJ hsk
     split at e
     · have hδ:=bW e;subst hδ
       cases hx
       exact a8 R (u:=undef) (by simp [Builtin.delete_,hts,run_underlying h1,gW hdk hk hkd,undef]) (fS _ _ _)
     · rename_i b
       obtain⟨y,L',hy,e5,_⟩:=lC e
       split at e5
       · rename_i es cl
         cases hx with
         | mp _ l hl =>
          obtain⟨C,c1,c2,c3⟩:=uE R hy hl
          split at e5
          · rename_i j v0 born hm
            have hδ:=cT e5;subst hδ
            rcases k7 hk hkd c2 hm with⟨hh,_⟩ | ⟨j',v',b',k',ee,hh,a1,a2,a3,a4⟩
            · cases hh
            · simp only[Option.some.injEq,Prod.mk.injEq,Nat.zero_add] at hh a3
              obtain⟨rfl,rfl,rfl⟩:=hh
              have hfk:=Go.MapKept.run_findKey (P:=P) (w:=w) (kt:=kt) (k:=ku) hdk a3
              have hD:=mY (n:=n) R hy hl c1 (C':=C.eraseIdxIfInBounds j) (cl':=cl) (by
               have:=aKI c2 j
               cases C with
               | mk l=>simpa using this) dD
              refine⟨_,undef,_,σ,π,iV (w':=World.setMap w l.blk (C.eraseIdxIfInBounds j) cl) ?_,.inl rfl,fS _ _ _,hD⟩
              simp [Builtin.delete_,hts,run_underlying h1,gW hdk hk hkd,eU c1,hfk,f7 c1,undef]
          · rename_i hm
            have hδ:=cT e5;subst hδ
            rcases k7 hk hkd c2 hm with⟨_,hf⟩ | ⟨j',v',b',k',ee,hh,_⟩
            · have hfk:=Go.MapKept.run_findKey (P:=P) (w:=w) (kt:=kt) (k:=ku) hdk hf
              have hD:=mY (n:=n) R hy hl c1 (C':=C) (cl':=cl) c2 dD
              refine⟨_,undef,_,σ,π,iV (w':=World.setMap w l.blk C cl) ?_,.inl rfl,fS _ _ _,hD⟩
              simp [Builtin.delete_,hts,run_underlying h1,gW hdk hk hkd,eU c1,hfk,f7 c1,undef]
            · cases hh
          · exact(aO e5).elim
       · exact(aO e5).elim
     · exact(aO e).elim
   · exact(aO e).elim
 · exact(aO e).elim

theorem aKX (R:Rel σ π w h) (hn:h n=none) (t:Nat):cG P (do pure (.value (← Instr.makeMap t none))) σ π w h n ⟨.mp n,[],[.map [] 0]⟩:=by
 have hnon:=R.non n hn
 have E:Ext σ π w (σ.set n 0 ⟨w.heap.size,0⟩) π (w.alloc (.map #[] 0)):=Ext.of_old (fun b g l hl=>Sig.set_old (hnon 0) hl) R.prot R.lt (fun B hB=>dC w _ hB)
 refine⟨_,.map (some w.heap.size),w.alloc (.map #[] 0),σ.set n 0 ⟨w.heap.size,0⟩,π,iV rfl,.inl rfl,.mp n ⟨w.heap.size,0⟩ (Sig.set_same ..),?_⟩
 refine aH6 R hn _ _ 0 _ (.map #[] 0) (fun B hB=>dC w _ hB) (eW ..) (iE ..) rfl rfl rfl ?_
 exact⟨⟨w.heap.size,0⟩,#[],Sig.set_same ..,iE w _,rfl,fun o ho=>Nat.lt_irrefl _ (R.prot _ _ ho),fun i k v b e h1=>by simp at h1⟩

theorem op_min (R:Rel σ π w h) (op:Bool) (ts:Array TypeId) (ty:Nat) (x y:AV) (xu yu:Value) (hx:VR σ π w x xu) (hy:VR σ π w y yu) {v:AV} (e:aMin op x y=some v) :
 (op=true→cG P (do pure (.value (← Builtin.max_ ts ty #[xu,yu]))) σ π w h n ⟨v,[],[]⟩)∧(op=false→cG P (do pure (.value (← Builtin.min_ ts ty #[xu,yu]))) σ π w h n ⟨v,[],[]⟩):=by
 unfold aMin at e
 split at e
 · cases hx;cases hy
   split at e
   · rename_i hk
     subst hk
     cases e
     refine⟨fun ho=>?_,fun ho=>?_⟩
     · subst ho
       exact a8 R (u:=.int _ _) (by simp [Builtin.max_,Builtin.max2]) (.int _ _)
     · subst ho
       exact a8 R (u:=.int _ _) (by simp [Builtin.min_,Builtin.min2]) (.int _ _)
   · cases e
 · cases e

theorem op_cap (R:Rel σ π w h) (t ty:Nat) (x:AV) (xu:Value) (hx:VR σ π w x xu) (e:(aCap (dS P) t x).run h=some (δ,L)) :
 cG P (do pure (.value (← Builtin.cap_ #[t] ty #[xu]))) σ π w h n δ:=by
 unfold aCap at e
 split at e
 · rename_i el sz bts z cmp hst
   obtain⟨d,inf,h1,h2,he⟩:=bT hst
   simp only[TI.mk.injEq] at he
   obtain rfl:=gK he.1.symm
   split at e
   · have hδ:=bW e;subst hδ
     cases hx
     exact a8 R (u:=.int .i64 0) (by simp [Builtin.cap_,run_underlying h1,goInt]) (.int _ _)
   · have hδ:=bW e;subst hδ
     cases hx
     exact a8 R (u:=.int .i64 0) (by simp [Builtin.cap_,run_underlying h1,goInt]) (.int _ _)
   · exact(aO e).elim
 · exact(aO e).elim

end
end Go.Ws

namespace Go.Ws
set_option linter.unusedVariables false
set_option linter.unusedSimpArgs false

theorem t6 {v:AV}:∀{l:List AV},v∈l→∀b∈v.refs,b∈AV.refsL l
 | x::l,hv,b,hb=>by
  simp only[AV.refsL,List.mem_append]
  rcases List.mem_cons.1 hv with rfl | hv
  · exact .inl hb
  · exact .inr (t6 hv b hb)

theorem aAO (r:Nat→Nat):∀(l:List AV) (i:Nat),(AV.renL r l)[i]? = (l[i]?).map (AV.ren r)
 | [],i=>by simp [AV.renL]
 | v::l,0=>by simp [AV.renL]
 | v::l,i+1=>by simpa [AV.renL] using aAO r l i

theorem fG (r:Nat→Nat):∀(l:List AV),(AV.renL r l).length=l.length
 | []=>rfl
 | v::l=>by simp [AV.renL,fG r l]

mutual
theorem ren_id (r:Nat→Nat):∀(v:AV),v.refs=[]→v.ren r=v
 | .bool _,_=>rfl | .int _ _,_=>rfl | .str _,_=>rfl | .nilp,_=>rfl
 | .hp _ _,h=>by simp [AV.refs] at h
 | .ep _ _ _ _ _,h=>by simp [AV.refs] at h
 | .ip _ _ _ _,_=>rfl | .nils,_=>rfl | .emps,_=>rfl | .any,_=>rfl | .inl _ _,_=>rfl | .sl _ _,_=>rfl
 | .ref _ _ _ _ _ _,h=>by simp [AV.refs] at h
 | .mapn,_=>rfl
 | .mp _,h=>by simp [AV.refs] at h
 | .fn f c,h=>by simp only[AV.refs] at h;simp only[AV.ren,renL_id r c h]
 | .ps c,h=>by simp only[AV.refs] at h;simp only[AV.ren,renL_id r c h]
 | .pp c i,h=>by simp only[AV.refs] at h;simp only[AV.ren,renL_id r c h]
 | .raw _,_=>rfl
 | .fm _ _ _ _,_=>rfl
 | .nilf,_=>rfl
 | .agg l,h=>by simp only[AV.refs] at h;simp only[AV.ren,renL_id r l h]
 | .tup l,h=>by simp only[AV.refs] at h;simp only[AV.ren,renL_id r l h]
theorem renL_id (r:Nat→Nat):∀(l:List AV),AV.refsL l=[]→AV.renL r l=l
 | [],_=>rfl
 | v::l,h=>by
  simp only[AV.refsL,List.append_eq_nil_iff] at h
  simp only[AV.renL,ren_id r v h.1,renL_id r l h.2]
end

section
variable {P:Program} {σ σ':Sig} {π π':bX} {w w':World} {h:Nat→Option Blk} {n:Nat} {δ:Delta} {L:List Nat}

theorem VR.ren {ρ:Nat→Nat} {v:AV} {u:Value} (hv:VR σ π w v u):(∀b∈v.refs,∀g l,σ b g=some l→σ' (ρ b) g=some l)→VR σ' π w (v.ren ρ) u:=by
 have keyL:∀(c:List AV) (d:Array Value),(∀(i:Nat) v u,c[i]? = some v→d[i]? = some u→(∀b∈v.refs,∀g l,σ b g=some l→σ' (ρ b) g=some l)→VR σ' π w (v.ren ρ) u) →
  (∀b∈AV.refsL c,∀g l,σ b g=some l→σ' (ρ b) g=some l)→∀(i:Nat) v u,(AV.renL ρ c)[i]? = some v→d[i]? = some u→VR σ' π w v u:=by
  intro c d ih hρ i v u hi hu
  rw[aAO] at hi
  obtain⟨v0,hv0,rfl⟩:=Option.map_eq_some_iff.1 hi
  exact ih i v0 u hv0 hu (fun b hb=>hρ b (t6 (List.mem_of_getElem? hv0) b hb))
 induction hv with
 | bool b=>intro _;exact .bool b
 | int k n=>intro _;exact .int k n
 | str s=>intro _;exact .str s
 | nilp=>intro _;exact .nilp
 | hp b o l hl=>intro hρ;exact .hp _ o l (hρ b (by simp [AV.refs]) 0 l hl)
 | ep sz b g i j l hl hi=>intro hρ;exact .ep sz _ g i j l (hρ b (by simp [AV.refs]) g l hl) hi
 | ip sz rows i j B o u hf hi hc hv ih =>
  intro _
  refine .ip sz rows i j B o u hf hi hc (fun r q row v hr hq=>?_)
  have hfl:=((hf row (List.mem_of_getElem? hr)).2 v (List.mem_of_getElem? hq)).2
  have:=ih r q row v hr hq (by rw[hfl];intro b hb;cases hb)
  rwa [ren_id ρ v hfl] at this
 | nils=>intro _;exact .nils
 | emps a=>intro _;exact .emps a
 | any u=>intro _;exact .any u
 | inl0 sz a c=>intro _;exact .inl0 sz a c
 | inl sz rows B o c u hf hl hc hv ih =>
  intro _
  refine .inl sz rows B o c u hf hl hc (fun r q row v hr hq=>?_)
  have hfl:=((hf row (List.mem_of_getElem? hr)).2 v (List.mem_of_getElem? hq)).2
  have:=ih r q row v hr hq (by rw[hfl];intro b hb;cases hb)
  rwa [ren_id ρ v hfl] at this
 | sl0 sz a c h0=>intro _;exact .sl0 sz a c h0
 | sl sz rows B o c u hf hl hc hv ih =>
  intro _
  refine .sl sz rows B o c u hf hl hc (fun r q row v hr hq=>?_)
  have hfl:=((hf row (List.mem_of_getElem? hr)).2 v (List.mem_of_getElem? hq)).2
  have:=ih r q row v hr hq (by rw[hfl];intro b hb;cases hb)
  rwa [ren_id ρ v hfl] at this
 | ref0 sz b g a=>intro _;exact .ref0 sz _ g a
 | ref sz b g i n flg a c l hl hi hn ha hf C e hC hs=>intro hρ;exact .ref sz _ g i n flg a c l (hρ b (by simp [AV.refs]) g l hl) hi hn ha hf C e hC hs
 | mapn=>intro _;exact .mapn
 | mp b l hl=>intro hρ;exact .mp _ l (hρ b (by simp [AV.refs]) 0 l hl)
 | fn f c d hl hv hf ih=>intro hρ;exact .fn f _ d (by rw[fG];exact hl) (keyL c d ih hρ) hf
 | bm f c d hl hv ih=>intro hρ;exact .bm f _ d (by rw[fG];exact hl) (keyL c d ih hρ)
 | ps c d B o k hk hc hl hv ih =>
  intro hρ
  have:=VR.ps (σ:=σ') (π:=π) (w:=w) (AV.renL ρ c) d B o k (by rw[fG];exact hk) hc (by rw[fG];exact hl) (keyL c d ih hρ)
  rwa [fG] at this
 | pp c i d B o hi hc hl hv ih=>intro hρ;exact .pp _ i d B o (by rw[fG];exact hi) hc (by rw[fG];exact hl) (keyL c d ih hρ)
 | raw u=>intro _;exact .raw u
 | fm ks vs bs B cl C hw hp h1 h2 h3 hk hv hb hr ihk ihv =>
  intro _
  refine .fm ks vs bs B cl C hw hp h1 h2 h3 (fun i k e hi he=>?_) (fun i v e hi he=>?_) hb hr
  · have hfl:=hr k (List.mem_append.2 (.inl (List.mem_of_getElem? hi)))
    have:=ihk i k e hi he (by rw[hfl];intro b hb;cases hb)
    rwa [ren_id ρ k hfl] at this
  · have hfl:=hr v (List.mem_append.2 (.inr (List.mem_of_getElem? hi)))
    have:=ihv i v e hi he (by rw[hfl];intro b hb;cases hb)
    rwa [ren_id ρ v hfl] at this
 | nilf=>intro _;exact .nilf
 | agg c d hl hv ih=>intro hρ;exact .agg _ d (by rw[fG];exact hl) (keyL c d ih hρ)
 | tup c d hl hv ih=>intro hρ;exact .tup _ d (by rw[fG];exact hl) (keyL c d ih hρ)

theorem VRs.ren {ρ:Nat→Nat} {c:List AV} {d:Array Value} (hv:VRs σ π w c d) (hρ:∀b∈AV.refsL c,∀g l,σ b g=some l→σ' (ρ b) g=some l):VRs σ' π w (AV.renL ρ c) d:=by
 refine⟨by rw[fG];exact hv.1,fun i v u hi hu=>?_⟩
 rw[aAO] at hi
 obtain⟨v0,hv0,rfl⟩:=Option.map_eq_some_iff.1 hi
 exact(hv.2 i v0 u hv0 hu).ren (fun b hb=>hρ b (t6 (List.mem_of_getElem? hv0) b hb))

theorem VR.flat_any {v:AV} {u:Value} (hv:VR σ π w v u) (hf:v.refs=[]) (σ':Sig):VR σ' π w v u:=by
 have:=hv.ren (σ':=σ') (ρ:=id) (by rw[hf];intro b hb;cases hb)
 rwa [ren_id id v hf] at this

theorem BR.ren {ρ:Nat→Nat} {b b':Nat} {x:Blk} (k:BR σ π w b x) (hb:∀g,σ' b' g=σ b g) (hρ:∀c∈x.refs,∀g l,σ c g=some l→σ' (ρ c) g=some l):BR σ' π w b' (x.ren ρ):=by
 cases x with
 | row c =>
  obtain⟨l,C,e,h1,h2,h3,h4,h5⟩:=k
  refine⟨l,C,e,(hb 0).trans h1,h2,by rw[fG];exact h3,fun i v hi=>?_,h5⟩
  rw[aAO] at hi
  obtain⟨v0,hv0,rfl⟩:=Option.map_eq_some_iff.1 hi
  obtain⟨u,hu,hv⟩:=h4 i v0 hv0
  exact⟨u,hu,hv.ren (fun b hb=>hρ b (t6 (List.mem_of_getElem? hv0) b hb))⟩
 | arr sz rows gen wgen ro =>
  obtain⟨h1,h2,h3,h4,h5⟩:=k
  refine⟨h1,h2,h3,fun g hg=>(hb g).trans (h4 g hg),?_⟩
  rcases h5 with⟨h5,h6⟩ | ⟨⟨l,h5,h6,h7,h8⟩,h9⟩
  · exact .inl ⟨h5,fun g=>(hb g).trans (h6 g)⟩
  refine .inr ⟨⟨l,(hb _).trans h5,h6,h7,h8⟩,fun g lg hlg hg hg'=>?_⟩
  obtain⟨l',C,e,q1,q2,q3,q4,q5⟩:=h9 g lg (by rw[← hb g];exact hlg) hg hg'
  refine⟨l',C,e,(hb g).trans q1,q2,q3,q4,fun r row hr hrow i v hi=>?_⟩
  obtain⟨u,hu,hv⟩:=q5 r row hr hrow i v hi
  exact⟨u,hu,hv.flat_any ((h3 row (List.mem_of_getElem? hrow)).2 v (List.mem_of_getElem? hi)).2 σ'⟩
 | map es clock =>
  obtain⟨l,C,h1,h2,h3,h4,h5⟩:=k
  refine⟨l,C,(hb 0).trans h1,h2,h3,h4,fun i kk v born e hi he=>?_⟩
  obtain⟨q1,q2,q3,q4,q5⟩:=h5 i kk v born e hi he
  exact⟨q1.flat_any q5 σ',q2.flat_any q4 σ',q3,q4,q5⟩
 | none=>exact fun g=>(hb g).trans (k g)

theorem xK:∀{k:Nat} {todo:List Nat} {acc bs:List (Nat × Blk)} {L:List Nat},(yY k todo acc).run h=some (bs,L) →
 (acc.map (·.1)).Nodup→(∀p∈acc,h p.1=some p.2)→(∀p∈acc,∀c∈p.2.refs,c∈acc.map (·.1)∨c∈todo) →
 (bs.map (·.1)).Nodup∧(∀p∈bs,h p.1=some p.2)∧(∀p∈bs,∀c∈p.2.refs,c∈bs.map (·.1))∧(∀c∈todo,c∈bs.map (·.1))∧(∀c∈acc.map (·.1),c∈bs.map (·.1))∧(∀c∈bs.map (·.1),c∈acc.map (·.1)∨c∈L)
 | 0,[],acc,bs,L,e,h1,h2,h3=>by
  have:=cT e
  subst this
  exact⟨h1,h2,fun p hp c hc=>(h3 p hp c hc).resolve_right (by simp),fun c hc=>(by cases hc),fun c hc=>hc,fun c hc=>.inl hc⟩
 | 0,_::_,acc,bs,L,e,_,_,_=>(aO e).elim
 | k+1,[],acc,bs,L,e,h1,h2,h3=>by
  have:=cT e
  subst this
  exact⟨h1,h2,fun p hp c hc=>(h3 p hp c hc).resolve_right (by simp),fun c hc=>(by cases hc),fun c hc=>hc,fun c hc=>.inl hc⟩
 | k+1,b::todo,acc,bs,L,e,h1,h2,h3=>by
  simp only[yY] at e
  split at e
  · rename_i hin
    have hb:b∈acc.map (·.1):=by
     simp only[List.any_eq_true] at hin
     obtain⟨p,hp,hpb⟩:=hin
     exact List.mem_map.2 ⟨p,hp,eq_of_beq hpb⟩
    obtain⟨a1,a2,a3,a4,a5,a6⟩:=xK e h1 h2 (fun p hp c hc=>(h3 p hp c hc).elim .inl (fun hc=>(List.mem_cons.1 hc).elim (fun hh=>.inl (hh▸hb)) .inr))
    exact⟨a1,a2,a3,fun c hc=>(List.mem_cons.1 hc).elim (fun hh=>hh▸a5 b hb) (a4 c),a5,a6⟩
  · rename_i hin
    obtain⟨x,L',hx,e',rfl⟩:=lC e
    have hnb:b∉acc.map (·.1):=by
     intro hb
     obtain⟨p,hp,hpb⟩:=List.mem_map.1 hb
     exact hin (List.any_eq_true.2 ⟨p,hp,by simp [hpb]⟩)
    obtain⟨a1,a2,a3,a4,a5,a6⟩:=xK e' (by
     rw[List.map_append,List.nodup_append]
     exact⟨h1,by simp,fun a ha c hc=>by simp at hc;subst hc;exact fun e=>hnb (e▸ha)⟩)
     (fun p hp=>by
      rcases List.mem_append.1 hp with hp | hp
      · exact h2 p hp
      · simp at hp;subst hp;exact hx)
     (fun p hp c hc=>by
      simp only[List.map_append,List.mem_append,List.map_cons,List.map_nil,List.mem_singleton]
      rcases List.mem_append.1 hp with hp | hp
      · rcases h3 p hp c hc with hh | hh
        · exact .inl (.inl hh)
        · rcases List.mem_cons.1 hh with rfl | hh
          · exact .inl (.inr rfl)
          · exact .inr (.inl hh)
      · simp at hp;subst hp;exact .inr (.inr hc))
    refine⟨a1,a2,a3,fun c hc=>?_,fun c hc=>a5 c (by simp only[List.map_append,List.mem_append];exact .inl hc),fun c hc=>?_⟩
    · rcases List.mem_cons.1 hc with rfl | hc
      · exact a5 c (by simp)
      · exact a4 c (List.mem_append.2 (.inl hc))
    · rcases a6 c hc with hh | hh
      · simp only[List.map_append,List.mem_append,List.map_cons,List.map_nil,List.mem_singleton] at hh
        rcases hh with hh | rfl
        · exact .inl hh
        · exact .inr (List.mem_cons_self ..)
      · exact .inr (List.mem_cons_of_mem _ hh)

def Bor (π:bX) (σ:Sig) (bw:List (Nat × Blk)):bX:=fun B o=>π B o∨∃b s rows gen wgen g l,(b,Blk.arr s rows gen wgen true)∈bw∧wgen≤g∧g≤gen∧σ b g=some l∧l.blk=B∧o<l.m*s

def Lent (h:Nat→Option Blk) (bw:List (Nat × Blk)):Prop:=∀p∈bw,∃s rows gen wgen ro,h p.1=some (.arr s rows gen wgen ro)∧p.2 = .arr s rows gen wgen true

theorem Bor.mono {bw bw':List (Nat × Blk)} (hs:∀p∈bw,p∈bw') {B o:Nat} (hp:Bor π σ bw B o):Bor π σ bw' B o:=by
 rcases hp with hp | ⟨b,s,rows,gen,wgen,g,l,h1,h2⟩
 · exact .inl hp
 · exact .inr ⟨b,s,rows,gen,wgen,g,l,hs _ h1,h2⟩

theorem VR.prot (hp:∀B o,π B o→π' B o) {v:AV} {u:Value} (hv:VR σ π w v u):VR σ π' w v u :=
 hv.mono ⟨fun _ _ _ h=>h,hp,fun _ _ _=>rfl,fun _ _ _ C _ fr _ h=>⟨C,fr,h,rfl⟩,fun _ _ _ _ _ h=>h⟩

theorem rZ (R:Rel σ π w h) {v v':AV} {u:Value} {bw:List (Nat × Blk)} (hv:VR σ π w v u) (e:(nE v).run h=some ((v',bw),L)):Lent h bw∧VR σ (Bor π σ bw) w v' u:=by
 unfold nE at e
 split at e
 · rename_i sz b g i m flg
   obtain⟨y,L',hy,e5,_⟩:=lC e
   split at e5
   · rename_i s rows gen wgen ro
     split at e5
     · rename_i hc
       obtain⟨rfl,hg1,hg2,hle⟩:=hc
       have:=cT e5
       simp only[Prod.mk.injEq] at this
       obtain⟨rfl,rfl⟩:=this
       refine⟨fun p hp=>by simp at hp;subst hp;exact⟨_,_,_,_,_,hy,rfl⟩,?_⟩
       cases hv with
       | ref0 =>
        simp only[List.take_zero]
        exact .sl0 _ _ _ fun _=>rfl
       | ref _ _ _ _ _ _ a c l hl hi hn ha hf C e hC hs =>
        obtain⟨q1,q2,q3,q4,q5,q6⟩:=BR.real (R.blk b _ hy) hl
        obtain⟨l',C',te,a1,a2,a3,a4,a5⟩:=q6 g _ hl hg1 hg2
        rw[hl] at a1
        cases a1
        have hlen:((rows.drop i).take m).length=m:=by simp;omega
        rcases Nat.eq_zero_or_pos m with h0 | h0
        · subst h0
          simp only[List.take_zero]
          exact .sl0 _ _ _ fun h=>by cases h
        · obtain rfl:=ha (by omega)
          have hrow:∀(r:Nat) row,((rows.drop i).take m)[r]? = some row→r<m∧rows[i+r]? = some row:=by
           intro r row hr
           simp only[List.getElem?_take,List.getElem?_drop] at hr
           split at hr
           · exact⟨by assumption,hr⟩
           · cases hr
          have hcell:∀(r q:Nat) row v,((rows.drop i).take m)[r]? = some row→row[q]? = some v→∃u,w.cell? ⟨l.blk,i*s+r*s+q,none⟩=some u∧VR σ π w v u∧i*s+r*s+q<l.m*s:=by
           intro r q row v hr hq
           obtain⟨hrm,hr'⟩:=hrow r row hr
           obtain⟨u,hu,hvu⟩:=a5 (i+r) row (by omega) hr' q v hq
           refine⟨u,?_,hvu,?_⟩
           · rw[Nat.add_mul] at hu
             simp [World.cell?,a3,hu]
           · have hql:=(List.getElem?_eq_some_iff.1 hq).1
             rw[(q3 row (List.mem_of_getElem? hr')).1] at hql
             have:(i+r+1)*s≤l.m*s:=Nat.mul_le_mul_right _ (by omega)
             rw[Nat.succ_mul,Nat.add_mul] at this
             omega
          have:=VR.inl (σ:=σ) (π:=Bor π σ [(b,.arr s rows gen wgen true)]) (w:=w) s ((rows.drop i).take m) l.blk (i*s) c (fun r q=>(w.cell? ⟨l.blk,i*s+r*s+q,none⟩).getD undef) (aA4 q3 i m) (by rw[hlen];exact hn)
           (fun r q row v hr hq=>by
            obtain⟨u,hu,_,hlt⟩:=hcell r q row v hr hq
            exact⟨by rw[hu];rfl,.inr ⟨b,s,rows,gen,wgen,g,l,by simp,hg1,hg2,hl,rfl,hlt⟩⟩)
           (fun r q row v hr hq=>by
            obtain⟨u,hu,hvu,_⟩:=hcell r q row v hr hq
            rw[hu]
            exact hvu.prot (fun _ _ h=>.inl h))
          rw[hlen] at this
          exact this.toSl
     · exact(aO e5).elim
   · exact(aO e5).elim
 · have:=cT e
   simp only[Prod.mk.injEq] at this
   obtain⟨rfl,rfl⟩:=this
   exact⟨fun p hp=>(by cases hp),hv.prot (fun _ _ h=>.inl h)⟩

theorem VRs.tail {v:AV} {l:List AV} {d:Array Value} (hv:VRs σ π w (v::l) d):∃u r,d=(u::r).toArray∧VR σ π w v u∧VRs σ π w l r.toArray:=by
 obtain⟨dl⟩:=d
 cases dl with
 | nil=>have:=hv.1;simp at this
 | cons u r =>
  refine⟨u,r,rfl,hv.2 0 v u rfl rfl,by have:=hv.1;simpa using this,fun i x y hx hy=>hv.2 (i+1) x y (by simpa using hx) (by simpa using hy)⟩

theorem VRs.cons {v:AV} {l:List AV} {u:Value} {r:List Value} (h1:VR σ π w v u) (h2:VRs σ π w l r.toArray):VRs σ π w (v::l) (u::r).toArray:=by
 refine⟨by have:=h2.1;simpa using this,fun i x y hx hy=>?_⟩
 cases i with
 | zero=>simp at hx hy;subst hx;subst hy;exact h1
 | succ i=>exact h2.2 i x y (by simpa using hx) (by simpa using hy)

theorem VRs.prot (hp:∀B o,π B o→π' B o) {v:List AV} {u:Array Value} (hv:VRs σ π w v u):VRs σ π' w v u:=⟨hv.1,fun i x y h1 h2=>(hv.2 i x y h1 h2).prot hp⟩

theorem Lent.append {a b:List (Nat × Blk)} (h1:Lent h a) (h2:Lent h b):Lent h (a++b):=fun p hp=>(List.mem_append.1 hp).elim (h1 p) (h2 p)

theorem zQ (R:Rel σ π w h):∀{l l':List AV} {d:Array Value} {bw:List (Nat × Blk)} {L:List Nat},VRs σ π w l d→(uP l).run h=some ((l',bw),L)→Lent h bw∧VRs σ (Bor π σ bw) w l' d
 | [],l',d,bw,L,hv,e=>by
  have:=cT e
  simp only[Prod.mk.injEq] at this
  obtain⟨rfl,rfl⟩:=this
  exact⟨fun p hp=>(by cases hp),hv.prot (fun _ _ h=>.inl h)⟩
 | v::l,l',d,bw,L,hv,e=>by
  obtain⟨u,r,rfl,hvu,hvl⟩:=hv.tail
  simp only[uP] at e
  obtain⟨⟨v1,b1⟩,L1,L2,e1,e2,_⟩:=kO e
  obtain⟨⟨l1,b2⟩,L3,L4,e3,e4,_⟩:=kO e2
  have:=cT e4
  simp only[Prod.mk.injEq] at this
  obtain⟨rfl,rfl⟩:=this
  obtain⟨h1,h2⟩:=rZ R hvu e1
  obtain⟨h3,h4⟩:=zQ R hvl e3
  exact⟨h1.append h3,.cons (h2.prot (fun B o h=>Bor.mono (fun p hp=>List.mem_append.2 (.inl hp)) h)) (h4.prot (fun B o h=>Bor.mono (fun p hp=>List.mem_append.2 (.inr hp)) h))⟩

theorem zK (R:Rel σ π w h):∀{l l':List AV} {d:Array Value} {bw:List (Nat × Blk)} {L:List Nat},VRs σ π w l d→(kR l).run h=some ((l',bw),L)→Lent h bw∧VRs σ (Bor π σ bw) w l' d
 | [],l',d,bw,L,hv,e=>by
  have:=cT e
  simp only[Prod.mk.injEq] at this
  obtain⟨rfl,rfl⟩:=this
  exact⟨fun p hp=>(by cases hp),hv.prot (fun _ _ h=>.inl h)⟩
 | v::l,l',d,bw,L,hv,e=>by
  obtain⟨u,r,rfl,hvu,hvl⟩:=hv.tail
  have hhead:∃v1 b1 l1 b2 L3,l'=v1::l1∧bw=b1++b2∧Lent h b1∧VR σ (Bor π σ b1) w v1 u∧(kR l).run h=some ((l1,b2),L3):=by
   unfold kR at e
   split at e
   · rename_i hh;cases hh
   · rename_i c l0 hh
     cases hh
     obtain⟨⟨c1,b1⟩,L1,L2,e1,e2,_⟩:=kO e
     obtain⟨⟨l1,b2⟩,L3,L4,e3,e4,_⟩:=kO e2
     have:=cT e4
     simp only[Prod.mk.injEq] at this
     obtain⟨rfl,rfl⟩:=this
     cases hvu with
     | agg _ d hl hv2 =>
      obtain⟨h1,h2⟩:=zQ R (⟨hl,hv2⟩:VRs σ π w c d) e1
      exact⟨_,b1,l1,b2,L3,rfl,rfl,h1,.agg _ _ h2.1 h2.2,e3⟩
   · rename_i v0 l0 _ hh
     cases hh
     obtain⟨⟨c1,b1⟩,L1,L2,e1,e2,_⟩:=kO e
     obtain⟨⟨l1,b2⟩,L3,L4,e3,e4,_⟩:=kO e2
     have:=cT e4
     simp only[Prod.mk.injEq] at this
     obtain⟨rfl,rfl⟩:=this
     obtain⟨h1,h2⟩:=rZ R hvu e1
     exact⟨_,b1,l1,b2,L3,rfl,rfl,h1,h2,e3⟩
  obtain⟨v1,b1,l1,b2,L3,rfl,rfl,h1,h2,e3⟩:=hhead
  obtain⟨h3,h4⟩:=zK R hvl e3
  exact⟨h1.append h3,.cons (h2.prot (fun B o h=>Bor.mono (fun p hp=>List.mem_append.2 (.inl hp)) h)) (h4.prot (fun B o h=>Bor.mono (fun p hp=>List.mem_append.2 (.inr hp)) h))⟩

end
end Go.Ws

namespace Go.Ws
set_option linter.unusedVariables false
set_option linter.unusedSimpArgs false

theorem tZ {b:Nat}:∀{l:List (Nat × Blk)} {h:Nat→Option Blk},b∉l.map (·.1)→pN h l b=h b
 | [],h,_=>rfl
 | (c,x)::l,h,hn=>by
  simp only[List.map_cons,List.mem_cons,not_or] at hn
  rw[pN,tZ hn.2,if_neg hn.1]

theorem aA6 {b:Nat} {x:Blk}:∀{l:List (Nat × Blk)} {h:Nat→Option Blk},b∈l.map (·.1)→(∀p∈l,p.1=b→p.2=x)→pN h l b=some x
 | (c,y)::l,h,hm,ha=>by
  rw[pN]
  by_cases hb:b∈l.map (·.1)
  · exact aA6 hb (fun p hp=>ha p (List.mem_cons_of_mem _ hp))
  · rw[tZ hb]
    simp only[List.map_cons,List.mem_cons] at hm
    obtain rfl:=hm.resolve_right hb
    rw[if_pos rfl]
    exact congrArg some (ha (b,y) (List.mem_cons_self ..) rfl)

theorem aER {ids:List Nat} {xs:List Blk} (hn:ids.Nodup) (hl:xs.length=ids.length) {b:Nat} (hb:b∈ids):∃x,xs[ids.idxOf b]? = some x∧∀p∈ids.zip xs,p.1=b→p.2=x:=by
 have hlt:ids.idxOf b<xs.length:=by rw[hl];exact List.idxOf_lt_length_iff.2 hb
 refine⟨xs[ids.idxOf b],List.getElem?_eq_getElem hlt,fun p hp he=>?_⟩
 obtain⟨i,hi⟩:=List.mem_iff_getElem?.1 hp
 rw[List.getElem?_zip_eq_some] at hi
 have hib:ids[i]? = some b:=by rw[hi.1,he]
 have hil:i<ids.length:=(List.getElem?_eq_some_iff.1 hib).1
 have:ids.idxOf b=i:=by
  have h1:ids[i]=b:=(List.getElem?_eq_some_iff.1 hib).2
  rw[← h1]
  exact List.Nodup.idxOf_getElem hn i hil
 have h2:=hi.2
 rw[← this,List.getElem?_eq_getElem hlt] at h2
 exact(Option.some.inj h2).symm

section
variable {P:Program} {σ:Sig} {π:bX} {w:World} {h:Nat→Option Blk} {n:Nat} {δ:Delta} {L:List Nat}

def Ret (σ:Sig) (π:bX) (w:World) (v:AV) (h':List Blk) (e:Ending) (w':World):Prop :=
 ∃u σ' π',e = .returned u∧VR σ' π' w' v u∧Done σ π w σ' π' w' (h'[·]?)

def Tri (P:Program) (f:Nat) (args:List AV) (h:List Blk) (v:AV) (h':List Blk):Prop :=
 (∀cargs w,(callFunc f cargs).run P w = .ok (.enter f cargs) w)∧h.length≤h'.length ∧
 ∀σ π w cargs,Rel σ π w (h[·]?)→VRs σ π w args cargs→Calls P f cargs w (Ret σ π w v h')

def tT (P:Program) (call:iO):Prop:=∀f args h v h',call f args h=some (v,h')→Tri P f args h v h'

mutual
theorem hasInl_prot {σ:Sig} {π π':bX} {w:World}:∀(v:AV) (u:Value),v.hasInl=false→VR σ π w v u→VR σ π' w v u
 | .bool _,_,_,hv=>by cases hv;constructor
 | .int _ _,_,_,hv=>by cases hv;constructor
 | .str _,_,_,hv=>by cases hv;constructor
 | .nilp,_,_,hv=>by cases hv;constructor
 | .hp _ _,_,_,hv=>by cases hv with | hp _ _ l hl=>exact .hp _ _ l hl
 | .ep _ _ _ _ _,_,_,hv=>by cases hv with | ep _ _ _ _ _ l hl hi=>exact .ep _ _ _ _ _ l hl hi
 | .ip _ _ _ _,_,h,_=>by simp [AV.hasInl] at h
 | .nils,_,_,hv=>by cases hv;constructor
 | .emps,_,_,hv=>by cases hv;constructor
 | .inl _ _,_,h,_=>by simp [AV.hasInl] at h
 | .sl _ _,_,h,_=>by simp [AV.hasInl] at h
 | .any,_,_,_=>.any _
 | .ref _ _ _ _ _ _,_,_,hv=>by cases hv with | ref0 _ _ _ a=>exact .ref0 _ _ _ a | ref _ _ _ _ _ _ a c l hl hi hn ha hf C e hC hs=>exact .ref _ _ _ _ _ _ a c l hl hi hn ha hf C e hC hs
 | .mapn,_,_,hv=>by cases hv;constructor
 | .mp _,_,_,hv=>by cases hv with | mp _ l hl=>exact .mp _ l hl
 | .fn f c,_,h,hv=>by
  cases hv with
  | fn _ _ d hl hv hf=>exact .fn f c d hl (hasInlL_prot c d (by simpa [AV.hasInl] using h) hv) hf
  | bm f _ d hl hv=>exact .bm f c d hl (hasInlL_prot c d (by simpa [AV.hasInl] using h) hv)
 | .ps _,_,h,_=>by simp [AV.hasInl] at h
 | .pp _ _,_,h,_=>by simp [AV.hasInl] at h
 | .raw _,_,_,hv=>by cases hv;constructor
 | .fm _ _ _ _,_,h,_=>by simp [AV.hasInl] at h
 | .nilf,_,_,hv=>by cases hv;constructor
 | .agg c,_,h,hv=>by
  cases hv with
  | agg _ d hl hv=>exact .agg c d hl (hasInlL_prot c d (by simpa [AV.hasInl] using h) hv)
 | .tup c,_,h,hv=>by
  cases hv with
  | tup _ d hl hv=>exact .tup c d hl (hasInlL_prot c d (by simpa [AV.hasInl] using h) hv)
theorem hasInlL_prot {σ:Sig} {π π':bX} {w:World}:∀(c:List AV) (d:Array Value),AV.hasInlL c=false→(∀(i:Nat) v u,c[i]? = some v→d[i]? = some u→VR σ π w v u) →
 ∀(i:Nat) v u,c[i]? = some v→d[i]? = some u→VR σ π' w v u
 | [],_,_,_,i,v,u,hi,_=>by simp at hi
 | x::c,d,h,hv,0,v,u,hi,hu=>by
  simp only[AV.hasInlL,Bool.or_eq_false_iff] at h
  simp at hi
  subst hi
  exact hasInl_prot x u h.1 (hv 0 x u rfl hu)
 | x::c,d,h,hv,i+1,v,u,hi,hu=>by
  simp only[AV.hasInlL,Bool.or_eq_false_iff] at h
  obtain⟨dl⟩:=d
  cases dl with
  | nil=>simp at hu
  | cons y dl =>
   exact hasInlL_prot c dl.toArray h.2 (fun j v u h1 h2=>hv (j+1) v u (by simpa using h1) (by simpa using h2)) i v u (by simpa using hi) (by simpa using hu)
end

theorem rel_mini (R:Rel σ π w h) {bs:List (Nat × Blk)} (hn:(bs.map (·.1)).Nodup) (hb:∀p∈bs,h p.1=some p.2) (hc:∀p∈bs,∀c∈p.2.refs,c∈bs.map (·.1))
 {π1:bX} (hp:∀B o,π B o→π1 B o) (hp2:∀B o,π1 B o→B<w.heap.size) (hpm:∀p∈bs,∀g l,σ p.1 g=some l→∀o,π1 l.blk o→π l.blk o) :
 Rel (fun i g=>match (bs.map (·.1))[i]? with | some b=>σ b g | none=>none) π1 w ((bs.map fun x=>x.2.ren (bs.map (·.1)).idxOf)[·]?):=by
 have hat:∀i p,bs[i]? = some p→(bs.map (·.1)).idxOf p.1=i:=by
  intro i p hi
  have h1:(bs.map (·.1))[i]? = some p.1:=by simp [hi]
  have hlt:=(List.getElem?_eq_some_iff.1 h1).1
  have h2:=(List.getElem?_eq_some_iff.1 h1).2
  rw[← h2]
  exact List.Nodup.idxOf_getElem hn i hlt
 refine⟨fun i x hx=>?_,fun i hi g=>?_,fun i g i' g' l l' hl hl' he=>?_,fun i g l hl=>?_,hp2⟩
 · simp only[List.getElem?_map,Option.map_eq_some_iff] at hx
   obtain⟨p,hpi,rfl⟩:=hx
   have hm:=List.mem_of_getElem? hpi
   have hE:Ext σ π w σ π1 w:=⟨fun _ _ _ h=>h,hp,fun _ _ _=>rfl,fun _ _ _ C _ fr _ h=>⟨C,fr,h,rfl⟩,fun _ _ _ _ _ h=>h⟩
   have hB:=(R.blk p.1 p.2 (hb p hm)).mono hE (fun _=>rfl) (fun _ _ _=>rfl) (fun g l o hl ho=>hpm p hm g l hl o ho)
   refine hB.ren (b':=i) (fun g=>by simp [hpi]) (fun c hcc g l hl=>?_)
   have hcm:=hc p hm c hcc
   have:(bs.map (·.1))[(bs.map (·.1)).idxOf c]? = some c:=by
    rw[List.getElem?_eq_getElem (List.idxOf_lt_length_iff.2 hcm)]
    simp
   simp only[this]
   exact hl
 · simp only[List.getElem?_map,Option.map_eq_none_iff] at hi ⊢
   simp [hi]
 · simp only[List.getElem?_map] at hl hl'
   cases h1:bs[i]? with
   | none=>simp [h1] at hl
   | some p =>
    cases h2:bs[i']? with
    | none=>simp [h2] at hl'
    | some p' =>
     simp only[h1,h2,Option.map_some] at hl hl'
     have:=R.inj _ _ _ _ _ _ hl hl' he
     rw[← hat i p h1,← hat i' p' h2,this]
 · simp only[List.getElem?_map] at hl
   cases h1:bs[i]? with
   | none=>simp [h1] at hl
   | some p =>
    simp only[h1,Option.map_some] at hl
    exact R.lt _ _ _ hl

def gP (σ σ2:Sig) (ids:List Nat) (n m:Nat):Sig:=fun b g=>if b∈ids then σ2 (ids.idxOf b) g else if n≤b∧b<n+m then σ2 (ids.length+(b - n)) g else σ b g

set_option maxHeartbeats 1000000 in
theorem back_rel (R:Rel σ π w h) {ids:List Nat} (hnd:ids.Nodup) (hsome:∀b∈ids,∃x,h b=some x) {π1:bX} (hπ1:∀B o,π B o→π1 B o)
 {bw:List (Nat × Blk)} (hlent:Lent h bw) (hbor:∀B o,π1 B o→Bor π σ bw B o) (hone:bw=[]∨ids=[])
 {h':List Blk} (hlen:ids.length≤h'.length) (hnew:∀i,i<h'.length - ids.length→h (n+i)=none)
 {σ2:Sig} {π2:bX} {w':World} (D:Done (fun i g=>match ids[i]? with | some b=>σ b g | none=>none) π1 w σ2 π2 w' (h'[·]?)) (v:AV) :
 (∀b g l,σ2 b g=some l→gP σ σ2 ids n (h'.length - ids.length) (dP ids n b) g=some l) ∧
 Done σ π w (gP σ σ2 ids n (h'.length - ids.length)) π2 w' (gG h n ⟨v,bw++ids.zip ((h'.take ids.length).map (Blk.ren (dP ids n))),(h'.drop ids.length).map (Blk.ren (dP ids n))⟩):=by
 have hidx:∀(i b:Nat),ids[i]? = some b→ids.idxOf b=i:=by
  intro i b hi
  have hlt:=(List.getElem?_eq_some_iff.1 hi).1
  rw[← (List.getElem?_eq_some_iff.1 hi).2]
  exact List.Nodup.idxOf_getElem hnd i hlt
 have hget:∀b,b∈ids→ids[ids.idxOf b]? = some b:=by
  intro b hb
  rw[List.getElem?_eq_getElem (List.idxOf_lt_length_iff.2 hb)]
  simp
 have hnotnew:∀b,b∈ids→¬(n≤b∧b<n+(h'.length - ids.length)):=by
  intro b hb hh
  obtain⟨x,hx⟩:=hsome b hb
  have:=hnew (b - n) (by omega)
  rw[show n+(b - n)=b by omega,hx] at this
  cases this
 have hsm:∀b g l,b∈ids→σ b g=some l→(match ids[ids.idxOf b]? with | some b=>σ b g | none=>none)=some l:=by
  intro b g l hb hl
  rw[hget b hb]
  exact hl
 have hback:∀b g l,σ2 b g=some l→gP σ σ2 ids n (h'.length - ids.length) (dP ids n b) g=some l:=by
  intro b g l hl
  have hbl:b<h'.length:=by
   rcases Nat.lt_or_ge b h'.length with h1 | h1
   · exact h1
   · have:=D.rel.non b (by simpa using h1) g
     rw[hl] at this
     cases this
  unfold dP gP
  by_cases hb:b<ids.length
  · rw[if_pos hb]
    have e1:ids.getD b 0=ids[b]:=by simp [List.getD_eq_getElem?_getD,hb]
    rw[e1,if_pos (List.getElem_mem hb),hidx b _ (List.getElem?_eq_getElem hb)]
    exact hl
  · rw[if_neg hb]
    have hni:n+(b - ids.length)∉ids:=by
     intro hm
     exact hnotnew _ hm ⟨by omega,by omega⟩
    rw[if_neg hni,if_pos ⟨by omega,by omega⟩,show ids.length+(n+(b - ids.length) - n)=b by omega]
    exact hl
 have hmini:∀(i g:Nat) (l:Loc),(match ids[i]? with | some b=>σ b g | none=>none)=some l→∃b,b∈ids∧σ b g=some l:=by
  intro i g l hl
  cases hi:ids[i]? with
  | none=>simp [hi] at hl
  | some b=>simp only[hi] at hl;exact⟨b,List.mem_of_getElem? hi,hl⟩
 have hfr:∀b g l,b∉ids→σ b g=some l→w'.heap[l.blk]? = w.heap[l.blk]?:=by
  intro b g l hb hl
  refine D.frm.same l.blk (R.lt _ _ _ hl) (fun i g' l' hl' he=>?_)
  obtain⟨c,hc,hcl⟩:=hmini i g' l' hl'
  exact hb (R.inj _ _ _ _ _ _ hl hcl he.symm▸hc)
 have hpr:∀b g l o,b∉ids→σ b g=some l→π2 l.blk o→Bor π σ bw l.blk o:=by
  intro b g l o hb hl ho
  rcases D.frm.pro _ _ ho with h1 | h1 | ⟨i,g',l',hl',he⟩
  · exact hbor _ _ h1
  · have:=R.lt _ _ _ hl;omega
  · obtain⟨c,hc,hcl⟩:=hmini i g' l' hl'
    exact absurd (R.inj _ _ _ _ _ _ hl hcl he.symm▸hc) hb
 have E:Ext σ π w (gP σ σ2 ids n (h'.length - ids.length)) π2 w':=by
  refine⟨fun b g l hl=>?_,fun B o hB=>D.ext.prot _ _ (hπ1 _ _ hB),fun B o hB=>D.ext.cell _ _ (hπ1 _ _ hB),fun b g l C e fr hl hC=>?_,fun B o C k hB hC=>D.ext.mapc B o C k (hπ1 _ _ hB) hC⟩
  · unfold gP
    by_cases hb:b∈ids
    · rw[if_pos hb]
      exact D.ext.sig _ _ _ (hsm b g l hb hl)
    · rw[if_neg hb,if_neg]
      · exact hl
      · intro hh
        have h0:h b=none:=by
         have:=hnew (b - n) (by omega)
         rwa [show n+(b - n)=b by omega] at this
        rw[R.non b h0 g] at hl
        cases hl
  · by_cases hb:b∈ids
    · exact D.ext.size _ _ _ C e fr (hsm b g l hb hl) hC
    · exact⟨C,fr,(hfr b g l hb hl).trans hC,rfl⟩
 refine⟨hback,E,⟨D.frm.size,D.frm.os,D.frm.tape,D.frm.output,fun B hB hn'=>?_,fun b g l hl=>?_,fun B o hp=>?_⟩,?_⟩
 · refine D.frm.same B hB (fun i g l hl=>?_)
   obtain⟨c,hc,hcl⟩:=hmini i g l hl
   exact hn' c g l hcl
 · have key:∀i,σ2 i g=some l→w.heap.size≤l.blk∨∃b0 g0 l0,σ b0 g0=some l0∧l0.blk=l.blk:=by
    intro i hi
    rcases D.frm.own i g l hi with h1 | ⟨i0,g0,l0,h1,h2⟩
    · exact .inl h1
    · obtain⟨c,hc,hcl⟩:=hmini i0 g0 l0 h1
      exact .inr ⟨c,g0,l0,hcl,h2⟩
   unfold gP at hl
   split at hl
   · exact key _ hl
   · split at hl
     · exact key _ hl
     · exact .inr ⟨b,g,l,hl,rfl⟩
 · rcases D.frm.pro B o hp with h1 | h1 | ⟨i,g,l,hl,he⟩
   · rcases hbor _ _ h1 with h2 | ⟨b,s,rows,gen,wgen,g,l,_,_,_,hl,he,_⟩
     · exact .inl h2
     · exact .inr (.inr ⟨b,g,l,hl,he⟩)
   · exact .inr (.inl h1)
   · obtain⟨c,hc,hcl⟩:=hmini i g l hl
     exact .inr (.inr ⟨c,g,l,hcl,he⟩)
 · -- the caller's heap
   have hnwl:((h'.drop ids.length).map (Blk.ren (dP ids n))).length=h'.length - ids.length:=by simp
   have hxl:((h'.take ids.length).map (Blk.ren (dP ids n))).length=ids.length:=by simp;omega
   have hzip:(ids.zip ((h'.take ids.length).map (Blk.ren (dP ids n)))).map (·.1)=ids:=by
    rw[List.map_fst_zip]
    omega
   -- each block, where it stands
   have hblk:∀b,(n≤b∧b<n+(h'.length - ids.length)∧∃x,h'[ids.length+(b - n)]? = some x∧gG h n ⟨v,bw++ids.zip ((h'.take ids.length).map (Blk.ren (dP ids n))),(h'.drop ids.length).map (Blk.ren (dP ids n))⟩ b=some (x.ren (dP ids n))) ∨
    (b∈ids∧∃x,h'[ids.idxOf b]? = some x∧gG h n ⟨v,bw++ids.zip ((h'.take ids.length).map (Blk.ren (dP ids n))),(h'.drop ids.length).map (Blk.ren (dP ids n))⟩ b=some (x.ren (dP ids n))) ∨
    (b∉ids∧¬(n≤b∧b<n+(h'.length - ids.length))∧∃s rows gen wgen ro,(b,Blk.arr s rows gen wgen true)∈bw∧h b=some (.arr s rows gen wgen ro)∧gG h n ⟨v,bw++ids.zip ((h'.take ids.length).map (Blk.ren (dP ids n))),(h'.drop ids.length).map (Blk.ren (dP ids n))⟩ b=some (.arr s rows gen wgen true)) ∨
    (b∉ids∧¬(n≤b∧b<n+(h'.length - ids.length))∧b∉bw.map (·.1)∧gG h n ⟨v,bw++ids.zip ((h'.take ids.length).map (Blk.ren (dP ids n))),(h'.drop ids.length).map (Blk.ren (dP ids n))⟩ b=h b):=by
    intro b
    unfold gG
    simp only[hnwl]
    by_cases h1:n≤b∧b<n+(h'.length - ids.length)
    · refine .inl ⟨h1.1,h1.2,?_⟩
      have hlt:ids.length+(b - n)<h'.length:=by omega
      refine⟨h'[ids.length+(b - n)],List.getElem?_eq_getElem hlt,?_⟩
      rw[if_pos h1]
      simp [List.getElem?_drop,List.getElem?_eq_getElem hlt]
    · rw[if_neg h1]
      by_cases h2:b∈ids
      · refine .inr (.inl ⟨h2,?_⟩)
        have hbw:bw=[]:=hone.resolve_right (by rintro rfl;cases h2)
        subst hbw
        simp only[List.nil_append]
        obtain⟨x,hx,hall⟩:=aER hnd hxl h2
        have hilt:ids.idxOf b<ids.length:=List.idxOf_lt_length_iff.2 h2
        simp only[List.getElem?_map,List.getElem?_take,if_pos hilt,Option.map_eq_some_iff] at hx
        obtain⟨y,hy,rfl⟩:=hx
        exact⟨y,hy,aA6 (by rw[hzip];exact h2) hall⟩
      · by_cases h3:b∈bw.map (·.1)
        · refine .inr (.inr (.inl ⟨h2,h1,?_⟩))
          have hids:ids=[]:=hone.resolve_left (by rintro rfl;cases h3)
          obtain⟨p,hp,rfl⟩:=List.mem_map.1 h3
          obtain⟨s,rows,gen,wgen,ro,hl1,hl2⟩:=hlent p hp
          refine⟨s,rows,gen,wgen,ro,by rw[← hl2];exact hp,hl1,?_⟩
          refine aA6 (by simp only[List.map_append,List.mem_append];exact .inl h3) (fun q hq hqe=>?_)
          rcases List.mem_append.1 hq with hq | hq
          · obtain⟨s',rows',gen',wgen',ro',hq1,hq2⟩:=hlent q hq
            rw[hqe,hl1] at hq1
            cases hq1
            exact hq2
          · rw[hids] at hq
            simp at hq
        · refine .inr (.inr (.inr ⟨h2,h1,h3,?_⟩))
          exact tZ (by simp only[List.map_append,List.mem_append,hzip];exact fun hh=>hh.elim h3 h2)
   have hs1:∀b g,n≤b→b<n+(h'.length - ids.length)→gP σ σ2 ids n (h'.length - ids.length) b g=σ2 (ids.length+(b - n)) g:=by
    intro b g h1 h2
    unfold gP
    rw[if_neg (fun hm=>hnotnew b hm ⟨h1,h2⟩),if_pos ⟨h1,h2⟩]
   have hs2:∀b g,b∈ids→gP σ σ2 ids n (h'.length - ids.length) b g=σ2 (ids.idxOf b) g:=fun b g hb=>by unfold gP;rw[if_pos hb]
   have hs3:∀b g,b∉ids→¬(n≤b∧b<n+(h'.length - ids.length))→gP σ σ2 ids n (h'.length - ids.length) b g=σ b g:=fun b g h1 h2=>by unfold gP;rw[if_neg h1,if_neg h2]
   refine⟨fun b x hx=>?_,fun b hb g=>?_,fun b g b' g' l l' hl hl' he=>?_,fun b g l hl=>?_,D.rel.prot⟩
   · rcases hblk b with⟨a1,a2,y,hy,hu⟩ | ⟨a1,y,hy,hu⟩ | ⟨a1,a2,s,rows,gen,wgen,ro,hm,hh,hu⟩ | ⟨a1,a2,a3,hu⟩
     · rw[hu] at hx
       cases hx
       exact(D.rel.blk _ y hy).ren (fun g=>hs1 b g a1 a2) (fun c _ g l hl=>hback c g l hl)
     · rw[hu] at hx
       cases hx
       exact(D.rel.blk _ y hy).ren (fun g=>hs2 b g a1) (fun c _ g l hl=>hback c g l hl)
     · rw[hu] at hx
       cases hx
       obtain⟨q1,q2,q3,q4,q5⟩:=R.blk b _ hh
       refine⟨q1,q2,q3,fun g hg=>(hs3 b g a1 a2).trans (q4 g hg),?_⟩
       rcases q5 with⟨q5,q6⟩ | ⟨⟨l,c1,c2,c3,c4⟩,q6⟩
       · exact .inl ⟨q5,fun g=>(hs3 b g a1 a2).trans (q6 g)⟩
       refine .inr ⟨⟨l,(hs3 b _ a1 a2).trans c1,c2,fun hf=>(by cases hf),fun o ho hp=>?_⟩,fun g lg hlg hg hg'=>?_⟩
       · rcases hpr b gen l o a1 c1 hp with h2 | ⟨b2,s2,rows2,gen2,wgen2,g2,l2,hm2,hg1,hg2,hl2,he2,hlt⟩
         · exact c4 o ho h2
         · obtain rfl:=R.inj _ _ _ _ _ _ hl2 c1 he2
           obtain⟨s3,rows3,gen3,wgen3,ro3,hq1,hq2⟩:=hlent _ hm2
           rw[hh] at hq1
           cases hq1
           cases hq2
           obtain⟨l3,C,e,p1,p2,p3,p4,p5⟩:=q6 g2 _ hl2 hg1 hg2
           rw[hl2] at p1
           cases p1
           have:l2.m*s≤rows.length*s:=Nat.mul_le_mul_right _ p2
           omega
       · obtain⟨l3,C,e,p1,p2,p3,p4,p5⟩:=q6 g lg (by rw[← hs3 b g a1 a2];exact hlg) hg hg'
         refine⟨l3,C,e,(hs3 b g a1 a2).trans p1,p2,(hfr b g l3 a1 p1).trans p3,p4,fun r row hr hrow=>(p5 r row hr hrow).mono E⟩
     · rw[hu] at hx
       refine(R.blk b x hx).mono E (fun g=>hs3 b g a1 a2) (fun g l hl=>hfr b g l a1 hl) (fun g l o hl hp=>?_)
       rcases hpr b g l o a1 hl hp with h2 | ⟨b2,s2,rows2,gen2,wgen2,g2,l2,hm2,_,_,hl2,he2,_⟩
       · exact h2
       · obtain rfl:=R.inj _ _ _ _ _ _ hl2 hl he2
         exact absurd (List.mem_map.2 ⟨_,hm2,rfl⟩) a3
   · rcases hblk b with⟨a1,a2,y,hy,hu⟩ | ⟨a1,y,hy,hu⟩ | ⟨a1,a2,s,rows,gen,wgen,ro,hm,hh,hu⟩ | ⟨a1,a2,a3,hu⟩
     · rw[hu] at hb;cases hb
     · rw[hu] at hb;cases hb
     · rw[hu] at hb;cases hb
     · rw[hs3 b g a1 a2]
       exact R.non b (hu▸hb) g
   · -- where each comes from
     have key:∀b g l,gP σ σ2 ids n (h'.length - ids.length) b g=some l→(∃i,σ2 i g=some l∧dP ids n i=b)∨(b∉ids∧σ b g=some l):=by
      intro b g l hl
      by_cases h1:b∈ids
      · rw[hs2 b g h1] at hl
        refine .inl ⟨_,hl,?_⟩
        unfold dP
        rw[if_pos (List.idxOf_lt_length_iff.2 h1)]
        simp [List.getD_eq_getElem?_getD,hget b h1]
      · by_cases h2:n≤b∧b<n+(h'.length - ids.length)
        · rw[hs1 b g h2.1 h2.2] at hl
          refine .inl ⟨_,hl,?_⟩
          unfold dP
          rw[if_neg (by omega)]
          omega
        · rw[hs3 b g h1 h2] at hl
          exact .inr ⟨h1,hl⟩
     have cross:∀i g l b g' l',σ2 i g=some l→b∉ids→σ b g'=some l'→l.blk=l'.blk→False:=by
      intro i g l b g' l' hl hb hl' he
      have hlt:=R.lt _ _ _ hl'
      rcases D.frm.own i g l hl with h1 | ⟨i0,g0,l0,h1,h2⟩
      · omega
      · obtain⟨c,hc,hcl⟩:=hmini i0 g0 l0 h1
        exact hb (R.inj _ _ _ _ _ _ hcl hl' (h2.trans he)▸hc)
     rcases key b g l hl with⟨i,hi,rfl⟩ | ⟨a1,a2⟩
     · rcases key b' g' l' hl' with⟨i',hi',rfl⟩ | ⟨a1',a2'⟩
       · rw[D.rel.inj _ _ _ _ _ _ hi hi' he]
       · exact(cross i g l b' g' l' hi a1' a2' he).elim
     · rcases key b' g' l' hl' with⟨i',hi',rfl⟩ | ⟨a1',a2'⟩
       · exact(cross i' g' l' b g l hi' a1 a2 he.symm).elim
       · exact R.inj _ _ _ _ _ _ a2 a2' he
   · unfold gP at hl
     split at hl
     · exact D.rel.lt _ _ _ hl
     · split at hl
       · exact D.rel.lt _ _ _ hl
       · exact Nat.lt_of_lt_of_le (R.lt _ _ _ hl) D.frm.size

end
end Go.Ws

namespace Go.Ws
set_option linter.unusedVariables false
set_option linter.unusedSimpArgs false

section
variable {P:Program} {σ:Sig} {π:bX} {w:World} {h:Nat→Option Blk} {n:Nat} {δ:Delta} {L:List Nat}

def CallDone (σ:Sig) (π:bX) (w:World) (h:Nat→Option Blk) (n:Nat) (δ:Delta) (e:Ending) (w':World):Prop :=
 ∃u σ' π',e = .returned u∧VR σ' π' w' δ.v u∧Done σ π w σ' π' w' (gG h n δ)

theorem aBM:∀{cs:List (List (Nat × Nat))} {c:List AV} {d:Array Value},VRs σ π w c d→VRs σ π w (qO cs c) d
 | [],c,_,hv=>by cases c<;>exact hv
 | _::_,[],_,hv=>hv
 | vs::r,v::l,d,hv=>by
  obtain⟨u,r',rfl,hu,hr⟩:=hv.tail
  exact .cons (hu.cast vs) (aBM hr)

theorem aLR {call:iO} (hcall:tT P call) (R:Rel σ π w h) (cc:CC) (f:Nat) (args:List AV) (cargs:Array Value) (hv:VRs σ π w args cargs)
 (hn:∀i,i<δ.nw.length→h (n+i)=none) (e:(tC call cc n f args).run h=some (δ,L)) :
 (∀cargs w,(callFunc f cargs).run P w = .ok (.enter f cargs) w)∧Calls P f cargs w (CallDone σ π w h n δ):=by
 unfold tC at e
 obtain⟨⟨args',bw⟩,L1,L2,e1,e2,_⟩:=kO e
 clear e
 simp only at e2
 obtain⟨bs,L3,L4,e3,e4,_⟩:=kO e2
 clear e2
 have hbor:Lent h bw∧VRs σ (Bor π σ bw) w args' cargs:=by
  split at e1
  · exact zK R (aBM hv) e1
  · have:=cT e1
    simp only[Prod.mk.injEq] at this
    obtain⟨rfl,rfl⟩:=this
    exact⟨fun p hp=>(by cases hp),(aBM hv).prot (fun _ _ h=>.inl h)⟩
 obtain⟨hlent,hva⟩:=hbor
 obtain⟨r1,r2,r3,r4,_,_⟩:=xK e3 (by simp) (fun p hp=>by cases hp) (fun p hp=>by cases hp)
 split at e4
 · exact(aO e4).elim
 · rename_i hone
   have hone':bw=[]∨bs=[]:=by
    by_cases h1:bw=[]
    · exact .inl h1
    · exact .inr (Decidable.byContradiction fun h2=>hone ⟨h2,h1⟩)
   split at e4
   · exact(aO e4).elim
   · rename_i v h' hcr
     have hδ:=cT e4
     obtain⟨c1,c2,c3⟩:=hcall _ _ _ _ _ hcr
     simp only[List.length_map] at c2
     have hbl:(bs.map (·.1)).length=bs.length:=by simp
     have hone2:bw=[]∨bs.map (·.1)=[]:=hone'.imp id (fun h=>by rw[h];rfl)
     have hRm:=rel_mini R r1 r2 r3 (π1:=Bor π σ bw) (fun _ _ h=>.inl h) (fun B o hp=>by
      rcases hp with hp | ⟨b,s,rows,gen,wgen,g,l,_,_,_,hl,rfl,_⟩
      · exact R.prot _ _ hp
      · exact R.lt _ _ _ hl) (fun p hp g l hl o ho=>by
      rcases ho with ho | ⟨b,s,rows,gen,wgen,g,l,hm,_⟩
      · exact ho
      · rcases hone' with rfl | rfl
        · cases hm
        · cases hp)
     have hvm:VRs (fun i g=>match (bs.map (·.1))[i]? with | some b=>σ b g | none=>none) (Bor π σ bw) w (AV.renL (bs.map (·.1)).idxOf args') cargs:=by
      refine hva.ren (fun b hb g l hl=>?_)
      have hm:=r4 b hb
      have:(bs.map (·.1))[(bs.map (·.1)).idxOf b]? = some b:=by
       rw[List.getElem?_eq_getElem (List.idxOf_lt_length_iff.2 hm)]
       simp
      simp only[this]
      exact hl
     refine⟨c1,(c3 _ _ w cargs hRm hvm).mono fun en w' hen=>?_⟩
     obtain⟨u,σ2,π2,rfl,hvu,hD⟩:=hen
     have hnew:∀i,i<h'.length - (bs.map (·.1)).length→h (n+i)=none:=by
      intro i hi
      refine hn i ?_
      rw[hδ]
      simpa using hi
     have hsome:∀b∈bs.map (·.1),∃x,h b=some x:=by
      intro b hb
      obtain⟨p,hp,rfl⟩:=List.mem_map.1 hb
      exact⟨p.2,r2 p hp⟩
     obtain⟨k1,k2⟩:=back_rel (n:=n) R r1 hsome (fun _ _ h=>.inl h) hlent (fun _ _ h=>h) hone2 (by rw[hbl];exact c2) hnew hD δ.v
     have hvback:VR (gP σ σ2 (bs.map (·.1)) n (h'.length - (bs.map (·.1)).length)) π2 w' (v.ren (dP (bs.map (·.1)) n)) u:=hvu.ren (fun b _ g l hl=>k1 b g l hl)
     by_cases hq:bw=[]∨(v.hasInl=false∧h'=[])
     · rw[if_pos hq] at hδ
       rcases hq with hbw | ⟨hni,rfl⟩
       · subst hbw
         rw[hδ]
         rw[hδ] at k2
         exact⟨u,_,_,rfl,hvback,k2⟩
       · -- nothing of what was lent is in the answer
         have hids:bs=[]:=by
          simp only[List.length_nil,Nat.le_zero] at c2
          exact List.eq_nil_of_length_eq_zero c2
         subst hids
         rw[hδ]
         simp only[List.map_nil,List.zip_nil_left,List.nil_append,List.length_nil,List.drop_nil]
         have hσ2:∀b g l,σ2 b g≠some l:=by
          intro b g l hl
          have:=hD.rel.non b rfl g
          rw[hl] at this
          cases this
         have hold:∀B,B<w.heap.size→w'.heap[B]? = w.heap[B]?:=fun B hB=>hD.frm.same B hB (fun i g l hl=>by simp at hl)
         have E:Ext σ π w σ π w':=⟨fun _ _ _ h=>h,fun _ _ h=>h,fun B o hp=>kP (hold B (R.prot _ _ hp)),fun b g l C e fr hl hC=>⟨C,fr,(hold _ (R.lt _ _ _ hl)).trans hC,rfl⟩,fun B o C k hp hC=>(hold B (R.prot _ _ hp)).trans hC⟩
         have hfin:Done σ π w σ π w' h:=⟨E,⟨hD.frm.size,hD.frm.os,hD.frm.tape,hD.frm.output,fun B hB _=>hold B hB,fun b g l hl=>.inr ⟨b,g,l,hl,rfl⟩,fun _ _ h=>.inl h⟩,
          ⟨fun b x hx=>(R.blk b x hx).mono E (fun _=>rfl) (fun g l hl=>hold _ (R.lt _ _ _ hl)) (fun _ _ _ _ h=>h),R.non,R.inj,fun b g l hl=>Nat.lt_of_lt_of_le (R.lt _ _ _ hl) hD.frm.size,fun B o hp=>Nat.lt_of_lt_of_le (R.prot _ _ hp) hD.frm.size⟩⟩
         refine⟨u,σ,π,rfl,?_,by rw[i9];exact hfin⟩
         have:=(hasInl_prot (π':=π) v u hni hvu).ren (σ':=σ) (ρ:=dP [] n) (fun b _ g l hl=>absurd hl (hσ2 b g l))
         exact this
     · rw[if_neg hq] at hδ
       rw[hδ]
       rw[hδ] at k2
       exact⟨u,_,_,rfl,hvback,k2⟩

end
end Go.Ws

namespace Go.Ws
set_option linter.unusedVariables false
set_option linter.unusedSimpArgs false

section
variable {P:Program} {σ:Sig} {π:bX} {w:World} {h:Nat→Option Blk} {n:Nat} {δ:Delta} {L:List Nat} {t:List AV} {a:Act}

theorem aDD {c:List AV} {d:Array Value} (hv:VRs σ π w c d) (i:Nat):VR σ π w (c.getD i dD) (d.getD i undef):=by
 rcases Nat.lt_or_ge i c.length with hlt | hge
 · have hd:i<d.size:=by rw[hv.1];exact hlt
   have:=hv.2 i c[i] d[i] (List.getElem?_eq_getElem hlt) (by simp [hd])
   simpa [List.getD_eq_getElem?_getD,hlt,Array.getD,hd] using this
 · have hd:¬i<d.size:=by rw[hv.1];omega
   have e1:c.getD i dD=dD:=by rw[List.getD_eq_getElem?_getD,List.getElem?_eq_none hge];rfl
   have e2:d.getD i undef=undef:=by simp [Array.getD,hd]
   rw[e1,e2]
   exact fS _ _ _

theorem eO (ht:VRs σ π w t a.tmps) {x:Operand} {v:AV} (e:evA t x=some v):VR σ π w v (a.eval x):=by
 cases x with
 | tmp k =>
  simp only[evA,Option.some.injEq] at e
  subst e
  exact aDD ht k
 | const u=>exact qZ e σ π w
 | global g=>cases e
 | func f =>
  simp only[evA] at e
  split at e
  · rename_i hf
    simp only[Option.some.injEq] at e
    subst e
    exact .fn f [] #[] rfl (fun i v u h=>by simp at h) hf
  · cases e

theorem yB (ht:VRs σ π w t a.tmps):∀{l:List Operand} {vs:List AV},evL t l=some vs→VRs σ π w vs (l.map a.eval).toArray
 | [],vs,e=>by simp [evL] at e;subst e;exact⟨rfl,fun i v u h=>by simp at h⟩
 | x::l,vs,e=>by
  simp only[evL] at e
  split at e
  · rename_i v vs' hv hvs
    cases e
    exact .cons (eO ht hv) (yB ht hvs)
  · cases e

theorem aLC (ht:VRs σ π w t a.tmps):∀{l:List (Nat × Operand)} {vs:List (Nat × AV)},evP t l=some vs→PartsR σ π w vs (l.map fun p=>(p.1,a.eval p.2))
 | [],vs,e=>by simp [evP] at e;subst e;exact .nil
 | (i,x)::l,vs,e=>by
  simp only[evP] at e
  split at e
  · rename_i v vs' hv hvs
    cases e
    exact .cons ⟨rfl,eO ht hv⟩ (aLC ht hvs)
  · cases e

theorem aK5 (ht:VRs σ π w t a.tmps) {x:Option Operand} {v:Option AV} (e:evO t x=some v):zV σ π w v (x.map a.eval):=by
 cases x with
 | none=>simp [evO] at e;subst e;trivial
 | some x =>
  simp only[evO,Option.map_eq_some_iff] at e
  obtain⟨v',hv,rfl⟩:=e
  exact eO ht hv

theorem y7 {vs:List AV} {l:List Value} {x y:AV} (h:VRs σ π w [x,y] l.toArray):∃u v,l=[u,v]∧VR σ π w x u∧VR σ π w y v:=by
 obtain⟨u,r,h1,hu,hr⟩:=h.tail
 obtain⟨v,r',h2,hv',hr'⟩:=hr.tail
 have:=hr'.1
 simp at this
 subst this
 have e1:l=u::r:=by simpa using h1
 have e2:r=[v]:=by simpa using h2
 subst e2
 exact⟨u,v,e1,hu,hv'⟩

theorem aH4 {l:List Value} {x:AV} (h:VRs σ π w [x] l.toArray):∃u,l=[u]∧VR σ π w x u:=by
 obtain⟨u,r,h1,hu,hr⟩:=h.tail
 have:=hr.1
 simp at this
 subst this
 have e1:l=[u]:=by simpa using h1
 exact⟨u,e1,hu⟩

theorem aLA (R:Rel σ π w h) (hn:δ.nw≠[]→h n=none) (b:Builtin) (ts:Array TypeId) (ty:Nat) (cs:Array Bool) (args:List AV) (us:List Value) (hv:VRs σ π w args us.toArray)
 (e:(pV (dS P) n b ts.toList args).run h=some (δ,L)):cG P (builtin b ts ty cs us.toArray) σ π w h n δ:=by
 unfold pV at e
 split at e
 · rename_i st xt s x hts
   obtain⟨u1,u2,rfl,h1,h2⟩:=y7 (vs:=[]) hv
   have:ts = #[st,xt]:=by rw[← Array.toArray_toList (xs:=ts),hts]
   subst this
   exact aMI R hn st xt ty s x u1 u2 h1 h2 e
 · rename_i dt rest d s hts
   obtain⟨u1,u2,rfl,h1,h2⟩:=y7 (vs:=[]) hv
   exact op_copy R dt ty ts d s u1 u2 h1 h2 (by rw[← Array.getElem?_toList,hts];rfl) e
 · rename_i t0 x hts
   obtain⟨u,rfl,h1⟩:=aH4 hv
   have:ts = #[t0]:=by rw[← Array.toArray_toList (xs:=ts),hts]
   subst this
   exact op_clear R t0 ty x u h1 e
 · rename_i t0 x hts
   obtain⟨u,rfl,h1⟩:=aH4 hv
   have:ts = #[t0]:=by rw[← Array.toArray_toList (xs:=ts),hts]
   subst this
   exact op_len R t0 ty x u h1 e
 · rename_i t0 x hts
   obtain⟨u,rfl,h1⟩:=aH4 hv
   have:ts = #[t0]:=by rw[← Array.toArray_toList (xs:=ts),hts]
   subst this
   exact op_cap R t0 ty x u h1 e
 · rename_i x y
   obtain⟨u1,u2,rfl,h1,h2⟩:=y7 (vs:=[]) hv
   obtain⟨v,hm,e2⟩:=jV e
   have hδ:=bW e2;subst hδ
   exact(op_min R true ts ty x y u1 u2 h1 h2 hm).1 rfl
 · rename_i x y
   obtain⟨u1,u2,rfl,h1,h2⟩:=y7 (vs:=[]) hv
   obtain⟨v,hm,e2⟩:=jV e
   have hδ:=bW e2;subst hδ
   exact(op_min R false ts ty x y u1 u2 h1 h2 hm).2 rfl
 · rename_i t0 rest x k hts
   obtain⟨u1,u2,rfl,h1,h2⟩:=y7 (vs:=[]) hv
   exact aM2 R t0 ty ts x k u1 u2 (by rw[← Array.getElem?_toList,hts];rfl) h1 h2 e
 · exact(aO e).elim

theorem aJ5 {o:Oper} {K:Act→World→Prop} {Q:Exit→Act→World→Prop} (hd:cG P (execOp a.eval o) σ π w h n δ)
 (hK:∀u σ' π' w',VR σ' π' w' δ.v u→Done σ π w σ' π' w' (gG h n δ)→K (a.put o.dst u) w'):o.wp P a w K Q:=by
 obtain⟨r,u,w',σ',π',hr,hru,hv,hD⟩:=hd
 unfold Oper.wp
 rw[hr]
 rcases hru with rfl | ⟨rfl,rfl⟩
 · exact hK u σ' π' w' hv hD
 · exact hK _ σ' π' w' hv hD

theorem ex_build (ρ:Operand→Value) (d:Option Nat) (tt:Nat) (ps:Array (Nat × Operand)) (ty:Nat) (pos) (af) (gd) :
 execOp ρ ⟨d,.build tt ps,ty,pos,af,gd⟩=(do pure (.value (← Instr.build tt (ps.map fun p=>(p.1,ρ p.2))))):=by
 unfold execOp
 rfl

theorem aEP (ρ:Operand→Value) (d:Option Nat) (tt len:Nat) (ps:Array (Nat × Operand)) (ty:Nat) (pos) (af) (gd) :
 execOp ρ ⟨d,.buildSlice tt len ps,ty,pos,af,gd⟩=(do pure (.value (← Instr.buildSlice tt len (ps.map fun p=>(p.1,ρ p.2))))):=by
 unfold execOp
 rfl

set_option maxHeartbeats 1000000 in
theorem op_all {call:iO} (hcall:tT P call) (cc:CC) (R:Rel σ π w h) (ht:VRs σ π w t a.tmps) (o:Oper) (hn:∀i,i<δ.nw.length→h (n+i)=none)
 (e:(aop (dS P) call cc n t o.op).run h=some (δ,L)) {K:Act→World→Prop} {Q:Exit→Act→World→Prop}
 (hK:∀u σ' π' w',VR σ' π' w' δ.v u→Done σ π w σ' π' w' (gG h n δ)→K (a.put o.dst u) w'):o.wp P a w K Q:=by
 have hn1:δ.nw≠[]→h n=none:=fun hne=>by
  have:=hn 0 (List.length_pos_iff.2 hne)
  simpa using this
 have pure1:∀{x:Operand} {k:AV→AM Delta},(match evA t x with | some v=>k v | none=>AM.fail).run h=some (δ,L)→∃v,evA t x=some v∧(k v).run h=some (δ,L):=by
  intro x k e
  split at e
  · rename_i v hv;exact⟨v,hv,e⟩
  · exact(aO e).elim
 obtain⟨dst,op,ty,pos,after,guard⟩:=o
 simp only at e hK
 have fin:cG P (execOp a.eval ⟨dst,op,ty,pos,after,guard⟩) σ π w h n δ→Oper.wp P ⟨dst,op,ty,pos,after,guard⟩ a w K Q:=fun hd=>aJ5 hd hK
 have isVal:∀{v:AV} {u:Value},VR σ π w v u→δ=⟨v,[],[]⟩→(execOp a.eval ⟨dst,op,ty,pos,after,guard⟩).run P w = .ok (.value u) w→cG P (execOp a.eval ⟨dst,op,ty,pos,after,guard⟩) σ π w h n δ:=by
  intro v u hv hδ hr
  subst hδ
  exact⟨_,u,w,σ,π,hr,.inl rfl,hv,by rw[i9];exact .refl R⟩
 cases op with
 | move x =>
  obtain⟨v,hv,e2⟩:=pure1 e
  exact fin (isVal (eO ht hv) (bW e2) rfl)
 | assign x =>
  obtain⟨v,hv,e2⟩:=pure1 e
  exact fin (isVal (eO ht hv) (bW e2) rfl)
 | pick c x y =>
  obtain⟨v,hv,e2⟩:=pure1 e
  have hvr:=eO ht hv
  split at e2
  · rename_i b
    cases hb:a.eval c<;>rw[hb] at hvr<;>cases hvr
    split at e2
    · rename_i hbt
      obtain⟨v2,hv2,e3⟩:=pure1 e2
      exact fin (isVal (eO ht hv2) (bW e3) (by simp [execOp,hb,hbt,asBool]))
    · rename_i hbf
      obtain⟨v2,hv2,e3⟩:=pure1 e2
      exact fin (isVal (eO ht hv2) (bW e3) (by simp [execOp,hb,hbf,asBool]))
  · exact(aO e2).elim
 | alloc el=>exact fin (op_alloc R hn1 el e)
 | box el x =>
  obtain⟨v,hv,e2⟩:=pure1 e
  exact fin (op_box R hn1 el v _ (eO ht hv) e2)
 | build tt ps =>
  simp only[aop] at e
  split at e
  · rename_i ps' hps
    refine fin ?_
    rw[ex_build]
    exact op_build R tt ps' _ (by rw[Array.toList_map];exact aLC ht hps) e
  · exact(aO e).elim
 | buildSlice tt len ps =>
  simp only[aop] at e
  split at e
  · rename_i ps' hps
    refine fin ?_
    rw[aEP]
    exact aEJ R hn1 tt len ps' _ (by rw[Array.toList_map];exact aLC ht hps) e
  · exact(aO e).elim
 | load tt x =>
  obtain⟨v,hv,e2⟩:=pure1 e
  exact fin (op_load R tt v _ (eO ht hv) e2)
 | store tt x y =>
  obtain⟨v,hv,e2⟩:=pure1 e
  obtain⟨v2,hv2,e3⟩:=pure1 e2
  exact fin (op_store R tt v v2 _ _ (eO ht hv) (eO ht hv2) e3)
 | nilCheck x =>
  obtain⟨v,hv,e2⟩:=pure1 e
  have hvr:=eO ht hv
  split at e2
  · exact(aO e2).elim
  · exact(aO e2).elim
  · exact(aO e2).elim
  · rename_i h1 h2 h3
    have hδ:=bW e2
    refine fin (isVal hvr hδ ?_)
    generalize hu:a.eval x=u at hvr
    cases hvr<;>first|exact absurd rfl h1 | exact absurd rfl h2 | exact absurd rfl h3 | (simp only[execOp,hu];rfl)
 | binOp op tt x y yt =>
  obtain⟨v,hv,e2⟩:=pure1 e
  obtain⟨v2,hv2,e3⟩:=pure1 e2
  obtain⟨r,hr,e4⟩:=jV e3
  have hδ:=bW e4;subst hδ
  exact fin (op_bin R op tt x y v v2 _ _ (eO ht hv) (eO ht hv2) hr)
 | unOp op tt x =>
  obtain⟨v,hv,e2⟩:=pure1 e
  obtain⟨r,hr,e4⟩:=jV e2
  have hδ:=bW e4;subst hδ
  exact fin (op_un R op v _ (eO ht hv) hr)
 | convert s d x =>
  obtain⟨v,hv,e2⟩:=pure1 e
  exact fin (aKG R s d v _ (eO ht hv) e2)
 | sliceToArrayPointer tt x =>
  obtain⟨v,hv,e2⟩:=pure1 e
  have hvr:=eO ht hv
  split at e2
  · rename_i len el sz bts z cmp hst
    obtain⟨d,inf,h1,h2,he⟩:=bT hst
    simp only[TI.mk.injEq] at he
    obtain rfl:=q8 he.1.symm
    split at e2
    · rename_i ei sz' rows _
      split at e2
      · rename_i hc
        obtain⟨hs1,rfl,hl,h0⟩:=hc
        have hδ:=bW e2
        rcases hvr.sl_cases with⟨rfl,_⟩ | hvr
        · simp at hl;omega
        generalize hu:a.eval x=u at hvr
        cases hvr with
        | inl0=>simp at hl;omega
        | inl _ _ B o c uu hf hlc hcc hvv =>
         refine fin (isVal (u:=.pointer (some ⟨B,o+0*1+0,none⟩)) (.ip 1 rows 0 0 B o uu hf (by omega) hcc hvv) hδ ?_)
         simp [execOp,hu,Instr.arrayAt,run_underlying h1,show ¬rows.length<len by omega]
      · exact(aO e2).elim
    · exact(aO e2).elim
  · exact(aO e2).elim
 | makeInterface _ _=>exact(aO e).elim
 | makeFunc fn first c =>
  cases fn with
  | func f =>
   simp only[aop] at e
   split at e
   · rename_i hf1
     split at e
     · rename_i vs hf hvs
       have hδ:=bW e
       have hvr:=yB ht hvs
       have hfirst:first = #[]:=by
        have:=(yB ht hf).1
        simpa using this
       subst hfirst
       refine fin (isVal (u:=.func (.func f) #[] (c.map a.eval)) (.fn f vs _ ?_ ?_ hf1) hδ ?_)
       rotate_left 2
       · simp only[execOp,Instr.makeFunc,Array.map_empty]
         rfl
       · have:=hvr.1;simpa using this
       · intro i v u hi hu
         exact hvr.2 i v u hi (by simpa using hu)
     · rename_i bs _ hf hvs
       have hδ:=bW e
       have hvr:=yB ht hf
       have hc:c = #[]:=by
        have:=(yB ht hvs).1
        simpa using this
       subst hc
       refine fin (isVal (u:=.func (.func f) (first.map a.eval) #[]) (.bm f bs _ ?_ ?_) hδ ?_)
       rotate_left 2
       · simp only[execOp,Instr.makeFunc,Array.map_empty]
         rfl
       · have:=hvr.1;simpa using this
       · intro i v u hi hu
         exact hvr.2 i v u hi (by simpa using hu)
     · exact(aO e).elim
   · exact(aO e).elim
  | _=>exact(aO e).elim
 | makeMap tt r =>
  cases r with
  | none =>
   have hδ:=cT e
   have hd:=aKX (P:=P) R (hn1 (by rw[hδ];simp)) tt
   rw[← hδ] at hd
   exact fin hd
  | some r=>exact(aO e).elim
 | makeChan _ _=>exact(aO e).elim
 | makeSlice tt l c =>
  obtain⟨v,hv,e2⟩:=pure1 e
  obtain⟨v2,hv2,e3⟩:=pure1 e2
  exact fin (aHA R hn1 tt v v2 _ _ (eO ht hv) (eO ht hv2) e3)
 | slice tt x lo hi mx =>
  obtain⟨v,hv,e2⟩:=pure1 e
  split at e2
  · rename_i lo' hi' mx' h1 h2 h3
    exact fin (op_slice R tt v lo' hi' mx' _ _ _ _ (eO ht hv) (aK5 ht h1) (aK5 ht h2) (aK5 ht h3) e2)
  · exact(aO e2).elim
 | fieldAddr tt x f =>
  obtain⟨v,hv,e2⟩:=pure1 e
  exact fin (aIA R tt v f _ (eO ht hv) e2)
 | field tt x f =>
  obtain⟨v,hv,e2⟩:=pure1 e
  exact fin (op_field R tt v f _ (eO ht hv) e2)
 | indexAddr tt x i =>
  obtain⟨v,hv,e2⟩:=pure1 e
  obtain⟨v2,hv2,e3⟩:=pure1 e2
  exact fin (aH1 R tt v v2 _ _ (eO ht hv) (eO ht hv2) e3)
 | index tt x i =>
  obtain⟨v,hv,e2⟩:=pure1 e
  obtain⟨v2,hv2,e3⟩:=pure1 e2
  exact fin (op_index R tt v v2 _ _ (eO ht hv) (eO ht hv2) e3)
 | lookup tt x i ok =>
  obtain⟨v,hv,e2⟩:=pure1 e
  obtain⟨v2,hv2,e3⟩:=pure1 e2
  exact fin (aMW R tt v v2 ok _ _ (eO ht hv) (eO ht hv2) e3)
 | mapUpdate tt m k x =>
  obtain⟨v,hv,e2⟩:=pure1 e
  obtain⟨v2,hv2,e3⟩:=pure1 e2
  obtain⟨v3,hv3,e4⟩:=pure1 e3
  exact fin (aAD R tt v v2 v3 _ _ _ (eO ht hv) (eO ht hv2) (eO ht hv3) e4)
 | insert tt m k x =>
  obtain⟨v,hv,e2⟩:=pure1 e
  obtain⟨v2,hv2,e3⟩:=pure1 e2
  obtain⟨v3,hv3,e4⟩:=pure1 e3
  exact fin (aAD R tt v v2 v3 _ _ _ (eO ht hv) (eO ht hv2) (eO ht hv3) e4)
 | mapEntry tt m k =>
  obtain⟨v,hv,e2⟩:=pure1 e
  obtain⟨v2,hv2,e3⟩:=pure1 e2
  exact fin (aJM R tt v v2 _ _ (eO ht hv) (eO ht hv2) e3)
 | entryStore tt m s x =>
  obtain⟨v,hv,e2⟩:=pure1 e
  obtain⟨v2,hv2,e3⟩:=pure1 e2
  obtain⟨v3,hv3,e4⟩:=pure1 e3
  exact fin (aES R tt v v2 v3 _ _ _ (eO ht hv) (eO ht hv2) (eO ht hv3) e4)
 | extract x i =>
  obtain⟨v,hv,e2⟩:=pure1 e
  have hvr:=eO ht hv
  split at e2
  · rename_i l
    split at e2
    · rename_i v2 hv2
      have hδ:=bW e2
      generalize hu:a.eval x=u at hvr
      cases hvr with
      | tup _ d hl hvv =>
       obtain⟨u2,hu2,hvr2⟩:=VRs.at_ (⟨hl,hvv⟩:VRs σ π w l d) hv2
       exact fin (isVal hvr2 hδ (by simp only[execOp,hu,Instr.extract,hu2];rfl))
    · exact(aO e2).elim
  · exact(aO e2).elim
 | call c =>
  simp only[aop] at e
  split at e
  · rename_i b hcb
    split at e
    · rename_i args hargs
      have hvr:=yB ht hargs
      have hd:=aLA (cs:=c.args.map fun | .const _=>true | _=>false) (ty:=ty) R hn1 b c.argTypes args _ hvr e
      refine fin ?_
      have hex:execOp a.eval ⟨dst,.call c,ty,pos,after,guard⟩=builtin b c.argTypes ty (c.args.map fun | .const _=>true | _=>false) (c.args.toList.map a.eval).toArray:=by
       rw[show (c.args.toList.map a.eval).toArray=c.args.map a.eval from by rw[← Array.toList_map]]
       simp only[execOp,resolve,hcb]
       rfl
      rw[hex]
      exact hd
    · exact(aO e).elim
  · rename_i f hcf
    obtain⟨v,hv,e2⟩:=pure1 e
    have hvr:=eO ht hv
    split at e2
    · rename_i f' cs args hargs
      have hva:=yB ht hargs
      generalize hu:a.eval f=u at hvr
      cases hvr with
      | bm f' _ d hl hvv =>
       rw[if_neg (by omega),Nat.add_sub_cancel] at e2
       have hvall:VRs σ π w (cs++args) (d++(c.args.map a.eval)):=by
        have h1:=hva.1
        simp only[List.size_toArray,List.length_map,Array.length_toList] at h1
        refine⟨by simp [hl,h1],fun i v u hi hu=>?_⟩
        rcases Nat.lt_or_ge i cs.length with hlt | hge
        · rw[List.getElem?_append_left hlt] at hi
          rw[Array.getElem?_append_left (by omega)] at hu
          exact hvv _ v u hi hu
        · rw[List.getElem?_append_right hge] at hi
          rw[Array.getElem?_append_right (by omega)] at hu
          rw[hl] at hu
          exact hva.2 _ v u hi (by simpa using hu)
       obtain⟨k1,k2⟩:=aLR hcall R _ f' _ _ hvall hn e2
       unfold Oper.wp
       have hex:(execOp a.eval ⟨dst,.call c,ty,pos,after,guard⟩).run P w = .ok (.enter f' (d++(c.args.map a.eval))) w:=by
        simp only[execOp,resolve,hcf,hu,Deferred.ofValue,pure_bind,invoke]
        simp only[Array.append_empty]
        exact k1 _ w
       rw[hex,Oper.upon_enter]
       refine k2.mono fun en w' hen=>?_
       obtain⟨u,σ',π',rfl,hvu,hD⟩:=hen
       exact hK u σ' π' w' hvu hD
      | fn _ _ d hl hvv hf1 =>
       rw[if_pos hf1] at e2
       have hvall:VRs σ π w (args++cs) ((c.args.map a.eval)++d):=by
        have h1:=hva.1
        simp only[List.size_toArray,List.length_map,Array.length_toList] at h1
        refine⟨by simp [hl,h1],fun i v u hi hu=>?_⟩
        rcases Nat.lt_or_ge i args.length with hlt | hge
        · rw[List.getElem?_append_left hlt] at hi
          rw[Array.getElem?_append_left (by simp;omega)] at hu
          exact hva.2 i v u hi (by simpa using hu)
        · rw[List.getElem?_append_right hge] at hi
          rw[Array.getElem?_append_right (by simp;omega)] at hu
          simp only[Array.size_map,h1] at hu
          exact hvv _ v u hi hu
       obtain⟨k1,k2⟩:=aLR hcall R _ f' _ _ hvall hn e2
       unfold Oper.wp
       have hex:(execOp a.eval ⟨dst,.call c,ty,pos,after,guard⟩).run P w = .ok (.enter f' ((c.args.map a.eval)++d)) w:=by
        simp only[execOp,resolve,hcf,hu,Deferred.ofValue,pure_bind,invoke]
        have:(#[]++c.args.map a.eval++d)=(c.args.map a.eval)++d:=by simp
        simp only[Array.empty_append]
        exact k1 _ w
       rw[hex,Oper.upon_enter]
       refine k2.mono fun en w' hen=>?_
       obtain⟨u,σ',π',rfl,hvu,hD⟩:=hen
       exact hK u σ' π' w' hvu hD
    · exact(aO e2).elim
  · exact(aO e).elim
 | _=>exact(aO e).elim

end
end Go.Ws

namespace Go.Ws
set_option linter.unusedVariables false
set_option linter.unusedSimpArgs false

section
variable {K V R:Type} (up:R→(K→V)→K→V) (touch:R→K→Prop)

def fJ (L:Nat→Bool):Nat→List R→(K→V)→K→V
 | _,[],s=>s
 | k,r::rs,s=>fJ L (k+1) rs (if L k then up r s else s)

variable {up touch} (hA:∀r s x,¬touch r x→up r s x=s x) (hB:∀r s s' x,touch r x→up r s x=up r s' x)
include hA hB

theorem aL9 (L:Nat→Bool) (x:K):∀(k:Nat) (rs:List R) (s s':K→V),s x=s' x→fJ up L k rs s x=fJ up L k rs s' x
 | _,[],s,s',h=>h
 | k,r::rs,s,s',h=>by
  refine aL9 L x (k+1) rs _ _ ?_
  by_cases hl:L k=true
  · rw[if_pos hl,if_pos hl]
    by_cases ht:touch r x
    · exact hB r s s' x ht
    · rw[hA r s x ht,hA r s' x ht,h]
  · rw[if_neg hl,if_neg hl,h]

theorem pZ (L L':Nat→Bool) (x:K):∀(k:Nat) (rs:List R) (s:K→V),(∀i r,rs[i]? = some r→touch r x→L (k+i)=L' (k+i))→fJ up L k rs s x=fJ up L' k rs s x
 | _,[],s,h=>rfl
 | k,r::rs,s,h=>by
  show fJ up L (k+1) rs (if L k then up r s else s) x=fJ up L' (k+1) rs (if L' k then up r s else s) x
  rw[pZ L L' x (k+1) rs _ (fun i r' hi ht=>by have:=h (i+1) r' (by simpa using hi) ht;rwa [show k+(i+1)=k+1+i by omega] at this)]
  refine aL9 hA hB L' x (k+1) rs _ _ ?_
  by_cases ht:touch r x
  · have:=h 0 r rfl ht
    simp only[Nat.add_zero] at this
    rw[this]
  · split<;>split<;>simp [hA r s x ht]

theorem s9 (L:Nat→Bool) (x:K):∀(k:Nat) (rs:List R) (s:K→V),(∀i r,rs[i]? = some r→touch r x→L (k+i)=false)→fJ up L k rs s x=s x:=by
 intro k rs s h
 rw[pZ hA hB L (fun _=>false) x k rs s h]
 clear h
 induction rs generalizing k s with
 | nil=>rfl
 | cons r rs ih=>exact ih (k+1) _

theorem aFI (L:Nat→Bool) (x:K):∀(j k:Nat) (rs:List R) (s s':K→V) (r:R),rs[j]? = some r→L (k+j)=true→touch r x →
 (∀i r',j<i→rs[i]? = some r'→touch r' x→L (k+i)=false)→fJ up L k rs s x=up r s' x
 | 0,k,r0::rs,s,s',r,hr,hL,ht,hl=>by
  simp at hr;subst hr
  show fJ up L (k+1) rs (if L k then up r0 s else s) x=_
  simp only[Nat.add_zero] at hL
  rw[if_pos hL,s9 hA hB L x (k+1) rs _ (fun i r' hi ht'=>by have:=hl (i+1) r' (by omega) (by simpa using hi) ht';rwa [show k+(i+1)=k+1+i by omega] at this)]
  exact hB _ _ _ _ ht
 | j+1,k,r0::rs,s,s',r,hr,hL,ht,hl=>by
  refine aFI L x j (k+1) rs _ s' r (by simpa using hr) (by rw[show k+1+j=k+(j+1) by omega];exact hL) ht (fun i r' hi h1 h2=>?_)
  have:=hl (i+1) r' (by omega) (by simpa using h1) h2
  rwa [show k+(i+1)=k+1+i by omega] at this
 | _,_,[],_,_,_,hr,_,_,_=>by simp at hr

theorem aI5 (L L':Nat→Bool) (j:Nat) (rs:List R) (s:K→V) (r:R) (hr:rs[j]? = some r) (hj:L' j=true) (hL:∀i,i≠j→L' i=L i)
 (hx:∀i r' x,j<i→rs[i]? = some r'→L i=true→touch r x→¬touch r' x):fJ up L' 0 rs s=up r (fJ up L 0 rs s):=by
 funext x
 by_cases ht:touch r x
 · refine aFI hA hB L' x j 0 rs s _ r hr (by simpa using hj) ht (fun i r' hi h1 h2=>?_)
   simp only[Nat.zero_add]
   rw[hL i (by omega)]
   cases hLi:L i with
   | false=>rfl
   | true=>exact absurd h2 (hx i r' x hi h1 hLi ht)
 · rw[hA r _ x ht]
   refine pZ hA hB L' L x 0 rs s (fun i r' hi h1=>?_)
   simp only[Nat.zero_add]
   refine hL i fun e=>?_
   subst e
   rw[hr] at hi;cases hi
   exact ht h1
end

variable {P:Program}

def xU (w:World) (σ':Sig) (w':World) (l:List Deferred):Prop :=
 l.Nodup∧∀d∈l,∃D,d={ target:=.collected D,args:=#[] }∧w.heap.size≤D∧(∀b g x,σ' b g=some x→x.blk≠D)∧w'.heap[D]? = some (.deferred (some []))

theorem xU.nil {w:World} {σ':Sig} {w':World}:xU w σ' w' []:=⟨List.nodup_nil,fun d h=>by cases h⟩

theorem xU.step {w w1 w2:World} {σ1 σ2:Sig} {π1 π2:bX} {l:List Deferred} (I:xU w σ1 w1 l) (F:Frm σ1 π1 w1 σ2 π2 w2):xU w σ2 w2 l:=by
 refine⟨I.1,fun d hd=>?_⟩
 obtain⟨D,rfl,h1,h2,h3⟩:=I.2 d hd
 have hlt:=(Array.getElem?_eq_some_iff.1 h3).1
 refine⟨D,rfl,h1,fun b g x hx e=>?_,(F.same D hlt h2).trans h3⟩
 rcases F.own b g x hx with h | ⟨b0,g0,l0,h4,h5⟩
 · omega
 · exact h2 b0 g0 l0 h4 (h5.trans e)

theorem xU.less {w w1 w2:World} {σ1 σ2:Sig} {l:List Deferred} (I:xU w σ1 w1 l) (hw:w2.heap=w1.heap) (hs:∀b g x,σ2 b g=some x→∃b0 g0 l0,σ1 b0 g0=some l0∧l0.blk=x.blk):xU w σ2 w2 l:=by
 refine⟨I.1,fun d hd=>?_⟩
 obtain⟨D,rfl,h1,h2,h3⟩:=I.2 d hd
 refine⟨D,rfl,h1,fun b g x hx e=>?_,by rw[hw];exact h3⟩
 obtain⟨b0,g0,l0,h4,h5⟩:=hs b g x hx
 exact h2 b0 g0 l0 h4 (h5.trans e)

def Now (σ:Sig) (π:bX) (w:World) (t:List AV) (h:Nat→Option Blk) (a:Act) (w':World):Prop :=
 ∃σ' π',VRs σ' π' w' t a.tmps∧Done σ π w σ' π' w' h∧xU w σ' w' a.defers

theorem yH (a:Act) (dst:Option Nat) (u:Value):(a.put dst u).defers=a.defers:=by cases dst<;>rfl

theorem Now.put {σ:Sig} {π:bX} {w w':World} {t:List AV} {h:Nat→Option Blk} {a:Act} {σ':Sig} {π':bX} (hd:xU w σ' w' a.defers) (ht:VRs σ' π' w' t a.tmps) (dst:Option Nat) {v:AV} {u:Value} (hv:VR σ' π' w' v u)
 (D:Done σ π w σ' π' w' h):Now σ π w (aBH t dst v) h (a.put dst u) w':=by
 refine⟨σ',π',?_,D,by rw[yH];exact hd⟩
 cases dst with
 | none=>exact ht
 | some d =>
  refine⟨by simp [aBH,Act.put,ht.1],fun i v' u' hi hu=>?_⟩
  simp only[aBH,Act.put] at hi hu
  by_cases e:d=i
  · subst e
    rw[List.getElem?_set] at hi
    simp only[if_true] at hi
    split at hi
    · rename_i hlt
      cases hi
      have:d<a.tmps.size:=by rw[ht.1];exact hlt
      rw[Array.getElem?_setIfInBounds_self_of_lt this] at hu
      cases hu
      exact hv
    · cases hi
  · rw[List.getElem?_set_ne e] at hi
    rw[Array.getElem?_setIfInBounds_ne e] at hu
    exact ht.2 i v' u' hi hu

theorem rR {σ:Sig} {π:bX} {w:World} {t:List AV} {a:Act} (ht:VRs σ π w t a.tmps) (ops:Array Oper) (o:Oper) {b:Bool} (e:kU ops.toList t o=some b):Region.wanted o (yielded ops a.tmps)=b:=by
 revert e
 unfold Region.wanted kU
 cases o.guard with
 | none=>intro e;cases e;rfl
 | some g =>
  obtain⟨j,want⟩:=g
  simp only[yielded,Array.getElem?_toList]
  cases ho:(ops[j]?).bind (·.dst) with
  | none=>intro e;cases e;simp
  | some d =>
   simp only[Option.bind_some]
   rcases Nat.lt_or_ge d t.length with hlt | hge
   · have hd:d<a.tmps.size:=by rw[ht.1];exact hlt
     have h1:=ht.2 d _ _ (List.getElem?_eq_getElem hlt) (Array.getElem?_eq_getElem hd)
     rw[List.getElem?_eq_getElem hlt,Array.getElem?_eq_getElem hd]
     generalize t[d]=v at h1
     generalize a.tmps[d]=u at h1
     intro e
     cases h1<;>cases e<;>simp
   · rw[List.getElem?_eq_none hge,Array.getElem?_eq_none (by rw[ht.1];exact hge)]
     intro e
     cases e
     simp

section
variable {σ:Sig} {π:bX} {w:World} {call:Option Nat→iO} {cfg:Option Nat→CC} (hcall:∀d,tT P (call d))
include hcall

theorem one_op {ops:Array Oper} {t:List AV} {h:Nat→Option Blk} {n:Nat} {δ:Delta} {L:List Nat} {o:Oper} {a:Act} {w1:World} {K:Act→World→Prop} {Q:Exit→Act→World→Prop}
 (hs:nN (dS P) call cfg ops.toList n t h o=some (δ,L)) (hn:∀i,i<δ.nw.length→h (n+i)=none) (N:Now σ π w t h a w1)
 (hK:∀a' w',Now σ π w (aBH t o.dst δ.v) (gG h n δ) a' w'→K a' w') :
 if Region.wanted o (yielded ops a.tmps) then o.wp P a w1 K Q∨(o.asks P a w1∧LetsOut Q) else K (a.put o.dst undef) w1:=by
 obtain⟨σ1,π1,ht,D,hd⟩:=N
 unfold nN at hs
 split at hs
 · rename_i hw
   rw[rR ht _ _ hw,if_pos rfl]
   refine .inl (op_all (hcall o.dst) (cfg o.dst) D.rel ht o hn hs fun u σ' π' w' hv D'=>hK _ _ ?_)
   exact Now.put (hd.step D'.frm) (ht.mono D'.ext) _ hv (D.trans D')
 · rename_i hw
   rw[rR ht _ _ hw,if_neg (by simp)]
   cases hs
   refine hK _ _ ?_
   rw[i9]
   exact Now.put hd ht _ (fS _ _ _) D
 · cases hs

omit hcall in
theorem upd_fn:∀(l:List (Nat × Blk)) (h:List Blk),(∀p∈l,p.1<h.length)→((upd h l)[·]?)=pN (h[·]?) l∧(upd h l).length=h.length
 | [],h,_=>⟨rfl,rfl⟩
 | (b,x)::l,h,hl=>by
  have hb:b<h.length:=hl (b,x) (by simp)
  obtain⟨h1,h2⟩:=upd_fn l (h.set b x) (fun p hp=>by rw[List.length_set];exact hl p (by simp [hp]))
  refine⟨?_,by simpa [upd] using h2⟩
  show ((upd (h.set b x) l)[·]?)=pN (fun c=>if c=b then some x else h[c]?) l
  rw[h1]
  congr 1
  funext c
  by_cases e:c=b
  · subst e;simp [hb]
  · rw[if_neg e,List.getElem?_set_ne (fun h=>e h.symm)]

omit hcall in
theorem aC1 {st:St} {dst:Option Nat} {δ:Delta} (hu:upOk st.h.length δ=true):((st.after dst δ).h[·]?)=gG (st.h[·]?) st.h.length δ∧(st.after dst δ).h.length=st.h.length+δ.nw.length:=by
 have hl:∀p∈δ.up,p.1<st.h.length:=fun p hp=>by
  have:=List.all_eq_true.1 hu p hp
  simpa using this
 obtain⟨h1,h2⟩:=upd_fn δ.up st.h hl
 refine⟨?_,by simp [St.after,h2]⟩
 funext b
 have e1:(upd st.h δ.up)[b]? = pN (st.h[·]?) δ.up b:=congrFun h1 b
 simp only[St.after,gG]
 rcases Nat.lt_or_ge b st.h.length with hlt | hge
 · rw[List.getElem?_append_left (by omega),if_neg (by omega),e1]
 · rw[List.getElem?_append_right (by omega),h2]
   split
   · rfl
   · rename_i hb
     rw[List.getElem?_eq_none (by omega),← e1,List.getElem?_eq_none (by omega)]

theorem aI0 {ops:Array Oper} {Q:Exit→Act→World→Prop}:∀(l:List Oper) (i:Nat) (st st':St) (a:Act) (w1:World),ops.toList.drop i=l→pF (dS P) call cfg ops.toList l st=some st'→Now σ π w st.t (st.h[·]?) a w1 →
 (∀a' w',Now σ π w st'.t (st'.h[·]?) a' w'→Q .normal a' w')→wpOps P ops Q (List.range' i l.length) a w1
 | [],i,st,st',a,w1,_,hr,N,hQ=>by
  cases hr
  exact hQ _ _ N
 | o::l,i,st,st',a,w1,hd,hr,N,hQ=>by
  simp only[pF] at hr
  split at hr
  · rename_i δ L hs
    split at hr
    · rename_i hu
      have hi:ops[i]? = some o:=by
       have:(ops.toList.drop i)[0]? = some o:=by rw[hd];rfl
       simpa using this
      have hd':ops.toList.drop (i+1)=l:=by rw[← List.drop_drop,hd];rfl
      obtain⟨h1,h2⟩:=aC1 (dst:=o.dst) hu
      simp only[List.length_cons,List.range'_succ,wpOps,hi]
      refine one_op hcall hs (fun k _=>List.getElem?_eq_none (by omega)) N fun a' w' N'=>?_
      refine aI0 l (i+1) (st.after o.dst δ) st' a' w' hd' hr ?_ hQ
      rw[h1]
      exact N'
    · cases hr
  · cases hr

theorem aIX {id:Nat} {ops:Array Oper} {Q:Exit→Act→World→Prop} {st st':St} {a:Act} {w1:World} (hr:pF (dS P) call cfg ops.toList ops.toList st=some st') (N:Now σ π w st.t (st.h[·]?) a w1)
 (hQ:∀a' w',Now σ π w st'.t (st'.h[·]?) a' w'→Q .normal a' w'):(Code.region id ops false).wp P Q a w1:=by
 refine wp_region ?_
 have:=aI0 hcall (Q:=Q) ops.toList 0 st st' a w1 (by simp) hr N hQ
 rwa [Array.length_toList,← List.range_eq_range'] at this
end

end Go.Ws

namespace Go.Ws
set_option linter.unusedVariables false
set_option linter.unusedSimpArgs false

variable {P:Program}

theorem aI1 {α:Type}:∀(m:AM α) (h h':Nat→Option Blk) (a:α) (l:List Nat),m.run h=some (a,l)→(∀b∈l,h' b=h b)→m.run h'=some (a,l)
 | .ret _,_,_,_,_,e,_=>e
 | .fail,_,_,_,_,e,_=>by cases e
 | .rd b k,h,h',a,l,e,hl=>by
  simp only[AM.run] at e ⊢
  split at e
  · cases e
  · rename_i x hx
    split at e
    · cases e
    · rename_i a' l' he
      cases e
      rw[hl b (by simp),hx]
      simp only[]
      rw[aI1 (k x) h h' _ _ he (fun c hc=>hl c (by simp [hc]))]

theorem aMS {t t':List AV} {x:Operand} (h:∀d,x = .tmp d→t[d]? = t'[d]?):evA t x=evA t' x:=by
 cases x with
 | tmp d=>simp [evA,List.getD_eq_getElem?_getD,h d rfl]
 | _=>rfl

theorem uO {t t':List AV}:∀{l:List Operand},(∀x∈l,evA t x=evA t' x)→evL t l=evL t' l
 | [],_=>rfl
 | x::l,h=>by simp only[evL];rw[h x (by simp),uO (fun y hy=>h y (by simp [hy]))]

theorem aBG {t t':List AV}:∀{l:List (Nat × Operand)},(∀p∈l,evA t p.2=evA t' p.2)→evP t l=evP t' l
 | [],_=>rfl
 | (i,x)::l,h=>by simp only[evP];rw[h (i,x) (by simp),aBG (fun y hy=>h y (by simp [hy]))]

theorem aAY {t t':List AV} {x:Option Operand} (h:∀y,x=some y→evA t y=evA t' y):evO t x=evO t' x:=by
 cases x with
 | none=>rfl
 | some x=>simp only[evO];rw[h x rfl]

theorem aMZ {T:Nat→Option TI} {call:iO} {cfg:CC} {n:Nat} {t t':List AV} (o:Op) (h:∀x∈o.operands,evA t x=evA t' x):aop T call cfg n t o=aop T call cfg n t' o:=by
 cases o<;>simp only[Op.operands] at h<;>simp only[aop]
 case build ty ps=>rw[aBG (t':=t') fun p hp=>h p.2 (by simp only[List.mem_toArray,List.mem_map];exact⟨p,hp,rfl⟩)]
 case buildSlice ty len ps=>rw[aBG (t':=t') fun p hp=>h p.2 (by simp only[List.mem_toArray,List.mem_map];exact⟨p,hp,rfl⟩)]
 case makeFunc fn first c=>cases fn<;>simp only[] ;rw[uO (t':=t') (l:=first.toList) fun x hx=>h x (by simp at hx;simp [hx]),uO (t':=t') (l:=c.toList) fun x hx=>h x (by simp at hx;simp [hx])]
 case makeMap ty r=>cases r<;>rfl
 case slice ty x lo hi mx =>
  rw[h x (by simp),aAY (t':=t') (x:=lo) fun y hy=>h y (by simp [hy]),aAY (t':=t') (x:=hi) fun y hy=>h y (by simp [hy]),aAY (t':=t') (x:=mx) fun y hy=>h y (by simp [hy])]
 case call c =>
  have hargs:evL t c.args.toList=evL t' c.args.toList:=uO fun x hx=>h x (by simp at hx;simp [Call.operands,hx])
  rw[hargs]
  cases hc:c.callee with
  | value f=>simp only[];rw[h f (by simp [Call.operands,hc])]
  | _=>rfl
 all_goals (first|rfl | (simp only[List.mem_toArray,List.mem_cons,List.not_mem_nil,or_false,forall_eq_or_imp,forall_eq] at h;simp only[h];done)|(simp_all;done))

theorem aIJ {T:Nat→Option TI} {call:Option Nat→iO} {cfg:Option Nat→CC} {ops:List Oper} {n:Nat} {t t':List AV} {h h':Nat→Option Blk} {o:Oper} {δ:Delta} {L:List Nat}
 (hs:nN T call cfg ops n t h o=some (δ,L)) (ht:∀d∈looks ops o,t'[d]? = t[d]?) (hh:∀b∈L,h' b=h b):nN T call cfg ops n t' h' o=some (δ,L):=by
 have hw:kU ops t' o=kU ops t o:=by
  unfold kU
  cases hg:o.guard with
  | none=>rfl
  | some g =>
   obtain⟨j,want⟩:=g
   simp only[]
   cases ho:(ops[j]?).bind (·.dst) with
   | none=>rfl
   | some d =>
    simp only[]
    rw[ht d (by simp [looks,hg,ho])]
 unfold nN at hs ⊢
 rw[hw]
 split at hs
 · rw[aMZ (t':=t) o.op fun x hx=>aMS fun d hd=>ht d (by
    subst hd
    exact List.mem_append_left _ (List.mem_filterMap.2 ⟨.tmp d,by simpa using hx,rfl⟩))]
   exact aI1 _ _ _ _ _ hs hh
 · exact hs
 · cases hs

def upT (len:Nat) (r:Rec) (s:Nat→Option AV):Nat→Option AV:=fun x=>if r.dst=some x then (if x<len then some r.δ.v else none) else s x
def tchT (r:Rec) (x:Nat):Prop:=r.dst=some x
theorem aIU (len:Nat) (r:Rec) (s:Nat→Option AV) (x:Nat) (h:¬tchT r x):upT len r s x=s x:=if_neg h
theorem aJH (len:Nat) (r:Rec) (s s':Nat→Option AV) (x:Nat) (h:tchT r x):upT len r s x=upT len r s' x:=by
 simp only[tchT] at h
 simp [upT,h]
theorem aHE (t:List AV) (r:Rec):((aBH t r.dst r.δ.v)[·]?)=upT t.length r (t[·]?):=by
 funext x
 unfold upT aBH
 cases r.dst with
 | none=>simp
 | some d =>
  simp only[Option.some.injEq]
  by_cases e:d=x
  · subst e
    rw[if_pos rfl,List.getElem?_set]
    simp
  · rw[if_neg e,List.getElem?_set_ne e]

def upH (r:Rec) (h:Nat→Option Blk):Nat→Option Blk:=gG h r.n r.δ
def tchH (r:Rec) (b:Nat):Prop:=b∈r.δ.up.map (·.1)++List.range' r.n r.δ.nw.length
theorem aFQ (r:Rec) (s:Nat→Option Blk) (b:Nat) (h:¬tchH r b):upH r s b=s b:=by
 simp only[tchH,List.mem_append,not_or,List.mem_range'_1] at h
 unfold upH gG
 rw[if_neg h.2]
 exact tZ h.1
theorem aJD {b:Nat}:∀{l:List (Nat × Blk)} {h h':Nat→Option Blk},b∈l.map (·.1)∨h b=h' b→pN h l b=pN h' l b
 | [],_,_,hb=>by simpa [pN] using hb
 | (c,x)::l,h,h',hb=>by
  simp only[pN]
  refine aJD ?_
  by_cases e:b=c
  · exact .inr (by simp [e])
  · rcases hb with hb | hb
    · simp only[List.map_cons,List.mem_cons] at hb
      exact .inl (hb.resolve_left e)
    · exact .inr (by simp [e,hb])
theorem aEX (r:Rec) (s s':Nat→Option Blk) (b:Nat) (h:tchH r b):upH r s b=upH r s' b:=by
 simp only[tchH,List.mem_append,List.mem_range'_1] at h
 unfold upH gG
 split
 · rfl
 · rename_i hn
   exact aJD (.inl (h.resolve_right hn))

section
variable (T:Nat→Option TI) (call:Option Nat→iO) (cfg:Option Nat→CC) (ops:List Oper)

def zA (len:Nat):List Oper→List Rec→(Nat→Option AV)→(Nat→Option Blk)→Prop
 | [],[],_,_=>True
 | o::l,r::rs,t,h=>r.dst=o.dst∧(∀tl:List AV,(tl[·]?)=t→nN T call cfg ops r.n tl h o=some (r.δ,r.l))∧(∀b,r.n≤b→h b=none)∧zA len l rs (upT len r t) (upH r h)
 | _,_,_,_=>False

variable {T call cfg ops}
theorem aC0:∀(l:List Oper) (st st':St) (rs:List Rec),nH T call cfg ops l st=some (st',rs) →
 zA T call cfg ops st.t.length l rs (st.t[·]?) (st.h[·]?)∧(st'.t[·]?)=fJ (upT st.t.length) (fun _=>true) 0 rs (st.t[·]?)∧(st'.h[·]?)=fJ upH (fun _=>true) 0 rs (st.h[·]?)∧st'.t.length=st.t.length
 | [],st,st',rs,e=>by cases e;exact⟨trivial,rfl,rfl,rfl⟩
 | o::l,st,st',rs,e=>by
  simp only[nH] at e
  split at e
  · rename_i δ L hs
    split at e
    · rename_i hu
      split at e
      · rename_i st2 rs2 hr
        cases e
        obtain⟨h1,h2⟩:=aC1 (dst:=o.dst) hu
        have hlen:(st.after o.dst δ).t.length=st.t.length:=by unfold St.after aBH;cases o.dst<;>simp
        obtain⟨i1,i2,i3,i4⟩:=aC0 l _ _ _ hr
        have ht:((st.after o.dst δ).t[·]?)=upT st.t.length ⟨st.h.length,o.dst,δ,L⟩ (st.t[·]?):=aHE st.t ⟨st.h.length,o.dst,δ,L⟩
        rw[hlen,ht,h1] at i1
        rw[hlen,ht] at i2
        rw[h1] at i3
        have shift:∀{K V:Type} (up:Rec→(K→V)→K→V) (k:Nat) (rs:List Rec) (s:K→V),fJ up (fun _=>true) (k+1) rs s=fJ up (fun _=>true) k rs s:=by
         intro K V up k rs
         induction rs generalizing k with
         | nil=>intro s;rfl
         | cons r rs ih=>intro s;exact ih (k+1) _
        refine⟨⟨rfl,fun tl htl=>?_,fun b hb=>List.getElem?_eq_none hb,i1⟩,?_,?_,by omega⟩
        · have:tl=st.t:=List.ext_getElem? fun i=>congrFun htl i
          rw[this];exact hs
        · rw[i2]
          exact(shift _ 0 rs2 _).symm
        · rw[i3]
          exact(shift _ 0 rs2 _).symm
      · cases e
    · cases e
  · cases e

theorem tR:∀{len:Nat} {l:List Oper} {rs:List Rec} {t:Nat→Option AV} {h:Nat→Option Blk},zA T call cfg ops len l rs t h→rs.length=l.length
 | _,[],[],_,_,_=>rfl
 | _,_::_,_::_,_,_,e=>by simp [tR e.2.2.2]

theorem aKL {len:Nat} (l:List Oper):∀(rs:List Rec) (t:Nat→Option AV) (h:Nat→Option Blk),zA T call cfg ops len l rs t h→∀(j k:Nat) o r,l[j]? = some o→rs[j]? = some r →
 r.dst=o.dst∧(∀tl:List AV,(tl[·]?)=fJ (upT len) (fun i=>decide (i<k+j)) k rs t→nN T call cfg ops r.n tl (fJ upH (fun i=>decide (i<k+j)) k rs h) o=some (r.δ,r.l)) ∧
  (∀b,r.n≤b→fJ upH (fun i=>decide (i<k+j)) k rs h b=none):=by
 induction l with
 | nil=>intro rs t h e j k o r ho hr;simp at ho
 | cons o0 l ih =>
  intro rs t h e j k o r ho hr
  cases rs with
  | nil=>exact e.elim
  | cons r0 rs =>
   cases j with
   | zero =>
    simp only[List.getElem?_cons_zero,Option.some.injEq] at ho hr
    subst ho hr
    have h1:fJ (upT len) (fun i=>decide (i<k+0)) k (r0::rs) t=t:=by
     funext x
     refine s9 (aIU len) (aJH len) _ x k _ t (fun i r hi ht=>?_)
     simp
    have h2:fJ upH (fun i=>decide (i<k+0)) k (r0::rs) h=h:=by
     funext x
     refine s9 aFQ aEX _ x k _ h (fun i r hi ht=>?_)
     simp
    rw[h1,h2]
    exact⟨e.1,e.2.1,e.2.2.1⟩
   | succ j =>
    have:=ih rs _ _ e.2.2.2 j (k+1) o r (by simpa using ho) (by simpa using hr)
    have hk:(fun i=>decide (i<k+(j+1)))=(fun i=>decide (i<k+1+j)):=by funext i;rw[show k+(j+1)=k+1+j by omega]
    have hd:decide (k<k+1+j)=true:=decide_eq_true (by omega)
    have c1:fJ (upT len) (fun i=>decide (i<k+(j+1))) k (r0::rs) t=fJ (upT len) (fun i=>decide (i<k+1+j)) (k+1) rs (upT len r0 t):=by
     rw[hk];simp only[fJ,hd,if_true]
    have c2:fJ upH (fun i=>decide (i<k+(j+1))) k (r0::rs) h=fJ upH (fun i=>decide (i<k+1+j)) (k+1) rs (upH r0 h):=by
     rw[hk];simp only[fJ,hd,if_true]
    rw[c1,c2]
    exact this
end

theorem aFL:∀(l:List Oper) (acc:List Nat),(xT l acc).length=acc.length+l.length∧(∀j,j<acc.length→(xT l acc)[j]? = acc[j]?) ∧
 ∀j o,l[j]? = some o→(xT l acc)[acc.length+j]? = some (aDZ ((xT l acc).take (acc.length+j)) o)
 | [],acc=>⟨rfl,fun _ _=>rfl,fun j o h=>by simp at h⟩
 | o::l,acc=>by
  obtain⟨h1,h2,h3⟩:=aFL l (acc++[aDZ acc o])
  simp only[List.length_append,List.length_singleton] at h1 h2 h3
  have hp:∀k,k≤acc.length+1→(xT (o::l) acc).take k=(acc++[aDZ acc o]).take k:=by
   intro k hk
   refine List.ext_getElem? fun i=>?_
   rw[List.getElem?_take,List.getElem?_take]
   split
   · exact h2 i (by omega)
   · rfl
  refine⟨by simp only[xT,List.length_cons];omega,fun j hj=>?_,fun j o' ho=>?_⟩
  · simp only[xT]
    rw[h2 j (by omega),List.getElem?_append_left hj]
  · cases j with
    | zero =>
     simp at ho;subst ho
     rw[hp _ (by omega)]
     simp only[xT,Nat.add_zero]
     rw[h2 acc.length (by omega),List.take_left']
     · simp
     · rfl
    | succ j =>
     have:=h3 j o' (by simpa using ho)
     simp only[xT]
     rw[show acc.length+(j+1)=acc.length+1+j by omega]
     exact this

theorem aJG (acc:List Nat) (i:Nat):∀(l:List Edge) (s:Nat),(l.foldl (fun s e=>if Region.binds .any e then s ||| 2 ^ e.on ||| acc.getD e.on 0 else s) s).testBit i=true →
 s.testBit i=true∨∃e∈l,Region.binds .any e=true∧(e.on=i∨(acc.getD e.on 0).testBit i=true)
 | [],s,h=>.inl h
 | e::l,s,h=>by
  rcases aJG acc i l _ h with h | ⟨e',he,hb⟩
  · replace h:(if Region.binds Region.Mode.any e=true then s ||| 2 ^ e.on ||| acc.getD e.on 0 else s).testBit i=true:=h
    split at h
    · rename_i hb
      simp only[Nat.testBit_or,Bool.or_eq_true,Nat.testBit_two_pow,decide_eq_true_eq] at h
      rcases h with (h | h) | h
      · exact .inl h
      · exact .inr ⟨e,by simp,hb,.inl h⟩
      · exact .inr ⟨e,by simp,hb,.inr h⟩
    · exact .inl h
  · exact .inr ⟨e',by simp [he],hb⟩

theorem aD2 {ops:List Oper} {L:Nat→Bool} (hc:∀j o,ops[j]? = some o→L j=true→∀e∈o.after,Region.binds .any e=true→L e.on=true) :
 ∀(j i:Nat),L j=true→((xT ops []).getD j 0).testBit i=true→L i=true:=by
 intro j
 induction j using Nat.strongRecOn with
 | _ j ih =>
 intro i hj hb
 obtain⟨h1,h2,h3⟩:=aFL ops []
 simp only[List.length_nil,Nat.zero_add] at h1 h2 h3
 rcases Nat.lt_or_ge j ops.length with hlt | hge
 · have ho:=h3 j ops[j] (List.getElem?_eq_getElem hlt)
   rw[List.getD_eq_getElem?_getD,ho] at hb
   simp only[Option.getD_some,aDZ] at hb
   rcases aJG _ i _ _ hb with h | ⟨e,he,hbd,h⟩
   · simp at h
   · have hLe:=hc j ops[j] (List.getElem?_eq_getElem hlt) hj e (by simpa using he) hbd
     rcases h with h | h
     · rw[← h];exact hLe
     · rw[List.getD_eq_getElem?_getD,List.getElem?_take] at h
       split at h
       · rename_i hej
         refine ih e.on hej i hLe ?_
         rw[List.getD_eq_getElem?_getD]
         exact h
       · simp at h
 · rw[List.getD_eq_getElem?_getD,List.getElem?_eq_none (by omega)] at hb
   simp at hb

theorem zX:∀(l:List Oper) (k:Nat),rV k l=true→∀j o,l[j]? = some o→∀e∈o.after,Region.binds .any e=true→e.on<k+j
 | o0::l,k,h,0,o,ho,e,he,hb=>by
  simp at ho;subst ho
  simp only[rV,Bool.and_eq_true,List.all_eq_true] at h
  have:=h.1 e (by simpa using he)
  simp [hb] at this
  omega
 | o0::l,k,h,j+1,o,ho,e,he,hb=>by
  simp only[rV,Bool.and_eq_true] at h
  have:=zX l (k+1) h.2 j o (by simpa using ho) e he hb
  omega
 | [],_,_,_,_,ho,_,_,_=>by simp at ho

theorem aHV (ops:List Oper):∀(l:List Oper) (rs:List Rec) (j:Nat) o r,l[j]? = some o→rs[j]? = some r→(feet ops l rs)[j]? = some (i6 ops o r)
 | o0::l,r0::rs,0,o,r,ho,hr=>by simp at ho hr;subst ho hr;rfl
 | o0::l,r0::rs,j+1,o,r,ho,hr=>by simpa [feet] using aHV ops l rs j o r (by simpa using ho) (by simpa using hr)
 | [],_,_,_,_,ho,_=>by simp at ho
 | _::_,[],_,_,_,_,hr=>by simp at hr

theorem oW {a b:List Nat} (h:disj a b=true) {x:Nat} (ha:x∈a) (hb:x∈b):False:=by
 have:=List.all_eq_true.1 h x ha
 simp [hb] at this

theorem aIB {before:List Nat} {fs:List Foot} (h:aG7 before fs=true) {i j:Nat} {x y:Foot} (hij:i<j) (hx:fs[i]? = some x) (hy:fs[j]? = some y):(before.getD j 0).testBit i=true∨x.apart y=true:=by
 have hj:=(List.getElem?_eq_some_iff.1 hy).1
 have h1:=List.all_eq_true.1 h j (List.mem_range.2 hj)
 have h2:=List.all_eq_true.1 h1 i (List.mem_range.2 hij)
 rw[hx,hy] at h2
 simpa using h2

theorem iZ {x y:Foot} (h:x.apart y=true):(∀b,b∈x.w→b∈y.w→False)∧(∀b,b∈x.w→b∈y.r→False)∧(∀b,b∈x.r→b∈y.w→False) ∧
 (∀b,b∈x.tw→b∈y.tw→False)∧(∀b,b∈x.tw→b∈y.tr→False)∧(∀b,b∈x.tr→b∈y.tw→False):=by
 simp only[Foot.apart,Bool.and_eq_true] at h
 exact⟨fun b=>oW h.1.1.1.1.1,fun b=>oW h.1.1.1.1.2,fun b=>oW h.1.1.1.2,fun b=>oW h.1.1.2,fun b=>oW h.1.2,fun b=>oW h.2⟩

end Go.Ws

namespace Go.Ws
set_option linter.unusedVariables false
set_option linter.unusedSimpArgs false

variable {P:Program} {σ:Sig} {π:bX} {w:World} {call:Option Nat→iO} {cfg:Option Nat→CC}

def lst (l:Array Bool):Nat→Bool:=fun i=>l.getD i false

theorem lst_set {l:Array Bool} {j:Nat} (hj:j<l.size):lst (l.setIfInBounds j true) j=true∧∀i,i≠j→lst (l.setIfInBounds j true) i=lst l i:=by
 refine⟨by simp [lst,hj],fun i hi=>?_⟩
 simp [lst,Array.getElem?_setIfInBounds_ne (Ne.symm hi)]

structure Drawn (P:Program) (call:Option Nat→iO) (cfg:Option Nat→CC) (ops:List Oper) (rs:List Rec) (t0:List AV) (h0:Nat→Option Blk):Prop where
 run:zA (dS P) call cfg ops t0.length ops rs (t0[·]?) h0
 edges:rV 0 ops=true
 feet:aG7 (xT ops []) (feet ops ops rs)=true

theorem Drawn.pair {ops:List Oper} {rs:List Rec} {t0:List AV} {h0:Nat→Option Blk} (D:Drawn P call cfg ops rs t0 h0) {i j:Nat} {oi oj:Oper} {ri rj:Rec} (hij:i<j)
 (hi:ops[i]? = some oi) (hj:ops[j]? = some oj) (hri:rs[i]? = some ri) (hrj:rs[j]? = some rj) :
 ((xT ops []).getD j 0).testBit i=true∨(i6 ops oi ri).apart (i6 ops oj rj)=true :=
 aIB D.feet hij (aHV ops ops rs i oi ri hi hri) (aHV ops ops rs j oj rj hj hrj)

theorem Drawn.step {ops:List Oper} {rs:List Rec} {t0:List AV} {h0:Nat→Option Blk} (D:Drawn P call cfg ops rs t0 h0) {L:Nat→Bool}
 (hc:∀j o,ops[j]? = some o→L j=true→∀e∈o.after,Region.binds .any e=true→L e.on=true) {j:Nat} {o:Oper} {r:Rec} (ho:ops[j]? = some o) (hr:rs[j]? = some r) (hj:L j=false)
 (hb:∀e∈o.after,Region.binds .any e=true→L e.on=true) {L':Nat→Bool} (hj':L' j=true) (hL:∀i,i≠j→L' i=L i) :
 (∀tl:List AV,(tl[·]?)=fJ (upT t0.length) L 0 rs (t0[·]?)→nN (dS P) call cfg ops r.n tl (fJ upH L 0 rs h0) o=some (r.δ,r.l)) ∧
 (∀i,i<r.δ.nw.length→fJ upH L 0 rs h0 (r.n+i)=none) ∧
 fJ (upT t0.length) L' 0 rs (t0[·]?)=upT t0.length r (fJ (upT t0.length) L 0 rs (t0[·]?)) ∧
 fJ upH L' 0 rs h0=upH r (fJ upH L 0 rs h0)∧r.dst=o.dst:=by
 have hlen:=tR D.run
 have opAt:∀i r',rs[i]? = some r'→∃o',ops[i]? = some o':=fun i r' h=>by
  have:=(List.getElem?_eq_some_iff.1 h).1
  exact⟨_,List.getElem?_eq_getElem (by omega)⟩
 have hc':∀k o,ops[k]? = some o→L' k=true→∀e∈o.after,Region.binds .any e=true→L' e.on=true:=by
  intro k o' hk hl e he hbd
  by_cases hkj:k=j
  · subst hkj
    rw[ho] at hk;cases hk
    by_cases he':e.on=k
    · rw[he'];exact hj'
    · rw[hL _ he'];exact hb e he hbd
  · rw[hL k hkj] at hl
    by_cases he':e.on=j
    · rw[he'];exact hj'
    · rw[hL _ he'];exact hc k o' hk hl e he hbd
 obtain⟨hdst,hrun,hnone⟩:=aKL ops rs _ _ D.run j 0 o r ho hr
 simp only[Nat.zero_add] at hrun hnone
 have key:∀i r',rs[i]? = some r'→L i≠decide (i<j)→∃o',ops[i]? = some o'∧((i<j∧(i6 ops o' r').apart (i6 ops o r)=true)∨(j<i∧L i=true∧(i6 ops o r).apart (i6 ops o' r')=true)):=by
  intro i r' hi hne
  obtain⟨o',ho'⟩:=opAt i r' hi
  refine⟨o',ho',?_⟩
  rcases Nat.lt_trichotomy i j with hij | hij | hij
  · refine .inl ⟨hij,(D.pair hij ho' ho hi hr).resolve_left fun hbit=>?_⟩
    have:=aD2 hc' j i hj' hbit
    rw[hL i (by omega)] at this
    exact hne (by rw[this];simp [hij])
  · subst hij
    exact absurd (by rw[hj];simp) hne
  · have hli:L i=true:=by
     cases h:L i with
     | true=>rfl
     | false=>exact absurd (by rw[h];simp;omega) hne
    refine .inr ⟨hij,hli,(D.pair hij ho ho' hr hi).resolve_left fun hbit=>?_⟩
    have:=aD2 hc i j hli hbit
    rw[hj] at this
    cases this
 have agreeT:∀d,d∈looks ops o→fJ (upT t0.length) L 0 rs (t0[·]?) d=fJ (upT t0.length) (fun i=>decide (i<j)) 0 rs (t0[·]?) d:=by
  intro d hd
  refine pZ (aIU _) (aJH _) _ _ d 0 rs _ fun i r' hi ht=>?_
  simp only[Nat.zero_add]
  refine Classical.byContradiction fun hne=>?_
  obtain⟨o',ho',h⟩:=key i r' hi hne
  have hw:d∈(i6 ops o' r').tw:=by simp only[tchT] at ht;simp [i6,ht]
  have hrd:d∈(i6 ops o r).tr:=hd
  rcases h with⟨_,h⟩ | ⟨_,_,h⟩
  · exact(iZ h).2.2.2.2.1 d hw hrd
  · exact(iZ h).2.2.2.2.2 d hrd hw
 have agreeH:∀b,b∈r.l→fJ upH L 0 rs h0 b=fJ upH (fun i=>decide (i<j)) 0 rs h0 b:=by
  intro b hb
  refine pZ aFQ aEX _ _ b 0 rs _ fun i r' hi ht=>?_
  simp only[Nat.zero_add]
  refine Classical.byContradiction fun hne=>?_
  obtain⟨o',ho',h⟩:=key i r' hi hne
  have hw:b∈(i6 ops o' r').w:=ht
  have hrd:b∈(i6 ops o r).r:=hb
  rcases h with⟨_,h⟩ | ⟨_,_,h⟩
  · exact(iZ h).2.1 b hw hrd
  · exact(iZ h).2.2.1 b hrd hw
 have apartW:∀i r' x,j<i→rs[i]? = some r'→L i=true→tchH r x→¬tchH r' x:=by
  intro i r' x hij hi hli h1 h2
  obtain⟨o',ho',h⟩:=key i r' hi (by rw[hli];simp;omega)
  rcases h with⟨hlt,_⟩ | ⟨_,_,h⟩
  · omega
  · exact(iZ h).1 x h1 h2
 have apartT:∀i r' x,j<i→rs[i]? = some r'→L i=true→tchT r x→¬tchT r' x:=by
  intro i r' x hij hi hli h1 h2
  obtain⟨o',ho',h⟩:=key i r' hi (by rw[hli];simp;omega)
  simp only[tchT] at h1 h2
  rcases h with⟨hlt,_⟩ | ⟨_,_,h⟩
  · omega
  · exact(iZ h).2.2.2.1 x (by simp [i6,h1]) (by simp [i6,h2])
 refine⟨fun tl htl=>?_,fun i hi=>?_,aI5 (aIU _) (aJH _) L L' j rs _ r hr hj' hL apartT,aI5 aFQ aEX L L' j rs _ r hr hj' hL apartW,hdst⟩
 · -- a list for the prefix's temporaries
   have hex:∃tp:List AV,(tp[·]?)=fJ (upT t0.length) (fun i=>decide (i<j)) 0 rs (t0[·]?):=by
    have gen:∀(M:Nat→Bool) (k:Nat) (l:List Rec) (t:List AV),t.length=t0.length→∃tp:List AV,(tp[·]?)=fJ (upT t0.length) M k l (t[·]?):=by
     intro M k l
     induction l generalizing k with
     | nil=>intro t _;exact⟨t,rfl⟩
     | cons r l ih =>
      intro t hlen
      simp only[fJ]
      split
      · rw[← hlen,← aHE t r,hlen]
        exact ih (k+1) (aBH t r.dst r.δ.v) (by unfold aBH;cases r.dst<;>simp [hlen])
      · exact ih (k+1) t hlen
    exact gen _ 0 rs t0 rfl
   obtain⟨tp,htp⟩:=hex
   refine aIJ (hrun tp htp) (fun d hd=>?_) agreeH
   have e1:=congrFun htl d
   have e2:=congrFun htp d
   exact e1.trans ((agreeT d hd).trans e2.symm)
 · have:fJ upH L 0 rs h0 (r.n+i)=fJ upH (fun i=>decide (i<j)) 0 rs h0 (r.n+i):=by
    refine pZ aFQ aEX _ _ _ 0 rs _ fun k r' hk ht=>?_
    simp only[Nat.zero_add]
    refine Classical.byContradiction fun hne=>?_
    obtain⟨o',ho',h⟩:=key k r' hk hne
    have h1:r.n+i∈(i6 ops o r).w:=by simp only[i6,List.mem_append,List.mem_range'_1];exact .inr (by omega)
    rcases h with⟨_,h⟩ | ⟨_,_,h⟩
    · exact(iZ h).1 _ ht h1
    · exact(iZ h).1 _ h1 ht
   rw[this]
   exact hnone _ (by omega)

def unl (n:Nat) (L:Nat→Bool):List Nat:=(List.range n).filter fun i=>!L i

theorem unl_less {n:Nat} {L L':Nat→Bool} {j:Nat} (hjn:j<n) (hj:L j=false) (hj':L' j=true) (hL:∀i,i≠j→L' i=L i):(unl n L').length<(unl n L).length:=by
 have e:unl n L'=(unl n L).filter fun i=>decide (i≠j):=by
  unfold unl
  rw[List.filter_filter]
  refine List.filter_congr fun i _=>?_
  by_cases h:i=j
  · subst h;simp [hj']
  · simp [h,hL i h]
 rw[e,List.length_filter_lt_length_iff_exists]
 exact⟨j,by simp [unl,hjn,hj],by simp⟩

theorem aMN (hcall:∀d,tT P (call d)) {ops:Array Oper} {rs:List Rec} {t0:List AV} {h0:Nat→Option Blk} (D:Drawn P call cfg ops.toList rs t0 h0) {Q:Exit→Act→World→Prop}
 {t':List AV} {h':Nat→Option Blk} (ht':(t'[·]?)=fJ (upT t0.length) (fun _=>true) 0 rs (t0[·]?)) (hh':h'=fJ upH (fun _=>true) 0 rs h0)
 (hQ:∀a' w',Now σ π w t' h' a' w'→Q .normal a' w'):∀(fuel:Nat) (listed:Array Bool) (a:Act) (w1:World) (t:List AV),
 listed.size=ops.size→(unl ops.size (lst listed)).length≤fuel →
 (∀j o,ops.toList[j]? = some o→lst listed j=true→∀e∈o.after,Region.binds .any e=true→lst listed e.on=true) →
 t.length=t0.length→(t[·]?)=fJ (upT t0.length) (lst listed) 0 rs (t0[·]?)→Now σ π w t (fJ upH (lst listed) 0 rs h0) a w1→wpAny P .any ops Q fuel listed a w1:=by
 have hlen:=tR D.run
 replace hlen:rs.length=ops.size:=hlen.trans (Array.length_toList ..)
 have done:∀(listed:Array Bool) (a:Act) (w1:World) (t:List AV),Region.ready .any ops listed=[]→listed.size=ops.size →
  (t[·]?)=fJ (upT t0.length) (lst listed) 0 rs (t0[·]?)→Now σ π w t (fJ upH (lst listed) 0 rs h0) a w1→Q .normal a w1:=by
  intro listed a w1 t hr hsz ht N
  have hall:∀j,j<ops.size→lst listed j=true:=by
   intro j
   induction j using Nat.strongRecOn with
   | _ j ih =>
   intro hj
   cases hlj:lst listed j with
   | true=>rfl
   | false =>
    have:j∈Region.ready .any ops listed:=by
     refine mem_ready.2 ⟨?_,ops[j],Array.getElem?_eq_getElem hj,fun e he hb=>?_⟩
     · simp only[lst] at hlj
       have hj2:j<listed.size:=by omega
       simp [hj2] at hlj ⊢
       exact hlj
     · have:=zX ops.toList 0 D.edges j ops[j] (by simp [hj]) e he hb
       exact ih e.on (by omega) (by omega)
    rw[hr] at this
    cases this
  have e1:fJ (upT t0.length) (lst listed) 0 rs (t0[·]?)=fJ (upT t0.length) (fun _=>true) 0 rs (t0[·]?):=by
   funext x
   refine pZ (aIU _) (aJH _) _ _ x 0 rs _ fun i r hi _=>?_
   have:=(List.getElem?_eq_some_iff.1 hi).1
   simpa using hall i (by omega)
  have e2:fJ upH (lst listed) 0 rs h0=fJ upH (fun _=>true) 0 rs h0:=by
   funext x
   refine pZ aFQ aEX _ _ x 0 rs _ fun i r hi _=>?_
   have:=(List.getElem?_eq_some_iff.1 hi).1
   simpa using hall i (by omega)
  have et:t=t':=List.ext_getElem? fun i=>by
   have:=congrFun (ht.trans (e1.trans ht'.symm)) i
   exact this
  rw[et,e2,← hh'] at N
  exact hQ _ _ N
 intro fuel
 induction fuel with
 | zero =>
  intro listed a w1 t hsz hf hc htl ht N
  have hr:Region.ready .any ops listed=[]:=by
   refine List.eq_nil_iff_forall_not_mem.2 fun j hj=>?_
   obtain⟨h0,o,ho,_⟩:=mem_ready.1 hj
   have hjn:=(Array.getElem?_eq_some_iff.1 ho).1
   have hj2:j<listed.size:=by omega
   have:j∈unl ops.size (lst listed):=by
    simp only[unl,List.mem_filter,List.mem_range]
    refine⟨hjn,?_⟩
    simp [hj2] at h0
    simp [lst,hj2,h0]
   have hz:unl ops.size (lst listed)=[]:=List.length_eq_zero_iff.1 (Nat.le_zero.1 hf)
   rw[hz] at this
   cases this
  exact⟨hr,done listed a w1 t hr hsz ht N⟩
 | succ fuel ih =>
  intro listed a w1 t hsz hf hc htl ht N
  refine⟨fun hr=>done listed a w1 t hr hsz ht N,fun j hj=>?_⟩
  obtain⟨h0,o,ho,hb⟩:=mem_ready.1 hj
  have hjn:=(Array.getElem?_eq_some_iff.1 ho).1
  have hj2:j<listed.size:=by omega
  have hlj:lst listed j=false:=by
   simp [hj2] at h0
   simp [lst,hj2,h0]
  obtain⟨s1,s2⟩:=lst_set hj2
  have hor:ops.toList[j]? = some o:=by simpa using ho
  have hrj:∃r,rs[j]? = some r:=⟨_,List.getElem?_eq_getElem (by omega)⟩
  obtain⟨r,hr⟩:=hrj
  obtain⟨k1,k2,k3,k4,k5⟩:=D.step hc hor hr hlj (fun e he hbd=>hb e he hbd) s1 s2
  unfold wpOp
  rw[ho]
  refine one_op hcall (k1 t ht) k2 N fun a' w' N'=>?_
  refine ih (listed.setIfInBounds j true) a' w' (aBH t o.dst r.δ.v) (by simp [hsz]) ?_ ?_ (by unfold aBH;cases o.dst<;>simp [htl]) ?_ ?_
  · have:=unl_less hjn hlj s1 s2
    omega
  · intro k o' hk hl e he hbd
    by_cases hkj:k=j
    · subst hkj
      rw[hor] at hk;cases hk
      by_cases he':e.on=k
      · rw[he'];exact s1
      · rw[s2 _ he'];exact hb e he hbd
    · rw[s2 k hkj] at hl
      by_cases he':e.on=j
      · rw[he'];exact s1
      · rw[s2 _ he'];exact hc k o' hk hl e he hbd
  · rw[k3,← ht,← k5,aHE,htl]
  · rw[k4]
    exact N'

theorem Now.drew {t:List AV} {h:Nat→Option Blk} {a:Act} {w1:World} (N:Now σ π w t h a w1) (d:Nat):Now σ π w t h a { w1 with drawn:=d }:=by
 obtain⟨σ1,π1,ht,D,hd⟩:=N
 have E:Ext σ1 π1 w1 σ1 π1 { w1 with drawn:=d }:=Ext.of_old (fun _ _ _ h=>h) D.rel.prot D.rel.lt (fun _ _=>rfl)
 refine⟨σ1,π1,ht.mono E,D.trans ⟨E,⟨Nat.le_refl _,rfl,rfl,rfl,fun _ _ _=>rfl,fun b g l hl=>.inr ⟨b,g,l,hl,rfl⟩,fun _ _ hp=>.inl hp⟩,?_⟩,hd⟩
 exact⟨fun b x hx=>(D.rel.blk b x hx).mono E (fun _=>rfl) (fun _ _ _=>rfl) (fun _ _ _ _ hp=>hp),D.rel.non,D.rel.inj,D.rel.lt,D.rel.prot⟩

theorem aJ4 (hcall:∀d,tT P (call d)) (hm:P.follows .mixedOrders=true) {id:Nat} {ops:Array Oper} {draw:Bool} {Q:Exit→Act→World→Prop} {st st':St} {a:Act} {w1:World}
 (hr:rA (dS P) call cfg ops draw st=some st') (N:Now σ π w st.t (st.h[·]?) a w1)
 (hQ:∀a' w',Now σ π w st'.t (st'.h[·]?) a' w'→Q .normal a' w'):(Code.region id ops draw).wp P Q a w1:=by
 unfold rA at hr
 split at hr
 · rename_i hd
   subst hd
   split at hr
   · rename_i st2 rs hrun
     split at hr
     · rename_i hok
       cases hr
       simp only[Bool.and_eq_true] at hok
       obtain⟨i1,i2,i3,i4⟩:=aC0 _ _ _ _ hrun
       have D:Drawn P call cfg ops.toList rs st.t (st.h[·]?):=⟨i1,hok.1,hok.2⟩
       refine wp_region_any hm ?_
       have hf:lst (Array.replicate ops.size false)=fun _=>false:=by
        funext i
        simp only[lst]
        rcases Nat.lt_or_ge i ops.size with h | h
        · simp [h]
        · simp [Nat.not_lt.2 h]
       have none1:fJ (upT st.t.length) (fun _=>false) 0 rs (st.t[·]?)=(st.t[·]?):=by
        funext x;exact s9 (aIU _) (aJH _) _ x 0 rs _ fun _ _ _ _=>rfl
       have none2:fJ upH (fun _=>false) 0 rs (st.h[·]?)=(st.h[·]?):=by
        funext x;exact s9 aFQ aEX _ x 0 rs _ fun _ _ _ _=>rfl
       refine aMN hcall D (t':=st'.t) (h':=(st'.h[·]?)) i2 i3 hQ ops.size _ a _ st.t (by simp) ?_ ?_ rfl ?_ ?_
       · rw[hf];unfold unl;exact Nat.le_trans (List.length_filter_le ..) (by simp)
       · rw[hf];intro j o _ h;cases h
       · rw[hf,none1]
       · rw[hf,none2];exact N.drew _
     · cases hr
   · cases hr
 · rename_i hd
   have:draw=false:=by simpa using hd
   subst this
   exact aIX hcall hr N hQ

end Go.Ws

namespace Go.Ws
set_option linter.unusedVariables false
set_option linter.unusedSimpArgs false

variable {P:Program} {σ:Sig} {π:bX} {w:World}

theorem aEF (r:Nat→Nat) (q:Nat→Nat→Nat):∀(l:List AV) (i:Nat),(AV.regL r q l)[i]? = (l[i]?).map (AV.reg r q)
 | [],i=>by simp [AV.regL]
 | v::l,0=>by simp [AV.regL]
 | v::l,i+1=>by simpa [AV.regL] using aEF r q l i

theorem fF (r:Nat→Nat) (q:Nat→Nat→Nat):∀(l:List AV),(AV.regL r q l).length=l.length
 | []=>rfl
 | v::l=>by simp [AV.regL,fF r q l]

theorem aBE {l:List AV} {v:AV} (hv:v∈l):∀p∈v.gens,p∈AV.gensL l:=by
 induction l with
 | nil=>cases hv
 | cons x l ih =>
  intro p hp
  simp only[AV.gensL,List.mem_append]
  rcases List.mem_cons.1 hv with rfl | hv
  · exact .inl hp
  · exact .inr (ih hv p hp)

def Under (σ σ':Sig) (ρ:Nat→Nat) (q:Nat→Nat→Nat) (p:Nat × Nat × Option Nat):Prop:=∀l,σ p.1 p.2.1=some l→(∀k,p.2.2=some k→k≤l.m)→∃l',σ' (ρ p.1) (q p.1 p.2.1)=some l'∧l'.blk=l.blk∧l'.m≤l.m∧(∀k,p.2.2=some k→k≤l'.m)

theorem VR.reg {σ':Sig} {ρ:Nat→Nat} {q:Nat→Nat→Nat} {v:AV} {u:Value} (hv:VR σ π w v u):(∀p∈v.gens,Under σ σ' ρ q p)→(∀p∈v.gens,p.2.2=none→q p.1 p.2.1=0)→VR σ' π w (v.reg ρ q) u:=by
 intro hρ h0
 have keyL:∀(c:List AV) (d:Array Value),(∀(i:Nat) v u,c[i]? = some v→d[i]? = some u→(∀p∈v.gens,Under σ σ' ρ q p)→(∀p∈v.gens,p.2.2=none→q p.1 p.2.1=0)→VR σ' π w (v.reg ρ q) u) →
  (∀p∈AV.gensL c,Under σ σ' ρ q p)→(∀p∈AV.gensL c,p.2.2=none→q p.1 p.2.1=0)→∀(i:Nat) v u,(AV.regL ρ q c)[i]? = some v→d[i]? = some u→VR σ' π w v u:=by
  intro c d ih hρ h0 i v u hi hu
  rw[aEF] at hi
  obtain⟨v0,hv0,rfl⟩:=Option.map_eq_some_iff.1 hi
  exact ih i v0 u hv0 hu (fun p hp=>hρ p (aBE (List.mem_of_getElem? hv0) p hp)) (fun p hp=>h0 p (aBE (List.mem_of_getElem? hv0) p hp))
 induction hv with
 | bool b=>exact .bool b
 | int k n=>exact .int k n
 | str s=>exact .str s
 | nilp=>exact .nilp
 | hp b o l hl =>
  obtain⟨l',h1,h2,_⟩:=hρ (b,0,none) (by simp [AV.gens]) l hl (fun k hk=>by cases hk)
  have:=h0 (b,0,none) (by simp [AV.gens]) rfl
  simp only at this h1
  rw[this] at h1
  rw[← h2]
  exact .hp _ o l' h1
 | ep sz b g i j l hl hi =>
  obtain⟨l',h1,h2,_,h3⟩:=hρ (b,g,some (i+1)) (by simp [AV.gens]) l hl (fun k hk=>by cases hk;exact hi)
  rw[← h2]
  exact .ep sz _ _ i j l' h1 (h3 _ rfl)
 | ip sz rows i j B o u hf hi hc hv ih =>
  refine .ip sz rows i j B o u hf hi hc (fun r q' row v hr hq=>?_)
  have hfl:=((hf row (List.mem_of_getElem? hr)).2 v (List.mem_of_getElem? hq)).2
  exact(hv r q' row v hr hq).flat_any hfl σ'
 | nils=>exact .nils
 | emps a=>exact .emps a
 | any u=>exact .any u
 | inl0 sz a c=>exact .inl0 sz a c
 | inl sz rows B o c u hf hl hc hv ih =>
  refine .inl sz rows B o c u hf hl hc (fun r q' row v hr hq=>?_)
  have hfl:=((hf row (List.mem_of_getElem? hr)).2 v (List.mem_of_getElem? hq)).2
  exact(hv r q' row v hr hq).flat_any hfl σ'
 | sl0 sz a c hz=>exact .sl0 sz a c hz
 | sl sz rows B o c u hf hl hc hv ih =>
  refine .sl sz rows B o c u hf hl hc (fun r q' row v hr hq=>?_)
  have hfl:=((hf row (List.mem_of_getElem? hr)).2 v (List.mem_of_getElem? hq)).2
  exact(hv r q' row v hr hq).flat_any hfl σ'
 | ref0 sz b g a=>exact .ref0 sz _ _ a
 | ref sz b g i n flg a c l hl hi hn ha hf C e hC hs =>
  obtain⟨l',h1,h2,h3,h4⟩:=hρ (b,g,some (i+n)) (by simp [AV.gens]) l hl (fun k hk=>by cases hk;exact hi)
  exact .ref sz _ _ i n flg a c l' h1 (h4 _ rfl) hn (fun hc=>by rw[h2];exact ha hc) (fun hw=>Nat.le_trans h3 (hf hw)) C e (by rw[h2];exact hC) hs
 | mapn=>exact .mapn
 | mp b l hl =>
  obtain⟨l',h1,h2,_⟩:=hρ (b,0,none) (by simp [AV.gens]) l hl (fun k hk=>by cases hk)
  have:=h0 (b,0,none) (by simp [AV.gens]) rfl
  simp only at this h1
  rw[this] at h1
  rw[← h2]
  exact .mp _ l' h1
 | fn f c d hl hv hf ih=>exact .fn f _ d (by rw[fF];exact hl) (keyL c d ih (by simpa [AV.gens] using hρ) (by simpa [AV.gens] using h0)) hf
 | bm f c d hl hv ih=>exact .bm f _ d (by rw[fF];exact hl) (keyL c d ih (by simpa [AV.gens] using hρ) (by simpa [AV.gens] using h0))
 | ps c d B o k hk hc hl hv ih =>
  have:=VR.ps (σ:=σ') (π:=π) (w:=w) (AV.regL _ _ c) d B o k (by rw[fF];exact hk) hc (by rw[fF];exact hl) (keyL c d ih (by simpa [AV.gens] using hρ) (by simpa [AV.gens] using h0))
  rwa [fF] at this
 | pp c i d B o hi hc hl hv ih=>exact .pp _ i d B o (by rw[fF];exact hi) hc (by rw[fF];exact hl) (keyL c d ih (by simpa [AV.gens] using hρ) (by simpa [AV.gens] using h0))
 | raw u=>exact .raw u
 | fm ks vs bs B cl C hw hp h1 h2 h3 hk hv hb hr ihk ihv =>
  exact .fm ks vs bs B cl C hw hp h1 h2 h3 (fun i k e hi he=>(hk i k e hi he).flat_any (hr k (List.mem_append.2 (.inl (List.mem_of_getElem? hi)))) σ') (fun i v e hi he=>(hv i v e hi he).flat_any (hr v (List.mem_append.2 (.inr (List.mem_of_getElem? hi)))) σ') hb hr
 | nilf=>exact .nilf
 | agg c d hl hv ih=>exact .agg _ d (by rw[fF];exact hl) (keyL c d ih (by simpa [AV.gens] using hρ) (by simpa [AV.gens] using h0))
 | tup c d hl hv ih=>exact .tup _ d (by rw[fF];exact hl) (keyL c d ih (by simpa [AV.gens] using hρ) (by simpa [AV.gens] using h0))

theorem now_upd {st:St} {a:Act} {w1:World} {c:Nat} {y y':Blk} (hy:st.h[c]? = some y) (hb:∀(σ:Sig) (π:bX) (w:World),BR σ π w c y→BR σ π w c y') (N:Now σ π w st.t (st.h[·]?) a w1):Now σ π w st.t ((st.h.set c y')[·]?) a w1:=by
 obtain⟨σ1,π1,ht,D,hd⟩:=N
 have hc:=(List.getElem?_eq_some_iff.1 hy).1
 refine⟨σ1,π1,ht,⟨D.ext,D.frm,⟨fun b x hx=>?_,fun b hb' g=>?_,D.rel.inj,D.rel.lt,D.rel.prot⟩⟩,hd⟩
 · rw[List.getElem?_set] at hx
   split at hx
   · rename_i e
     subst e
     cases hx
     exact hb _ _ _ (D.rel.blk c y hy)
   · exact D.rel.blk b x hx
 · rw[List.getElem?_set] at hb'
   split at hb'
   · rename_i e
     subst e
     cases hb'
   · exact D.rel.non b hb' g

theorem now_virt {st:St} {a:Act} {w1:World} {sz:Nat} (hsz:0<sz) (N:Now σ π w st.t (st.h[·]?) a w1):Now σ π w st.t ((st.h++[Blk.arr sz [] 0 0 false])[·]?) a w1:=by
 obtain⟨σ1,π1,ht,D,hd⟩:=N
 have hnon:=D.rel.non st.h.length (List.getElem?_eq_none (Nat.le_refl _))
 refine⟨σ1,π1,ht,⟨D.ext,D.frm,⟨fun b x hx=>?_,fun b hb' g=>?_,D.rel.inj,D.rel.lt,D.rel.prot⟩⟩,hd⟩
 · rw[List.getElem?_append] at hx
   split at hx
   · exact D.rel.blk b x hx
   · rename_i hge
     have h0:b=st.h.length:=by
      have:=(List.getElem?_eq_some_iff.1 hx).1
      simp at this
      omega
     subst h0
     simp at hx
     subst hx
     exact⟨hsz,Nat.le_refl _,(show fH sz [] from fun row hr=>nomatch hr),fun g _=>hnon g,.inl ⟨rfl,hnon⟩⟩
 · refine D.rel.non b ?_ g
   rw[List.getElem?_eq_none_iff] at hb' ⊢
   simp at hb'
   omega

theorem VR.setSub {v x y:AV} {u:Value} {j:Nat} {σ:Sig} {π:bX} {w:World} (hv:VR σ π w v u) (hj:v.sub[j]? = some x) (hw:∀u,VR σ π w x u→VR σ π w y u):VR σ π w (v.setSub j y) u:=by
 cases hv with
 | agg c d hl hv =>
  have:=VRs.set (⟨hl,hv⟩:VRs σ π w c d) hj hw
  exact .agg _ d this.1 this.2
 | tup c d hl hv =>
  have:=VRs.set (⟨hl,hv⟩:VRs σ π w c d) hj hw
  exact .tup _ d this.1 this.2
 | fn f c d hl hv hf =>
  have:=VRs.set (⟨hl,hv⟩:VRs σ π w c d) hj hw
  exact .fn f _ d this.1 this.2 hf
 | bm f c d hl hv =>
  have:=VRs.set (⟨hl,hv⟩:VRs σ π w c d) hj hw
  exact .bm f _ d this.1 this.2
 | ps c d B o k hk hc hl hv =>
  have h2:=VRs.set (⟨hl,hv⟩:VRs σ π w c d) hj hw
  have:=VR.ps (σ:=σ) (π:=π) (w:=w) (c.set j y) d B o k (by rw[List.length_set];exact hk) hc h2.1 h2.2
  rwa [List.length_set] at this
 | _=>simp [AV.sub] at hj

theorem aMA {m:Nat} {st:St} {ids:List Nat} {src:NSrc} {v x:AV} {a:Act} {w1:World} (hat:atV m st ids src=some v) (hw:∀(σ:Sig) (π:bX) (w:World) u,VR σ π w v u→VR σ π w x u)
 (N:Now σ π w st.t (st.h[·]?) a w1):Now σ π w (rY m st ids x src).t ((rY m st ids x src).h[·]?) a w1:=by
 cases src with
 | tmp i =>
  obtain⟨σ1,π1,ht,D,hd⟩:=N
  exact⟨σ1,π1,ht.set hat fun u=>hw _ _ _ u,D,hd⟩
 | tcell i j =>
  obtain⟨σ1,π1,ht,D,hd⟩:=N
  simp only[atV,Option.bind_eq_some_iff] at hat
  obtain⟨v0,hv0,hj⟩:=hat
  simp only[rY,hv0]
  exact⟨σ1,π1,ht.set hv0 fun u hu=>hu.setSub hj fun u=>hw _ _ _ u,D,hd⟩
 | cell b j =>
  simp only[atV,Option.bind_eq_some_iff] at hat
  obtain⟨c,hc,hat⟩:=hat
  split at hat
  · rename_i l hl
    simp only[rY,hc,hl]
    refine now_upd hl (fun σ π w hB=>?_) N
    obtain⟨lc,C,e,q1,q2,q3,q4,q5⟩:=hB
    refine⟨lc,C,e,q1,q2,by simpa using q3,fun i y hi=>?_,q5⟩
    rw[List.getElem?_set] at hi
    split at hi
    · rename_i e;subst e
      split at hi
      · cases hi
        obtain⟨u,hu,hvu⟩:=q4 j v hat
        exact⟨u,hu,hw _ _ _ u hvu⟩
      · cases hi
    · exact q4 i y hi
  · cases hat

theorem z6 {m:Nat} {st:St} {ids:List Nat} {src:NSrc} {x:AV}:(rY m st ids x src).t.length=st.t.length∧(rY m st ids x src).h.length=st.h.length:=by
 cases src with
 | tmp i=>simp [rY]
 | tcell i j=>simp only[rY];split<;>simp
 | cell b j=>simp only[rY];split<;>(try split)<;>simp

theorem atV_virt {m:Nat} {st:St} {ids:List Nat} {src:NSrc} {v:AV} {x:Blk} (h:atV m st ids src=some v):atV m ⟨st.t,st.h++[x]⟩ ids src=some v:=by
 cases src with
 | tmp i=>exact h
 | tcell i j=>exact h
 | cell b j =>
  simp only[atV,Option.bind_eq_some_iff] at h ⊢
  obtain⟨c,hc,h⟩:=h
  refine⟨c,hc,?_⟩
  cases hl:st.h[c]? with
  | none=>simp [hl] at h
  | some y =>
   rw[List.getElem?_append_left (List.getElem?_eq_some_iff.1 hl).1,hl]
   simpa [hl] using h

theorem ownAt_ok {m sz b n:Nat} {st st':St} {ids:List Nat} {src:NSrc} {v:AV} {a:Act} {w1:World} (hat:atV m st ids src=some v) (e:ownAt m st ids sz src v=some (b,n,st')) (N:Now σ π w st.t (st.h[·]?) a w1) :
 Now σ π w st'.t (st'.h[·]?) a w1∧st'.t.length=st.t.length∧st.h.length≤st'.h.length:=by
 have virt:∀(hv:∀(σ:Sig) (π:bX) (w:World) u,VR σ π w v u→∃a,u = .slice a 0 0),(if 0<sz then some (st.h.length,0,rY m ⟨st.t,st.h++[.arr sz [] 0 0 false]⟩ ids (.ref sz st.h.length 0 0 0 .virt) src) else none)=some (b,n,st') →
  Now σ π w st'.t (st'.h[·]?) a w1∧st'.t.length=st.t.length∧st.h.length≤st'.h.length:=by
  intro hv e
  split at e
  · rename_i hsz
    simp only[Option.some.injEq,Prod.mk.injEq] at e
    obtain⟨_,_,rfl⟩:=e
    have N1:=now_virt hsz N
    refine⟨aMA (st:=⟨st.t,st.h++[.arr sz [] 0 0 false]⟩) (atV_virt hat) (fun σ π w u hu=>?_) N1,z6.1,?_⟩
    · obtain⟨a,rfl⟩:=hv σ π w u hu
      exact .ref0 _ _ _ a
    · rw[z6.2];simp
  · cases e
 unfold ownAt at e
 split at e
 · exact virt (fun σ π w u hu=>by cases hu;exact⟨_,rfl⟩) e
 · exact virt (fun σ π w u hu=>by cases hu;exact⟨_,rfl⟩) e
 · rename_i s b' g n' f
   split at e
   · rename_i hc
     simp only[Bool.and_eq_true] at hc
     simp only[Option.some.injEq,Prod.mk.injEq] at e
     obtain⟨_,_,rfl⟩:=e
     exact⟨aMA hat (fun σ π w u hu=>hu.virt hc.1) N,z6.1,by rw[z6.2];exact Nat.le_refl _⟩
   · cases e
 · cases e

theorem yE {m:Nat} {a:Act} {w1:World}:∀{l:List Slot} {st st':St} {ids ids':List Nat} {cuts cuts':List (Option Nat)},r6 m l st ids cuts=some (ids',cuts',st')→Now σ π w st.t (st.h[·]?) a w1 →
 Now σ π w st'.t (st'.h[·]?) a w1∧st'.t.length=st.t.length∧st.h.length≤st'.h.length∧ids'.length=ids.length+l.length∧cuts'.length=cuts.length+l.length
 | [],st,st',ids,ids',cuts,cuts',e,N=>by
  simp only[r6,Option.some.injEq,Prod.mk.injEq] at e
  obtain⟨rfl,rfl,rfl⟩:=e
  exact⟨N,rfl,Nat.le_refl _,rfl,rfl⟩
 | s::l,st,st',ids,ids',cuts,cuts',e,N=>by
  simp only[r6] at e
  split at e
  · cases e
  · rename_i v hv
    split at e
    · split at e
      · obtain⟨h1,h2,h3,h4,h5⟩:=yE e N
        refine⟨h1,h2,h3,?_,?_⟩
        · rw[h4];simp;omega
        · rw[h5];simp;omega
      · cases e
    · split at e
      · rename_i b n st1 ho
        obtain⟨k1,k2,k3⟩:=ownAt_ok hv ho N
        obtain⟨h1,h2,h3,h4,h5⟩:=yE e k1
        refine⟨h1,h2.trans k2,Nat.le_trans k3 h3,?_,?_⟩
        · rw[h4];simp;omega
        · rw[h5];simp;omega
      · cases e

def zP (cut:Option Nat) (x:Blk) (l:Loc):Loc:=match cut with
 | some n=>if x.isRo then l else ⟨l.blk,min n l.m⟩
 | none=>l

theorem kZ (cut:Option Nat) (x:Blk) (l:Loc):(zP cut x l).blk=l.blk:=by
 unfold zP;split<;>(try split)<;>rfl
theorem aLT (cut:Option Nat) (x:Blk) (l:Loc):(zP cut x l).m≤l.m:=by
 unfold zP;split<;>(try split)<;>simp<;>omega

def sigK (σ:Sig) (h:List Blk) (kg:List (Option Nat)):Sig:=fun b g=>match kg[b]? with
 | some (some g1)=>if g=g1 then (match h[b]? with | some x=>σ b x.gen | none=>none) else if g<g1 then σ b g else none
 | _=>σ b g

def oQ (σ:Sig) (m:Nat) (h:List Blk) (ids:List Nat) (cuts:List (Option Nat)) (kg:List (Option Nat)):Sig:=fun b g=>if b<m then sigK σ h kg b g else match ids[b - m]? with
 | some c=>if g=0 then (match h[c]? with | some x=>(σ c x.gen).map (zP (cuts.getD (b - m) none) x) | none=>none) else none
 | none=>none

theorem aB3 {m:Nat} {h:List Blk} {ids:List Nat} {kg:List (Option Nat)}:∀{l:List (Nat × Nat × Option Nat)},aDC m h ids kg l=true→∀p∈l,
 (p.1<m∧∀g1,kg[p.1]? = some (some g1)→p.2.2.isSome=true∧∃x,h[p.1]? = some x∧x.gen=p.2.1)∨(m≤p.1∧p.1∈ids∧∃x,h[p.1]? = some x∧x.gen=p.2.1)
 | [],_,p,hp=>by cases hp
 | (b,g,e)::l,h1,p,hp=>by
  simp only[aDC,Bool.and_eq_true] at h1
  rcases List.mem_cons.1 hp with rfl | hp
  · have h0:=h1.1
    split at h0
    · rename_i hlt
      refine .inl ⟨hlt,fun g1 hg=>?_⟩
      simp only at hg
      rw[hg] at h0
      simp only[Bool.and_eq_true] at h0
      refine⟨h0.1,?_⟩
      have h2:=h0.2
      split at h2
      · rename_i x hx;exact⟨x,hx,by simpa using h2⟩
      · cases h2
    · rename_i hge
      simp only[Bool.and_eq_true,List.contains_eq_mem,decide_eq_true_eq] at h0
      refine .inr ⟨by simp only;omega,h0.1,?_⟩
      have h2:=h0.2
      split at h2
      · rename_i x hx;exact⟨x,hx,by simpa using h2⟩
      · cases h2
  · exact aB3 h1.2 p hp

theorem s8 {m:Nat} {ids:List Nat} {cuts:List (Option Nat)}:∀{l:List (Nat × Nat × Option Nat)},aCY m ids cuts l→∀p∈l,¬p.1<m→∀n e,cuts.getD (ids.idxOf p.1) none=some n→p.2.2=some e→e≤n
 | [],_,p,hp=>by cases hp
 | (b,g,none)::l,h1,p,hp=>by
  rcases List.mem_cons.1 hp with rfl | hp
  · intro _ n e _ he;cases he
  · exact s8 (l:=l) h1 p hp
 | (b,g,some e0)::l,h1,p,hp=>by
  rcases List.mem_cons.1 hp with rfl | hp
  · intro hlt n e hn he
    cases he
    have:=h1.1
    simp only at hlt
    rw[if_neg hlt,hn] at this
    exact this
  · exact s8 (l:=l) h1.2 p hp

theorem aD6 {m n:Nat}:∀{ids:List Nat},aIH m n ids=true→∀b,b∈ids→m≤b∧b<n
 | [],_,b,hb=>by cases hb
 | c::l,e,b,hb=>by
  simp only[aIH,Bool.and_eq_true,decide_eq_true_eq] at e
  rcases List.mem_cons.1 hb with rfl | hb
  · exact e.1
  · exact aD6 e.2 b hb

theorem aB2:∀{ids:List Nat},aDF ids=true→∀(i j:Nat) b,ids[i]? = some b→ids[j]? = some b→i=j
 | [],_,i,j,b,hi,_=>by simp at hi
 | c::l,e,i,j,b,hi,hj=>by
  simp only[aDF,Bool.and_eq_true,Bool.not_eq_true',List.contains_eq_mem,decide_eq_false_iff_not] at e
  cases i with
  | zero =>
   simp at hi;subst hi
   cases j with
   | zero=>rfl
   | succ j=>exact absurd (List.mem_of_getElem? (by simpa using hj)) e.1
  | succ i =>
   cases j with
   | zero=>simp at hj;subst hj;exact absurd (List.mem_of_getElem? (by simpa using hi)) e.1
   | succ j=>rw[aB2 e.2 i j b (by simpa using hi) (by simpa using hj)]

theorem idx_at {ids:List Nat} {b:Nat} (hb:b∈ids):ids[ids.idxOf b]? = some b:=by
 rw[List.getElem?_eq_getElem (List.idxOf_lt_length_iff.2 hb)]
 simp

theorem uQ {lim:List Nat}:∀{i:Nat} {kg:List (Option Nat)} {h:List Blk},kgOk lim i kg h=true→∀(j:Nat) g1,kg[j]? = some (some g1)→lim.getD (i+j) 0<g1∧∃sz rows gen wgen ro,h[j]? = some (.arr sz rows gen wgen ro)
 | _,[],_,_,j,g1,hj=>by simp at hj
 | i,none::l,h,e,j,g1,hj=>by
  simp only[kgOk] at e
  cases j with
  | zero=>simp at hj
  | succ j =>
   have:=uQ e j g1 (by simpa using hj)
   rw[show i+1+j=i+(j+1) by omega] at this
   refine⟨this.1,?_⟩
   obtain⟨_,_,_,_,_,h2⟩:=this.2
   cases h with
   | nil=>simp at h2
   | cons x h=>exact⟨_,_,_,_,_,by simpa using h2⟩
 | i,some g::l,h,e,j,g1,hj=>by
  simp only[kgOk,Bool.and_eq_true] at e
  cases j with
  | zero =>
   simp at hj;subst hj
   have h1:=e.1
   split at h1
   · rename_i sz rows gen wgen ro hh
     refine⟨by simpa using h1,sz,rows,gen,wgen,ro,?_⟩
     cases h with
     | nil=>simp at hh
     | cons x h=>simpa using hh
   · cases h1
  | succ j =>
   have:=uQ e.2 j g1 (by simpa using hj)
   rw[show i+1+j=i+(j+1) by omega] at this
   refine⟨this.1,?_⟩
   obtain⟨_,_,_,_,_,h2⟩:=this.2
   cases h with
   | nil=>simp at h2
   | cons x h=>exact⟨_,_,_,_,_,by simpa using h2⟩

theorem aAP (m:Nat) (ids:List Nat) (kv:List (List (Nat × Nat))) (kg:List (Option Nat)):∀(i:Nat) (l:List Blk) (j:Nat),(lK m ids kv kg i l)[j]? = (l[j]?).map (aG5 m ids kg (kv.getD (i+j) []) (kg.getD (i+j) none))
 | i,[],j=>by simp [lK]
 | i,x::l,0=>by simp [lK]
 | i,x::l,j+1=>by
  simp only[lK,List.getElem?_cons_succ]
  rw[aAP m ids kv kg (i+1) l j,show i+1+j=i+(j+1) by omega]

theorem y8 (m:Nat) (ids:List Nat) (kv:List (List (Nat × Nat))) (kg:List (Option Nat)):∀(i:Nat) (l:List Blk),(lK m ids kv kg i l).length=l.length
 | i,[]=>rfl
 | i,x::l=>by simp [lK,y8 m ids kv kg (i+1) l]

theorem zY {m:Nat} {h:List Blk} {ids:List Nat} {kg:List (Option Nat)} {ro:Bool}:∀{l:List Slot} {cs:List (Option Nat)} {xs:List Nat},xs.length=l.length→cs.length=l.length→∀(i:Nat) x,(kY m h ids kg ro l cs xs)[i]? = some x →
 ∃s c o,l[i]? = some s∧cs[i]? = some c∧xs[i]? = some o∧x=aHL m h ids kg ro s.vs c o
 | [],cs,xs,h1,h2,i,x,e=>by cases xs<;>cases cs<;>simp [kY] at e
 | s::l,[],xs,h1,h2,i,x,e=>by simp at h2
 | s::l,c::cs,[],h1,h2,i,x,e=>by simp at h1
 | s::l,c::cs,o::xs,h1,h2,0,x,e=>by simp [kY] at e;subst e;exact⟨s,c,o,rfl,rfl,rfl,rfl⟩
 | s::l,c::cs,o::xs,h1,h2,i+1,x,e=>by
  simp only[kY,List.getElem?_cons_succ] at e
  obtain⟨s',c',o',k1,k2,k3,k4⟩:=zY (by simpa using h1) (by simpa using h2) i x e
  exact⟨s',c',o',by simpa using k1,by simpa using k2,by simpa using k3,k4⟩

theorem zI {m:Nat} {h:List Blk} {ids:List Nat} {kg:List (Option Nat)} {ro:Bool}:∀{l:List Slot} {cs:List (Option Nat)} {xs:List Nat},xs.length=l.length→cs.length=l.length→(kY m h ids kg ro l cs xs).length=l.length
 | [],cs,xs,h1,h2=>by cases xs<;>cases cs<;>simp [kY]
 | s::l,[],xs,h1,h2=>by simp at h2
 | s::l,c::cs,[],h1,h2=>by simp at h1
 | s::l,c::cs,o::xs,h1,h2=>by simp [kY,zI (l:=l) (cs:=cs) (xs:=xs) (by simpa using h1) (by simpa using h2)]

theorem pG (n:Nat):∀l,(mkT n l).length=n
 | []=>by simp [mkT]
 | (i,v)::l=>by simp [mkT,pG n l]

theorem aCM {n:Nat} {d:Array Value} (hd:d.size=n):∀(l:List (Nat × AV)),(∀p∈l,∀u,d[p.1]? = some u→VR σ π w p.2 u)→VRs σ π w (mkT n l) d
 | [],_=>⟨by simp [mkT,hd],fun i v u hi hu=>by
  simp only[mkT,List.getElem?_replicate] at hi
  split at hi
  · cases hi;exact .any _
  · cases hi⟩
 | (i,v)::l,h=>by
  have ih:=aCM hd l fun p hp=>h p (List.mem_cons_of_mem _ hp)
  refine⟨by rw[pG,hd],fun j x u hj hu=>?_⟩
  simp only[mkT,List.getElem?_set] at hj
  split at hj
  · rename_i hij
    subst hij
    split at hj
    · cases hj;exact h (i,v) (List.mem_cons_self ..) u hu
    · cases hj
  · exact ih.2 j x u hj hu

theorem aBT {t:List AV}:∀{l:List (Nat × List (Nat × Nat))} {lv:List (Nat × AV)},aBD t l=some lv→∀p∈lv,∃vs v,t[p.1]? = some v∧p.2=rB vs v
 | [],lv,e,p,hp=>by simp only[aBD,Option.some.injEq] at e;subst e;cases hp
 | (i,vs)::l,lv,e,p,hp=>by
  simp only[aBD] at e
  split at e
  · rename_i v r hv hr
    cases e
    rcases List.mem_cons.1 hp with rfl | hp
    · exact⟨vs,v,hv,rfl⟩
    · exact aBT hr p hp
  · cases e

theorem aB5 {r:Nat→Nat} {q:Nat→Nat→Nat}:∀{l:List (Nat × AV)} {p:Nat × AV},p∈zO r q l→∃v,(p.1,v)∈l∧p.2=v.reg r q
 | [],p,hp=>by simp [zO] at hp
 | (i,v)::l,p,hp=>by
  simp only[zO,List.mem_cons] at hp
  rcases hp with rfl | hp
  · exact⟨v,by simp,rfl⟩
  · obtain⟨v',h1,h2⟩:=aB5 hp
    exact⟨v',List.mem_cons_of_mem _ h1,h2⟩

theorem zS:∀{l:List (Nat × AV)} {i:Nat} {v:AV},(i,v)∈l→∀p∈v.gens,p∈yZ l
 | (j,x)::l,i,v,hm,p,hp=>by
  simp only[yZ,List.mem_append]
  rcases List.mem_cons.1 hm with hm | hm
  · cases hm;exact .inl hp
  · exact .inr (zS hm p hp)

theorem w7 {h:List Blk}:∀{l:List Nat} {c:Nat} {x:Blk},c∈l→h[c]? = some x→∀p∈x.gens,p∈uM h l
 | d::l,c,x,hm,hx,p,hp=>by
  simp only[uM,List.mem_append]
  rcases List.mem_cons.1 hm with hm | hm
  · cases hm;rw[hx];exact .inl hp
  · exact .inr (w7 hm hx p hp)

theorem aNB (v:AV) (sz:Nat):(v.canS sz).gens=v.gens:=by cases v<;>rfl

theorem aNG {l:List AV} {i:Nat} {v v':AV} (hi:l[i]? = some v) (hg:v'.gens=v.gens):AV.gensL (l.set i v')=AV.gensL l:=by
 induction l generalizing i with
 | nil=>simp at hi
 | cons x l ih =>
  cases i with
  | zero=>simp at hi;subst hi;simp [AV.gensL,hg]
  | succ i=>simp only[List.set_cons_succ,AV.gensL,ih (by simpa using hi)]

theorem aDJ:∀(vs:List (Nat × Nat)) (l:List AV),AV.gensL (nW vs l)=AV.gensL l
 | [],l=>rfl
 | (i,sz)::vs,l=>by
  simp only[nW]
  rw[aDJ vs]
  cases hi:l[i]? with
  | none=>rfl
  | some v=>exact aNG hi (aNB v sz)

theorem aBP:∀(vs:List (Nat × Nat)) (l:List AV),(nW vs l).length=l.length
 | [],l=>rfl
 | (i,sz)::vs,l=>by
  simp only[nW]
  rw[aBP vs]
  cases hi:l[i]? with
  | none=>rfl
  | some v=>simp

theorem aIG {c:List AV} {C:Array Value} {o:Nat} (h:jX σ π w c C o):∀(vs:List (Nat × Nat)),jX σ π w (nW vs c) C o:=by
 intro vs
 induction vs generalizing c with
 | nil=>exact h
 | cons p vs ih =>
  obtain⟨i,sz⟩:=p
  simp only[nW]
  refine ih ?_
  cases hi:c[i]? with
  | none=>exact h
  | some v =>
   intro j x hj
   simp only[List.getElem?_set] at hj
   split at hj
   · rename_i e;subst e
     split at hj
     · cases hj
       obtain⟨u,hu,hv⟩:=h i v hi
       exact⟨u,hu,hv.canS sz⟩
     · cases hj
   · exact h j x hj

mutual
theorem gens0:∀(v:AV),∀p∈v.gens,p.2.2=none→p.2.1=0
 | .hp b o,p,hp,hn=>by simp [AV.gens] at hp;subst hp;rfl
 | .ep sz b g i j,p,hp,hn=>by simp [AV.gens] at hp;subst hp;cases hn
 | .ref sz b g i n f,p,hp,hn=>by simp [AV.gens] at hp;subst hp;cases hn
 | .mp b,p,hp,hn=>by simp [AV.gens] at hp;subst hp;rfl
 | .fn f c,p,hp,hn=>gensL0 c p hp hn
 | .ps c,p,hp,hn=>gensL0 c p hp hn
 | .pp c i,p,hp,hn=>gensL0 c p hp hn
 | .raw _,p,hp,hn=>by cases hp
 | .fm _ _ _ _,p,hp,hn=>by cases hp
 | .agg c,p,hp,hn=>gensL0 c p hp hn
 | .tup c,p,hp,hn=>gensL0 c p hp hn
 | .bool _,p,hp,hn=>by cases hp
 | .int _ _,p,hp,hn=>by cases hp
 | .str _,p,hp,hn=>by cases hp
 | .nilp,p,hp,hn=>by cases hp
 | .ip _ _ _ _,p,hp,hn=>by cases hp
 | .nils,p,hp,hn=>by cases hp
 | .emps,p,hp,hn=>by cases hp
 | .any,p,hp,hn=>by cases hp
 | .inl _ _,p,hp,hn=>by cases hp
 | .sl _ _,p,hp,hn=>by cases hp
 | .mapn,p,hp,hn=>by cases hp
 | .nilf,p,hp,hn=>by cases hp
theorem gensL0:∀(l:List AV),∀p∈AV.gensL l,p.2.2=none→p.2.1=0
 | [],p,hp,hn=>by cases hp
 | v::l,p,hp,hn=>by
  simp only[AV.gensL,List.mem_append] at hp
  rcases hp with hp | hp
  · exact gens0 v p hp hn
  · exact gensL0 l p hp hn
end

set_option maxHeartbeats 2000000 in
theorem norm_ok {m:Nat} {lim:List Nat} {s:NSpec} (hm:∀b,m≤b→∀g,σ b g=none) (hlim:∀(b g1:Nat),s.kg[b]? = some (some g1)→∀g,g1≤g→σ b g=none) {st0 st':St} {a:Act} {w1:World} (e:NormR m lim s st0 st')
 (N0:Now σ π w st0.t (st0.h[·]?) a w1):Now σ π w st'.t (st'.h[·]?) a w1:=by
 obtain⟨hmh0,ids,cuts,st,lv,hids,hlv,hnd,hio,hgo,hco,hkg,rfl⟩:=e
 obtain⟨N,htl,hhl,hlen,hclen⟩:=yE hids N0
 simp only[List.length_nil,Nat.zero_add] at hlen hclen
 have hmh:m≤st.h.length:=Nat.le_trans hmh0 hhl
 obtain⟨σ1,π1,ht,D,hd⟩:=N
 have R:=D.rel
 have hio':=aD6 hio
 have hgo':=aB3 hgo
 have hco':=s8 hco
 have hkg':=uQ hkg
 simp only[Nat.zero_add] at hkg'
 have hkl:(st.h.take m).length=m:=by simp;omega
 have hkgm:∀(b g1:Nat),s.kg[b]? = some (some g1)→b<m:=by
  intro b g1 hb
  obtain⟨_,_,_,_,_,_,h1⟩:=hkg' b g1 hb
  have:=(List.getElem?_eq_some_iff.1 h1).1
  omega
 have hkgarr:∀(b g1:Nat),s.kg[b]? = some (some g1)→∃(sz:Nat) (rows:List (List AV)) (gen wgen:Nat) (ro:Bool),st.h[b]? = some (Blk.arr sz rows gen wgen ro):=by
  intro b g1 hb
  obtain⟨_,sz,rows,gen,wgen,ro,h1⟩:=hkg' b g1 hb
  rw[List.getElem?_take,if_pos (hkgm b g1 hb)] at h1
  exact⟨sz,rows,gen,wgen,ro,h1⟩
 have place:∀p∈lB m st ids lv,Under σ1 (oQ σ1 m st.h ids cuts s.kg) (regB m ids) (aED m s.kg) p:=by
  intro p hp l hl hext
  rcases hgo' p hp with⟨hlt,hk⟩ | ⟨hge,hin,x,hx,hxg⟩
  · simp only[oQ,regB,aED,if_pos hlt,sigK]
    cases hkp:s.kg[p.1]? with
    | none=>exact⟨l,hl,rfl,Nat.le_refl _,hext⟩
    | some o =>
     cases o with
     | none=>exact⟨l,hl,rfl,Nat.le_refl _,hext⟩
     | some g1 =>
      obtain⟨_,x,hx,hxg⟩:=hk g1 hkp
      simp only[if_true,hx,hxg]
      exact⟨l,hl,rfl,Nat.le_refl _,hext⟩
  · have hge':¬p.1<m:=by omega
    have hge2:¬m+ids.idxOf p.1<m:=by omega
    simp only[oQ,regB,aED,if_neg hge',if_neg hge2,Nat.add_sub_cancel_left,if_true,idx_at hin,hx,hxg,hl,Option.map_some]
    refine⟨_,rfl,kZ _ _ _,aLT _ _ _,fun k hk=>?_⟩
    have h1:=hext k hk
    cases hcut:cuts.getD (ids.idxOf p.1) none with
    | none=>exact h1
    | some n =>
     have h2:=hco' p hp hge' n k hcut hk
     unfold zP
     simp only
     split
     · exact h1
     · simp only;omega
 have zero:∀p∈lB m st ids lv,p.2.2=none→aED m s.kg p.1 p.2.1=0∨(p.1<m∧aED m s.kg p.1 p.2.1=p.2.1):=by
  intro p hp hn
  unfold aED
  by_cases hlt:p.1<m
  · rw[if_pos hlt]
    refine .inr ⟨hlt,?_⟩
    rcases hgo' p hp with⟨_,hk⟩ | ⟨hge,_⟩
    · cases hkp:s.kg[p.1]? with
      | none=>rfl
      | some o =>
       cases o with
       | none=>rfl
       | some g1 =>
        have:=(hk g1 hkp).1
        rw[hn] at this
        cases this
    · omega
  · rw[if_neg hlt]
    exact .inl rfl
 have reg:∀{v:AV} {u:Value},VR σ1 π1 w1 v u→(∀p∈v.gens,p∈lB m st ids lv)→VR (oQ σ1 m st.h ids cuts s.kg) π1 w1 (v.reg (regB m ids) (aED m s.kg)) u:=by
  intro v u hv hg
  refine hv.reg (fun p hp=>place p (hg p hp)) fun p hp hn=>?_
  rcases zero p (hg p hp) hn with h | ⟨_,h⟩
  · exact h
  · rw[h];exact gens0 v p hp hn
 have orig:∀b g l,oQ σ1 m st.h ids cuts s.kg b g=some l→∃c g' l',σ1 c g'=some l'∧l'.blk=l.blk∧((b<m∧c=b)∨(m≤b∧ids[b - m]? = some c)):=by
  intro b g l hl
  unfold oQ at hl
  split at hl
  · rename_i hlt
    unfold sigK at hl
    split at hl
    · split at hl
      · split at hl
        · exact⟨b,_,l,hl,rfl,.inl ⟨hlt,rfl⟩⟩
        · cases hl
      · split at hl
        · exact⟨b,g,l,hl,rfl,.inl ⟨hlt,rfl⟩⟩
        · cases hl
    · exact⟨b,g,l,hl,rfl,.inl ⟨hlt,rfl⟩⟩
  · rename_i hge
    split at hl
    · rename_i c hc
      split at hl
      · split at hl
        · rename_i x hx
          obtain⟨l',h1,h2⟩:=Option.map_eq_some_iff.1 hl
          exact⟨c,x.gen,l',h1,by rw[← h2,kZ],.inr ⟨by omega,hc⟩⟩
        · cases hl
      · cases hl
    · cases hl
 have gAll1:∀{i:Nat} {v:AV},(i,v)∈lv→∀p∈v.gens,p∈lB m st ids lv:=fun hm p hp=>List.mem_append_left _ (zS hm p hp)
 have gAll2:∀{y:Blk},y∈st.h.take m→∀p∈y.gens,p∈lB m st ids lv:=fun hy p hp=>List.mem_append_right _ (List.mem_append_left _ (List.mem_flatMap.2 ⟨_,hy,hp⟩))
 have gAll3:∀{c:Nat} {y:Blk},c∈ids→st.h[c]? = some y→∀p∈y.gens,p∈lB m st ids lv:=fun hc hy p hp=>List.mem_append_right _ (List.mem_append_right _ (w7 hc hy p hp))
 have row:∀{c:List AV} {C:Array Value} (vs:List (Nat × Nat)),(∀p∈AV.gensL c,p∈lB m st ids lv)→jX σ1 π1 w1 c C 0→jX (oQ σ1 m st.h ids cuts s.kg) π1 w1 (AV.regL (regB m ids) (aED m s.kg) (nW vs c)) C 0:=by
  intro c C vs hg hr i v hi
  rw[aEF] at hi
  obtain⟨v0,hv0,rfl⟩:=Option.map_eq_some_iff.1 hi
  obtain⟨u,hu,hv⟩:=aIG hr vs i v0 hv0
  refine⟨u,hu,reg hv fun p hp=>hg p ?_⟩
  rw[← aDJ vs c]
  exact aBE (List.mem_of_getElem? hv0) p hp
 have hfl:∀{row:List AV} {C:Array Value} {o:Nat},(∀v∈row,v.flat)→jX σ1 π1 w1 row C o→jX (oQ σ1 m st.h ids cuts s.kg) π1 w1 row C o:=by
  intro row C o hf hr i v hi
  obtain⟨u,hu,hv⟩:=hr i v hi
  exact⟨u,hu,hv.flat_any (hf v (List.mem_of_getElem? hi)).2 _⟩
 refine⟨oQ σ1 m st.h ids cuts s.kg,π1,?_,⟨?_,?_,?_⟩,hd.less rfl fun b g l hl=>by
  obtain⟨c,g',l',h1,h2,_⟩:=orig b g l hl
  exact⟨c,g',l',h1,h2⟩⟩
 · refine aCM (by have:=ht.1;simpa using this) _ fun p hp u hu=>?_
   obtain⟨v,hv,he⟩:=aB5 hp
   obtain⟨vs,v0,h1,h2⟩:=aBT hlv _ hv
   simp only at h1 h2
   rw[he]
   refine reg ?_ (gAll1 hv)
   rw[h2]
   exact(ht.2 _ v0 u h1 hu).cast vs
 · refine⟨fun b g l hl=>?_,D.ext.prot,D.ext.cell,D.ext.size,D.ext.mapc⟩
   have hb:b<m:=by
    refine Classical.byContradiction fun hge=>?_
    have:=hm b (by omega) g
    rw[hl] at this;cases this
   have h1:=D.ext.sig b g l hl
   unfold oQ sigK
   rw[if_pos hb]
   cases hkp:s.kg[b]? with
   | none=>exact h1
   | some o =>
    cases o with
    | none=>exact h1
    | some g1 =>
     have hlt:¬g1≤g:=by
      intro hh
      rw[hlim b g1 hkp g hh] at hl;cases hl
     simp only
     rw[if_neg (by omega),if_pos (by omega)]
     exact h1
 · refine⟨D.frm.size,D.frm.os,D.frm.tape,D.frm.output,D.frm.same,fun b g l hl=>?_,D.frm.pro⟩
   obtain⟨c,g',l',h1,h2,_⟩:=orig b g l hl
   rcases D.frm.own c g' l' h1 with h3 | ⟨b0,g0,l0,h3,h4⟩
   · exact .inl (h2▸h3)
   · exact .inr ⟨b0,g0,l0,h3,h4.trans h2⟩
 · have hklen:(lK m ids s.kv s.kg 0 (st.h.take m)).length=m:=by rw[y8,hkl]
   refine⟨fun b x hx=>?_,fun b hb g=>?_,fun b g b' g' l l' hl hl' he=>?_,fun b g l hl=>?_,R.prot⟩
   · simp only[aHT] at hx
     rcases Nat.lt_or_ge b m with hlt | hge
     · rw[List.getElem?_append_left (by omega),aAP] at hx
       obtain⟨y,hy,rfl⟩:=Option.map_eq_some_iff.1 hx
       simp only[Nat.zero_add]
       have hy':st.h[b]? = some y:=by
        rw[List.getElem?_take,if_pos hlt] at hy
        exact hy
       have hB:=R.blk b y hy'
       have hmem:=List.mem_of_getElem? hy
       have hsame:s.kg.getD b none=none→∀g,oQ σ1 m st.h ids cuts s.kg b g=σ1 b g:=fun hk g=>by
        unfold oQ sigK
        rw[if_pos hlt]
        rw[List.getD_eq_getElem?_getD] at hk
        cases hkp:s.kg[b]? with
        | none=>rfl
        | some o =>
         rw[hkp] at hk
         simp at hk
         subst hk
         rfl
       have hnorow:(∀sz rows gen wgen ro,y ≠ .arr sz rows gen wgen ro)→s.kg.getD b none=none:=by
        intro hne
        rw[List.getD_eq_getElem?_getD]
        cases hkp:s.kg[b]? with
        | none=>rfl
        | some o =>
         cases o with
         | none=>rfl
         | some g1 =>
          obtain⟨sz,rows,gen,wgen,ro,h1⟩:=hkgarr b g1 hkp
          rw[hy'] at h1
          cases h1
          exact absurd rfl (hne _ _ _ _ _)
       cases y with
       | row c =>
        have hs:=hsame (hnorow fun _ _ _ _ _ h=>by cases h)
        obtain⟨l,C,e,q1,q2,q3,q4,q5⟩:=hB
        exact⟨l,C,e,(hs 0).trans q1,q2,by rw[fF,aBP];exact q3,row _ (gAll2 hmem) q4,q5⟩
       | arr sz rows gen wgen ro =>
        simp only[aG5]
        cases hk:s.kg.getD b none with
        | none =>
         have:=(hB.ren (ρ:=id) (x:=.arr sz rows gen wgen ro) (b':=b) (hsame hk) (fun c hc=>by cases hc))
         exact this
        | some g1 =>
         have hkp:s.kg[b]? = some (some g1):=by
          rw[List.getD_eq_getElem?_getD] at hk
          cases hkp:s.kg[b]? with
          | none=>rw[hkp] at hk;cases hk
          | some o=>rw[hkp] at hk;simp at hk;rw[hk]
         have hsg:oQ σ1 m st.h ids cuts s.kg b g1=σ1 b gen:=by
          unfold oQ sigK
          rw[if_pos hlt,hkp]
          simp only[if_true,hy']
          rfl
         have hsn:∀g,g1<g→oQ σ1 m st.h ids cuts s.kg b g=none:=by
          intro g hg
          unfold oQ sigK
          rw[if_pos hlt,hkp]
          simp only
          rw[if_neg (by omega),if_neg (by omega)]
         obtain⟨k1,k2,k3,k4,k5⟩:=hB
         refine⟨k1,Nat.le_refl _,k3,hsn,?_⟩
         rcases k5 with⟨h1,h2⟩ | ⟨⟨l,c1,c2,c3,c4⟩,q6⟩
         · refine .inl ⟨h1,fun g=>?_⟩
           rcases Nat.lt_trichotomy g g1 with hg | hg | hg
           · unfold oQ sigK
             rw[if_pos hlt,hkp]
             simp only
             rw[if_neg (by omega),if_pos hg]
             exact h2 g
           · rw[hg,hsg];exact h2 gen
           · exact hsn g hg
         · refine .inr ⟨⟨l,hsg.trans c1,c2,c3,c4⟩,fun g l0 hl0 hg1 hg2=>?_⟩
           obtain rfl:g=g1:=by omega
           obtain⟨l2,C,te,p1,p2,p3,p4,p5⟩:=q6 gen _ c1 k2 (Nat.le_refl _)
           exact⟨l2,C,te,hsg.trans p1,p2,p3,p4,fun r row hr hrow=>hfl (k3 row (List.mem_of_getElem? hrow)).2 (p5 r row hr hrow)⟩
       | map es cl =>
        have hs:=hsame (hnorow fun _ _ _ _ _ h=>by cases h)
        have:=(hB.ren (ρ:=id) (x:=.map es cl) (b':=b) hs (fun c hc=>by cases hc))
        exact this
       | none=>exact fun g=>(hsame (hnorow fun _ _ _ _ _ h=>by cases h) g).trans (hB g)
     · rw[List.getElem?_append_right (by omega),hklen] at hx
       obtain⟨sl,cut,c,hs1,hs2,ho,rfl⟩:=zY hlen hclen _ _ hx
       have hcm:=hio' c (List.mem_of_getElem? ho)
       obtain⟨y,hy⟩:∃y,st.h[c]? = some y:=⟨_,List.getElem?_eq_getElem hcm.2⟩
       have hB:=R.blk c y hy
       have hcut:cuts.getD (b - m) none=cut:=by rw[List.getD_eq_getElem?_getD,hs2];rfl
       have hs0:oQ σ1 m st.h ids cuts s.kg b 0=(σ1 c y.gen).map (zP cut y):=by
        unfold oQ
        rw[if_neg (by omega),ho]
        simp only[if_true,hy,hcut]
       have hsn:∀g,g≠0→oQ σ1 m st.h ids cuts s.kg b g=none:=by
        intro g hg
        unfold oQ
        rw[if_neg (by omega),ho]
        simp [hg]
       simp only[aHL,hy]
       cases y with
       | row cells =>
        obtain⟨l,C,e,q1,q2,q3,q4,q5⟩:=hB
        have q1':σ1 c (Blk.row cells).gen=some l:=q1
        rw[q1',Option.map_some] at hs0
        refine⟨zP cut (.row cells) l,C,e,hs0,by rw[kZ];exact q2,by rw[fF,aBP];exact q3,row _ (gAll3 (List.mem_of_getElem? ho) hy) q4,by rw[kZ];exact q5⟩
       | arr sz rows gen wgen ro =>
        obtain⟨k1,k2,k3,k4,k5⟩:=hB
        have hs0':oQ σ1 m st.h ids cuts s.kg b 0=(σ1 c gen).map (zP cut (.arr sz rows gen wgen ro)):=hs0
        -- the rows that are left
        obtain⟨rows',hrows'⟩:∃rows',rows'=(match cut with | some n=>if ro then rows else rows.take n | none=>rows):=⟨_,rfl⟩
        suffices hgoal:BR (oQ σ1 m st.h ids cuts s.kg) π1 w1 b (.arr sz rows' 0 0 (ro || s.ro)) by
         rw[hrows'] at hgoal
         exact hgoal
        have hsub:∀(r:Nat) row,rows'[r]? = some row→rows[r]? = some row:=by
         intro r row hr
         rw[hrows'] at hr
         cases cut with
         | none=>exact hr
         | some n =>
          simp only at hr
          split at hr
          · exact hr
          · rw[List.getElem?_take] at hr
            split at hr
            · exact hr
            · cases hr
        have hflat:fH sz rows':=fun row hr=>by
         obtain⟨r,hr⟩:=List.getElem?_of_mem hr
         exact k3 row (List.mem_of_getElem? (hsub r row hr))
        refine⟨k1,Nat.le_refl _,hflat,fun g hg=>hsn g (by omega),?_⟩
        rcases k5 with⟨h1,h2⟩ | ⟨⟨l,c1,c2,c3,c4⟩,q6⟩
        · refine .inl ⟨?_,fun g=>?_⟩
          · rw[hrows',h1]
            cases cut with
            | none=>rfl
            | some n=>simp
          · by_cases hg:g=0
            · subst hg;rw[hs0',h2 gen];rfl
            · exact hsn g hg
        · rw[c1,Option.map_some] at hs0'
          have hlen':(zP cut (.arr sz rows gen wgen ro) l).m=rows'.length∧(rows'=rows∨ro=false):=by
           rw[hrows']
           cases cut with
           | none=>exact⟨c2,.inl rfl⟩
           | some n =>
            cases ro with
            | true=>exact⟨c2,.inl rfl⟩
            | false =>
             refine⟨?_,.inr rfl⟩
             simp only[zP,Blk.isRo,Bool.false_eq_true,if_false,List.length_take]
             omega
          obtain⟨hlm,hro⟩:=hlen'
          refine .inr ⟨⟨zP cut (.arr sz rows gen wgen ro) l,hs0',hlm,fun hr o=>?_,fun o ho'=>?_⟩,fun g l0 hl0 hg1 hg2=>?_⟩
          · rw[kZ]
            exact c3 (by cases ro<;>simp_all) o
          · rw[kZ]
            rcases hro with hro | hro
            · exact c4 o (by rw[← hro];exact ho')
            · exact c3 hro o
          · obtain rfl:g=0:=by omega
            obtain⟨l2,C,te,p1,p2,p3,p4,p5⟩:=q6 gen _ c1 k2 (Nat.le_refl _)
            rw[c1] at p1
            cases p1
            have hle:=aLT cut (.arr sz rows gen wgen ro) l
            refine⟨zP cut (.arr sz rows gen wgen ro) l,C,te,hs0',by rw[hlm];exact Nat.le_refl _,by rw[kZ];exact p3,⟨Nat.le_trans (Nat.mul_le_mul_right _ hle) p4.1,p4.2⟩,fun r row hr hrow=>?_⟩
            exact hfl (hflat row (List.mem_of_getElem? hrow)).2 (p5 r row (by omega) (hsub r row hrow))
       | map es cl =>
        obtain⟨l,C,q1,q2,q3,q4,q5⟩:=hB
        have q1':σ1 c (Blk.map es cl).gen=some l:=q1
        rw[q1',Option.map_some] at hs0
        refine⟨zP cut (.map es cl) l,C,hs0,by rw[kZ];exact q2,q3,by rw[kZ];exact q4,fun i kk v born en hi he=>?_⟩
        obtain⟨p1,p2,p3,p4,p5⟩:=q5 i kk v born en hi he
        exact⟨p1.flat_any p5 _,p2.flat_any p4 _,p3,p4,p5⟩
       | none =>
        intro g
        rcases Nat.eq_zero_or_pos g with rfl | hg
        · rw[hs0,hB _];rfl
        · exact hsn g (by omega)
   · simp only[aHT] at hb
     have hge:¬b<m:=by
      intro hlt
      rw[List.getElem?_append_left (by omega),List.getElem?_eq_none_iff] at hb
      omega
     rw[List.getElem?_append_right (by omega),List.getElem?_eq_none_iff,hklen,zI hlen hclen] at hb
     unfold oQ
     rw[if_neg hge,List.getElem?_eq_none (by omega)]
   · obtain⟨c,g1,l1,hc,hlb,hcb⟩:=orig b g l hl
     obtain⟨c',g2,l2,hc',hlb',hcb'⟩:=orig b' g' l' hl'
     have:=R.inj _ _ _ _ _ _ hc hc' (by rw[hlb,hlb',he])
     subst this
     rcases hcb with⟨h1,rfl⟩ | ⟨h1,h2⟩<;>rcases hcb' with⟨h3,h4⟩ | ⟨h3,h4⟩
     · exact h4
     · have:=(hio' _ (List.mem_of_getElem? h4)).1;omega
     · have:=(hio' _ (List.mem_of_getElem? h2)).1;omega
     · have:=aB2 hnd _ _ _ h2 h4
       omega
   · obtain⟨c,g',l',hc,hlb,_⟩:=orig b g l hl
     rw[← hlb]
     exact R.lt c g' l' hc
end Go.Ws

namespace Go.Ws
set_option linter.unusedVariables false
set_option linter.unusedSimpArgs false

variable {P:Program} {σ:Sig} {π:bX} {w:World}

def Froz (π:bX) (σ:Sig) (h:List Blk) (m:Nat):bX:=fun B o=>π B o∨∃b s rows gen wgen ro g l,m≤b∧h[b]? = some (.arr s rows gen wgen ro)∧wgen≤g∧g≤gen∧σ b g=some l∧l.blk=B∧o<l.m*s

mutual
theorem frzV_vr {h:List Blk} {m:Nat} (R:Rel σ π w (h[·]?)):∀(v v':AV) (u:Value),VR σ π w v u→frzV h m v=some v'→VR σ (Froz π σ h m) w v' u
 | .ref sz b g i n flg,v',u,hv,e=>by
  simp only[frzV] at e
  split at e
  · cases e;exact hv.prot fun _ _ h=>.inl h
  · rename_i hb
    split at e
    · rename_i s rows gen wgen ro hx
      split at e
      · rename_i hc
        cases e
        have e2:(nE (.ref sz b g i n flg)).run (h[·]?)=some ((.sl sz ((rows.drop i).take n),[(b,.arr s rows gen wgen true)]),[b]):=by
         simp only[nE,AM.run,hx]
         rw[if_pos hc]
         rfl
        obtain⟨_,hv'⟩:=rZ R hv e2
        refine hv'.prot fun B o hp=>?_
        rcases hp with hp | ⟨b',s',rows',gen',wgen',g',l',hm,h1,h2,h3⟩
        · exact .inl hp
        · simp only[List.mem_singleton,Prod.mk.injEq,Blk.arr.injEq,and_true] at hm
          obtain⟨rfl,rfl,rfl,rfl,rfl⟩:=hm
          exact .inr ⟨_,_,_,_,_,_,g',l',by omega,hx,h1,h2,h3⟩
      · cases e
    · cases e
 | .agg l,v',u,hv,e=>by
  simp only[frzV] at e
  split at e
  · rename_i l' hl'
    cases e
    cases hv with
    | agg _ d hl hv =>
     obtain⟨h1,h2⟩:=frzL_vr R l l' d ⟨hl,hv⟩ hl'
     exact .agg l' d h1 h2
  · cases e
 | .tup l,v',u,hv,e=>by
  simp only[frzV] at e
  split at e
  · rename_i l' hl'
    cases e
    cases hv with
    | tup _ d hl hv =>
     obtain⟨h1,h2⟩:=frzL_vr R l l' d ⟨hl,hv⟩ hl'
     exact .tup l' d h1 h2
  · cases e
 | .bool _,v',u,hv,e=>by simp only[frzV,Option.some.injEq] at e;subst e;exact hv.prot fun _ _ h=>.inl h
 | .int _ _,v',u,hv,e=>by simp only[frzV,Option.some.injEq] at e;subst e;exact hv.prot fun _ _ h=>.inl h
 | .str _,v',u,hv,e=>by simp only[frzV,Option.some.injEq] at e;subst e;exact hv.prot fun _ _ h=>.inl h
 | .nilp,v',u,hv,e=>by simp only[frzV,Option.some.injEq] at e;subst e;exact hv.prot fun _ _ h=>.inl h
 | .hp _ _,v',u,hv,e=>by simp only[frzV,Option.some.injEq] at e;subst e;exact hv.prot fun _ _ h=>.inl h
 | .ep _ _ _ _ _,v',u,hv,e=>by simp only[frzV,Option.some.injEq] at e;subst e;exact hv.prot fun _ _ h=>.inl h
 | .ip _ _ _ _,v',u,hv,e=>by simp only[frzV,Option.some.injEq] at e;subst e;exact hv.prot fun _ _ h=>.inl h
 | .nils,v',u,hv,e=>by simp only[frzV,Option.some.injEq] at e;subst e;exact hv.prot fun _ _ h=>.inl h
 | .emps,v',u,hv,e=>by simp only[frzV,Option.some.injEq] at e;subst e;exact hv.prot fun _ _ h=>.inl h
 | .any,v',u,hv,e=>by simp only[frzV,Option.some.injEq] at e;subst e;exact hv.prot fun _ _ h=>.inl h
 | .sl _ _,v',u,hv,e=>by simp only[frzV,Option.some.injEq] at e;subst e;exact hv.prot fun _ _ h=>.inl h
 | .inl _ _,v',u,hv,e=>by simp only[frzV,Option.some.injEq] at e;subst e;exact hv.prot fun _ _ h=>.inl h
 | .mapn,v',u,hv,e=>by simp only[frzV,Option.some.injEq] at e;subst e;exact hv.prot fun _ _ h=>.inl h
 | .mp _,v',u,hv,e=>by simp only[frzV,Option.some.injEq] at e;subst e;exact hv.prot fun _ _ h=>.inl h
 | .ps _,v',u,hv,e=>by simp only[frzV,Option.some.injEq] at e;subst e;exact hv.prot fun _ _ h=>.inl h
 | .raw _,v',u,hv,e=>by simp only[frzV,Option.some.injEq] at e;subst e;exact hv.prot fun _ _ h=>.inl h
 | .fm _ _ _ _,v',u,hv,e=>by simp only[frzV,Option.some.injEq] at e;subst e;exact hv.prot fun _ _ h=>.inl h
 | .pp _ _,v',u,hv,e=>by simp only[frzV,Option.some.injEq] at e;subst e;exact hv.prot fun _ _ h=>.inl h
 | .fn _ _,v',u,hv,e=>by simp only[frzV,Option.some.injEq] at e;subst e;exact hv.prot fun _ _ h=>.inl h
 | .nilf,v',u,hv,e=>by simp only[frzV,Option.some.injEq] at e;subst e;exact hv.prot fun _ _ h=>.inl h
theorem frzL_vr {h:List Blk} {m:Nat} (R:Rel σ π w (h[·]?)):∀(l l':List AV) (d:Array Value),VRs σ π w l d→frzL h m l=some l'→VRs σ (Froz π σ h m) w l' d
 | [],l',d,hv,e=>by
  simp only[frzL,Option.some.injEq] at e;subst e
  exact⟨hv.1,fun i v u h=>by simp at h⟩
 | v::l,l',d,hv,e=>by
  simp only[frzL] at e
  split at e
  · rename_i v1 l1 h1 h2
    cases e
    obtain⟨u,r,rfl,hu,hr⟩:=hv.tail
    exact .cons (frzV_vr R v v1 u hu h1) (frzL_vr R l l1 _ hr h2)
  · cases e
end

def frzB (h:List Blk) (m:Nat):Blk→Option Blk
 | .row c=>(frzL h m c).map .row
 | b=>some b

theorem qX (h:List Blk) (m:Nat):∀(l l':List Blk),oI h m l=some l'→l'.length=l.length∧∀(i:Nat) x,l'[i]? = some x→∃y,l[i]? = some y∧frzB h m y=some x
 | [],l',e=>by simp only[oI,Option.some.injEq] at e;subst e;exact⟨rfl,fun i x h=>by simp at h⟩
 | .row c::l,l',e=>by
  simp only[oI] at e
  split at e
  · rename_i c1 l1 h1 h2
    cases e
    obtain⟨k1,k2⟩:=qX h m l l1 h2
    refine⟨by simp [k1],fun i x hi=>?_⟩
    cases i with
    | zero=>simp at hi;subst hi;exact⟨_,rfl,by simp [frzB,h1]⟩
    | succ i=>exact k2 i x (by simpa using hi)
  · cases e
 | .arr s rows gen wgen ro::l,l',e=>by
  simp only[oI] at e
  split at e
  · rename_i l1 h2
    cases e
    obtain⟨k1,k2⟩:=qX h m l l1 h2
    refine⟨by simp [k1],fun i x hi=>?_⟩
    cases i with
    | zero=>simp at hi;subst hi;exact⟨_,rfl,rfl⟩
    | succ i=>exact k2 i x (by simpa using hi)
  · cases e
 | .map es c::l,l',e=>by
  simp only[oI] at e
  split at e
  · rename_i l1 h2
    cases e
    obtain⟨k1,k2⟩:=qX h m l l1 h2
    refine⟨by simp [k1],fun i x hi=>?_⟩
    cases i with
    | zero=>simp at hi;subst hi;exact⟨_,rfl,rfl⟩
    | succ i=>exact k2 i x (by simpa using hi)
  · cases e
 | .none::l,l',e=>by
  simp only[oI] at e
  split at e
  · rename_i l1 h2
    cases e
    obtain⟨k1,k2⟩:=qX h m l l1 h2
    refine⟨by simp [k1],fun i x hi=>?_⟩
    cases i with
    | zero=>simp at hi;subst hi;exact⟨_,rfl,rfl⟩
    | succ i=>exact k2 i x (by simpa using hi)
  · cases e

theorem tA {h:List Blk} {m:Nat}:∀{k:Nat} {todo acc new:List Nat},tS h m k todo acc=some new→acc.Nodup→(∀b∈acc,m≤b∧∃x,h[b]? = some x∧∀c∈x.refs,c<m∨c∈acc∨c∈todo) →
 new.Nodup∧(∀b∈new,m≤b∧∃x,h[b]? = some x∧∀c∈x.refs,c<m∨c∈new)∧(∀c∈todo,c<m∨c∈new)∧(∀c∈acc,c∈new)
 | 0,[],acc,new,e,h1,h2=>by
  simp only[tS,Option.some.injEq] at e;subst e
  exact⟨h1,fun b hb=>⟨(h2 b hb).1,let ⟨x,hx,hr⟩:=(h2 b hb).2;⟨x,hx,fun c hc=>by simpa using hr c hc⟩⟩,fun c hc=>(by cases hc),fun c hc=>hc⟩
 | k+1,[],acc,new,e,h1,h2=>by
  simp only[tS,Option.some.injEq] at e;subst e
  exact⟨h1,fun b hb=>⟨(h2 b hb).1,let ⟨x,hx,hr⟩:=(h2 b hb).2;⟨x,hx,fun c hc=>by simpa using hr c hc⟩⟩,fun c hc=>(by cases hc),fun c hc=>hc⟩
 | 0,_::_,_,_,e,_,_=>by cases e
 | k+1,b::todo,acc,new,e,h1,h2=>by
  simp only[tS] at e
  split at e
  · rename_i hin
    have hin':b<m∨b∈acc:=by simpa using hin
    obtain⟨a1,a2,a3,a4⟩:=tA e h1 (fun c hc=>⟨(h2 c hc).1,let ⟨x,hx,hr⟩:=(h2 c hc).2;⟨x,hx,fun d hd=>by
     rcases hr d hd with hh | hh | hh
     · exact .inl hh
     · exact .inr (.inl hh)
     · rcases List.mem_cons.1 hh with rfl | hh
       · exact hin'.elim .inl (fun h=>.inr (.inl h))
       · exact .inr (.inr hh)⟩⟩)
    refine⟨a1,a2,fun c hc=>?_,a4⟩
    rcases List.mem_cons.1 hc with rfl | hc
    · exact hin'.elim .inl (fun h=>.inr (a4 _ h))
    · exact a3 c hc
  · rename_i hin
    have hin':¬b<m∧b∉acc:=by simpa using hin
    split at e
    · rename_i x hx
      obtain⟨a1,a2,a3,a4⟩:=tA e (by
       rw[List.nodup_append]
       exact⟨h1,by simp,fun a ha c hc=>by simp at hc;subst hc;exact fun e=>hin'.2 (e▸ha)⟩)
       (fun c hc=>by
        rcases List.mem_append.1 hc with hc | hc
        · refine⟨(h2 c hc).1,let ⟨y,hy,hr⟩:=(h2 c hc).2;⟨y,hy,fun d hd=>?_⟩⟩
          rcases hr d hd with hh | hh | hh
          · exact .inl hh
          · exact .inr (.inl (List.mem_append.2 (.inl hh)))
          · rcases List.mem_cons.1 hh with rfl | hh
            · exact .inr (.inl (by simp))
            · exact .inr (.inr (List.mem_append.2 (.inl hh)))
        · simp at hc;subst hc
          exact⟨by omega,x,hx,fun d hd=>.inr (.inr (List.mem_append.2 (.inr hd)))⟩)
      refine⟨a1,a2,fun c hc=>?_,fun c hc=>a4 c (List.mem_append.2 (.inl hc))⟩
      rcases List.mem_cons.1 hc with rfl | hc
      · exact .inr (a4 _ (by simp))
      · exact a3 c (List.mem_append.2 (.inl hc))
    · cases e

def aCA (σ:Sig) (m:Nat) (new:List Nat):Sig:=fun b g=>if b<m then σ b g else match new[b - m]? with | some c=>σ c g | none=>none

theorem aE5 {new:List Nat} (hn:new.Nodup) {i b:Nat} (h:new[i]? = some b):new.idxOf b=i:=by
 have hlt:=(List.getElem?_eq_some_iff.1 h).1
 rw[← (List.getElem?_eq_some_iff.1 h).2]
 exact List.Nodup.idxOf_getElem hn i hlt

theorem aMJ {new:List Nat} {m:Nat} (hm:∀b∈new,m≤b) {c:Nat} (hc:c<m∨c∈new) (g:Nat):aCA σ m new (aAK m new c) g=σ c g:=by
 unfold aCA aAK
 by_cases h:c<m
 · rw[if_pos h,if_pos h]
 · rw[if_neg h,if_neg (by omega),Nat.add_sub_cancel_left]
   have hc':=hc.resolve_left h
   rw[List.getElem?_eq_getElem (List.idxOf_lt_length_iff.2 hc')]
   simp

set_option maxHeartbeats 1000000 in
theorem final_ok {σ0:Sig} {π0:bX} {w0:World} {h0 h h':List Blk} {v v':AV} {u:Value} {frz:Bool} (R0:Rel σ0 π0 w0 (h0[·]?)) (D:Done σ0 π0 w0 σ π w (h[·]?)) (hv:VR σ π w v u)
 (e:aFY h0.length frz v h=some (v',h')):h0.length≤h'.length∧Ret σ0 π0 w0 v' h' (.returned u) w:=by
 unfold aFY at e
 split at e
 · cases e
 rename_i hlen
 have R:=D.rel
 -- frozen or not
 have hfr:∀v1 kept,(if frz then frzV h h0.length v else some v)=some v1→(if frz then oI h h0.length (h.take h0.length) else some (h.take h0.length))=some kept →
  ∃π1:bX,(∀B o,π B o→π1 B o)∧(∀B o,π1 B o→π B o∨(frz=true∧∃b s rows gen wgen ro g l,h0.length≤b∧h[b]? = some (.arr s rows gen wgen ro)∧σ b g=some l∧l.blk=B)) ∧
   VR σ π1 w v1 u∧kept.length=h0.length∧∀i x,kept[i]? = some x→i<h0.length∧BR σ π1 w i x:=by
  intro v1 kept h1 h2
  have hkl:(h.take h0.length).length=h0.length:=by simp;omega
  have old:∀i x,(h.take h0.length)[i]? = some x→i<h0.length∧h[i]? = some x:=by
   intro i x hi
   rw[List.getElem?_take] at hi
   split at hi
   · exact⟨by assumption,hi⟩
   · cases hi
  cases frz with
  | false =>
   simp only[Bool.false_eq_true,if_false,Option.some.injEq] at h1 h2
   subst h1 h2
   exact⟨π,fun _ _ h=>h,fun _ _ h=>.inl h,hv,hkl,fun i x hi=>⟨(old i x hi).1,R.blk i x (old i x hi).2⟩⟩
  | true =>
   simp only[if_true] at h1 h2
   obtain⟨k1,k2⟩:=qX _ _ _ _ h2
   refine⟨Froz π σ h h0.length,fun _ _ h=>.inl h,fun B o hp=>?_,frzV_vr R _ _ _ hv h1,by omega,fun i x hi=>?_⟩
   · rcases hp with hp | ⟨b,s,rows,gen,wgen,ro,g,l,a1,a2,a3,a4,a5,a6,a7⟩
     · exact .inl hp
     · exact .inr ⟨rfl,b,s,rows,gen,wgen,ro,g,l,a1,a2,a5,a6⟩
   · obtain⟨y,hy,hf⟩:=k2 i x hi
     obtain⟨hlt,hyi⟩:=old i y hy
     refine⟨hlt,?_⟩
     have hB:=R.blk i y hyi
     have hE:Ext σ π w σ (Froz π σ h h0.length) w:=⟨fun _ _ _ h=>h,fun _ _ h=>.inl h,fun _ _ _=>rfl,fun _ _ _ C _ fr _ h=>⟨C,fr,h,rfl⟩,fun _ _ _ _ _ h=>h⟩
     have hno:∀g l o,σ i g=some l→Froz π σ h h0.length l.blk o→π l.blk o:=by
      intro g l o hl hp
      rcases hp with hp | ⟨b,s,rows,gen,wgen,ro,g',l',a1,a2,a3,a4,a5,a6,a7⟩
      · exact hp
      · have:=R.inj _ _ _ _ _ _ a5 hl a6
        omega
     have hB':=hB.mono hE (fun _=>rfl) (fun _ _ _=>rfl) hno
     cases y with
     | row c =>
      simp only[frzB,Option.map_eq_some_iff] at hf
      obtain⟨c',hc',rfl⟩:=hf
      obtain⟨l,C,ty,q1,q2,q3,q4,q5⟩:=hB
      have hvs:VRs σ π w c C:=⟨q3,fun j v u hj hu=>by
       obtain⟨u',hu',hvu⟩:=q4 j v hj
       rw[Nat.zero_add] at hu'
       rw[hu'] at hu;cases hu
       exact hvu⟩
      have hvs':=frzL_vr R c c' C hvs hc'
      obtain⟨_,_,_,p1,p2,_,_,p5⟩:=hB'
      refine⟨l,C,ty,q1,q2,hvs'.1,fun j v hj=>?_,fun o ho=>?_⟩
      · obtain⟨u,hu,hvu⟩:=hvs'.at_ hj
        exact⟨u,by rw[Nat.zero_add];exact hu,hvu⟩
      · exact q5 o (hno 0 l o q1 ho)
     | arr s rows gen wgen ro=>simp only[frzB,Option.some.injEq] at hf;subst hf;exact hB'
     | map es c=>simp only[frzB,Option.some.injEq] at hf;subst hf;exact hB'
     | none=>simp only[frzB,Option.some.injEq] at hf;subst hf;exact hB'
 split at e
 · rename_i v1 kept hv1 hkept
   obtain⟨π1,hπ,hπ',hv1',hkl,hkB⟩:=hfr v1 kept hv1 hkept
   split at e
   · rename_i new hnew
     split at e
     · cases e
     · rename_i hcheck
       simp only[Option.some.injEq,Prod.mk.injEq] at e
       obtain⟨rfl,rfl⟩:=e
       obtain⟨n1,n2,n3,_⟩:=tA hnew (by simp) (fun b hb=>by cases hb)
       have hmn:∀b∈new,h0.length≤b:=fun b hb=>(n2 b hb).1
       have hnoArr:frz=true→∀b∈new,isArr h[b]? = false:=by
        intro hf b hb
        cases ha:isArr h[b]? with
        | false=>rfl
        | true =>
         refine absurd ?_ hcheck
         rw[hf,Bool.true_and]
         exact List.any_eq_true.2 ⟨b,hb,ha⟩
       have hback:∀c,c<h0.length∨c∈new→∀g l,σ c g=some l→aCA σ h0.length new (aAK h0.length new c) g=some l:=by
        intro c hc g l hl
        rw[aMJ hmn hc,hl]
       refine⟨by simp;omega,u,aCA σ h0.length new,π1,rfl,?_,?_,?_,?_⟩
       · exact hv1'.ren fun b hb=>hback b (n3 b (List.mem_append.2 (.inl hb)))
       · -- ext
         refine⟨fun b g l hl=>?_,fun B o hp=>hπ _ _ (D.ext.prot B o hp),D.ext.cell,D.ext.size,D.ext.mapc⟩
         have hb:b<h0.length:=by
          refine Classical.byContradiction fun hge=>?_
          have:=R0.non b (List.getElem?_eq_none (by omega)) g
          rw[hl] at this;cases this
         unfold aCA
         rw[if_pos hb]
         exact D.ext.sig b g l hl
       · -- frm
         refine⟨D.frm.size,D.frm.os,D.frm.tape,D.frm.output,D.frm.same,fun b g l hl=>?_,fun B o hp=>?_⟩
         · unfold aCA at hl
           split at hl
           · exact D.frm.own b g l hl
           · split at hl
             · exact D.frm.own _ g l hl
             · cases hl
         · rcases hπ' B o hp with hp | ⟨_,b,s,rows,gen,wgen,ro,g,l,a1,a2,a3,a4⟩
           · exact D.frm.pro B o hp
           · rcases D.frm.own b g l a3 with h1 | ⟨b0,g0,l0,h1,h2⟩
             · exact .inr (.inl (by omega))
             · exact .inr (.inr ⟨b0,g0,l0,h1,h2.trans a4⟩)
       · -- rel
         refine⟨fun b x hx=>?_,fun b hb g=>?_,fun b g b' g' l l' hl hl' he=>?_,fun b g l hl=>?_,fun B o hp=>?_⟩
         · rcases Nat.lt_or_ge b h0.length with hlt | hge
           · rw[List.getElem?_append_left (by simp;omega)] at hx
             simp only[List.getElem?_map,Option.map_eq_some_iff] at hx
             obtain⟨y,hy,rfl⟩:=hx
             refine(hkB b y hy).2.ren (fun g=>by unfold aCA;rw[if_pos hlt]) fun c hc=>hback c (n3 c (List.mem_append.2 (.inr (List.mem_flatMap.2 ⟨y,List.mem_of_getElem? hy,hc⟩))))
           · rw[List.getElem?_append_right (by simp;omega)] at hx
             simp only[List.length_map,hkl,List.getElem?_map,Option.map_eq_some_iff] at hx
             obtain⟨c,hc,rfl⟩:=hx
             obtain⟨hmc,y,hy,hyr⟩:=n2 c (List.mem_of_getElem? hc)
             rw[hy]
             simp only[Option.getD_some]
             have hB:=R.blk c y hy
             have hE:Ext σ π w σ π1 w:=⟨fun _ _ _ h=>h,hπ,fun _ _ _=>rfl,fun _ _ _ C _ fr _ h=>⟨C,fr,h,rfl⟩,fun _ _ _ _ _ h=>h⟩
             have hB':BR σ π1 w c y:=hB.mono hE (fun _=>rfl) (fun _ _ _=>rfl) (fun g l o hl hp=>by
              rcases hπ' _ _ hp with hp | ⟨hf,b2,s,rows,gen,wgen,ro,g2,l2,a1,a2,a3,a4⟩
              · exact hp
              · have:=R.inj _ _ _ _ _ _ a3 hl a4
                subst this
                have:=hnoArr hf b2 (List.mem_of_getElem? hc)
                rw[a2] at this
                cases this)
             refine hB'.ren (fun g=>?_) fun d hd=>hback d (hyr d hd)
             unfold aCA
             rw[if_neg (by omega),hc]
         · have hge:¬b<h0.length:=by
            intro hlt
            rw[List.getElem?_append_left (by simp;omega),List.getElem?_eq_none_iff] at hb
            simp at hb
            omega
           rw[List.getElem?_append_right (by simp;omega)] at hb
           simp only[List.length_map,hkl,List.getElem?_map,Option.map_eq_none_iff] at hb
           unfold aCA
           rw[if_neg hge,hb]
         · have orig:∀b g l,aCA σ h0.length new b g=some l→∃c,σ c g=some l∧((b<h0.length∧c=b)∨(h0.length≤b∧new[b - h0.length]? = some c)):=by
            intro b g l hl
            unfold aCA at hl
            split at hl
            · exact⟨b,hl,.inl ⟨by assumption,rfl⟩⟩
            · rename_i hge
              split at hl
              · rename_i c hc;exact⟨c,hl,.inr ⟨by omega,hc⟩⟩
              · cases hl
           obtain⟨c,hc,hcb⟩:=orig b g l hl
           obtain⟨c',hc',hcb'⟩:=orig b' g' l' hl'
           have:=R.inj _ _ _ _ _ _ hc hc' he
           subst this
           rcases hcb with⟨h1,rfl⟩ | ⟨h1,h2⟩<;>rcases hcb' with⟨h3,h4⟩ | ⟨h3,h4⟩
           · exact h4
           · have:=hmn _ (List.mem_of_getElem? h4);omega
           · have:=hmn _ (List.mem_of_getElem? h2);omega
           · have e1:=aE5 n1 h2
             have e2:=aE5 n1 h4
             omega
         · unfold aCA at hl
           split at hl
           · exact R.lt b g l hl
           · split at hl
             · exact R.lt _ g l hl
             · cases hl
         · rcases hπ' B o hp with hp | ⟨_,b,s,rows,gen,wgen,ro,g,l,a1,a2,a3,a4⟩
           · exact R.prot B o hp
           · have:=R.lt _ _ _ a3
             omega
   · cases e
 · cases e

end Go.Ws

namespace Go.Ws
set_option linter.unusedVariables false

def bI (k:IntKind) (a b:Int):Int:=k.wrap (a+b)
def pR (k:IntKind) (a b:Int):Int:=k.wrap (a - b)
def imul (k:IntKind) (a b:Int):Int:=k.wrap (a*b)
def bB (k:IntKind) (a b:Int):Int:=k.wrap (a.tdiv b)
def aP (k:IntKind) (a b:Int):Int:=a.tmod b
def iand (k:IntKind) (a b:Int):Int:=k.wrap (BitVec.ofInt k.bits a &&& BitVec.ofInt k.bits b).toNat
def ior (k:IntKind) (a b:Int):Int:=k.wrap (BitVec.ofInt k.bits a ||| BitVec.ofInt k.bits b).toNat
def ixor (k:IntKind) (a b:Int):Int:=k.wrap (BitVec.ofInt k.bits a ^^^ BitVec.ofInt k.bits b).toNat
def iandn (k:IntKind) (a b:Int):Int:=k.wrap (BitVec.ofInt k.bits a &&& ~~~(BitVec.ofInt k.bits b)).toNat
def eQ (k:IntKind) (a b:Int):Int:=k.wrap (a*2 ^ (min b.toNat k.bits))
def aE (k:IntKind) (a b:Int):Int:=a.fdiv (2 ^ (min b.toNat k.bits))
def ineg (k:IntKind) (a:Int):Int:=k.wrap (0 - a)
def icom (k:IntKind) (a:Int):Int:=k.wrap (BitVec.ofInt k.bits (if k.signed then -1 else k.max) ^^^ BitVec.ofInt k.bits a).toNat
def conv (k:IntKind) (a:Int):Int:=k.wrap a
def ltI (a b:Int):Bool:=decide (a<b)
def eqI (a b:Int):Bool:=a == b
def eqS (a b:ByteArray):Bool:=a == b
def eqB (a b:Bool):Bool:=a == b
def cK (a b:Int):Int:=if b>a then b else a
def cF (a b:Int):Int:=if b<a then b else a
def nI (n:Nat):Int:=n
def tN (q:Int):Nat:=q.toNat
def inI (q:Int) (n:Nat):Bool:=decide (0≤q∧q<n)
def leI (q:Int) (n:Nat):Bool:=decide (0≤q∧q≤n)
def ssz (s:ByteArray):Int:=s.size
def isZ (n:Nat):Bool:=decide (n=0)
def eqN (m n:Nat):Bool:=decide (m=n)
def aCV (n m:Nat):Bool:=decide (n≤m)
def bV (n:Nat):Bool:=decide (n≤140737488355328)
def lenI (q:Int) (b:Nat):Bool:=decide (0≤q∧q*b≤140737488355328)

theorem ba_eq (a b:ByteArray):(a == b)=decide (a=b):=by
 cases a with | mk a=>cases b with | mk b =>
 show (a == b)=_
 rw[Bool.eq_iff_iff]
 simp

def aN (n:Int):List AV:=[.int .u8 n]
end Go.Ws

namespace Go.Ws
set_option linter.unusedVariables false

inductive GX where
 | st (x:AX) (s:St)
 | fin (v:AV) (h:List Blk)

inductive Ans where
 | d (b:Bool)
 | n (k:Nat)
 | rows (R:List (List AV))
 | row (r:List AV)
 | s (b:ByteArray)
 | opt (o:Option AV)
 | ents (es:List (AV × AV × Nat)) (c:Nat)
 | call (cc:CC) (v:AV) (h:List Blk)
 | norm (t:Nat) (s:NSpec)
 | out (o:GX)
 | outS (i:Nat) (o:GX)

abbrev G (α:Type):=List Ans→List Prop→Option (α × List Ans × List Prop)

namespace G
def pure {α:Type} (a:α):G α:=fun s acc=>some (a,s,acc)
def bind {α β:Type} (m:G α) (f:α→G β):G β:=fun s acc=>match m s acc with
 | some (a,s',acc')=>f a s' acc'
 | none=>none
def fail {α:Type}:G α:=fun _ _=>none
def ask (p:Prop):G Unit:=fun s acc=>some ((),s,p::acc)
def dec (b:Bool):G Bool:=fun s acc=>match s with
 | .d x::s'=>some (x,s',(b=x)::acc)
 | _=>none
def nat (n:Nat):G Nat:=fun s acc=>match s with
 | .n k::s'=>some (k,s',(n=k)::acc)
 | _=>none
def rows (R:List (List AV)):G (List (List AV)):=fun s acc=>match s with
 | .rows R'::s'=>some (R',s',(R=R')::acc)
 | _=>none
def row (o:Option (List AV)):G (List AV):=fun s acc=>match s with
 | .row r::s'=>some (r,s',(o=some r)::acc)
 | _=>none
def rowsO (o:Option (List (List AV))):G (List (List AV)):=fun s acc=>match s with
 | .rows r::s'=>some (r,s',(o=some r)::acc)
 | _=>none
def str (o:Option ByteArray):G ByteArray:=fun s acc=>match s with
 | .s r::s'=>some (r,s',(o=some r)::acc)
 | _=>none
def opt (o:Option (Option AV)):G (Option AV):=fun s acc=>match s with
 | .opt r::s'=>some (r,s',(o=some r)::acc)
 | _=>none
def ents (o:Option (List (AV × AV × Nat) × Nat)):G (List (AV × AV × Nat) × Nat):=fun s acc=>match s with
 | .ents es c::s'=>some ((es,c),s',(o=some (es,c))::acc)
 | _=>none
def lift {α:Type} (o:Option α):G α:=match o with
 | some a=>pure a
 | none=>fail
def need (b:Bool):G Unit:=if b then pure () else fail
end G

structure CL where
 cc:CC
 f:Nat
 args:List AV
 h:List Blk
 v:AV
 h':List Blk

structure GD where
 δ:Delta
 l:List Nat
 c:Option CL

def GD.val (v:AV):GD:=⟨⟨v,[],[]⟩,[],none⟩
def GD.of (r:Delta × List Nat):GD:=⟨r.1,r.2,none⟩

def aID (h:List Blk) (sz:Nat):AV→G (List (List AV) × List Nat)
 | .nils=>.pure ([],[])
 | .emps=>.pure ([],[])
 | .inl s rows=>(G.need (s == sz)).bind fun _=>.pure (rows,[])
 | .sl s rows=>(G.need (s == sz)).bind fun _=>.pure (rows,[])
 | .ref s b g i n _=>(G.need (s == sz)).bind fun _=>match h[b]? with
  | some (.arr s' rows gen wgen _)=>(G.need (s' == sz && (decide (wgen≤g) && decide (g≤gen)))).bind fun _=>(G.ask (i+n≤rows.length)).bind fun _=>(G.rows ((rows.drop i).take n)).bind fun R=>.pure (R,[b])
  | _=>.fail
 | .str s=>(G.need (sz == 1)).bind fun _=>(G.rows (s.data.toList.map fun b=>[.int .u8 b.toNat])).bind fun R=>.pure (R,[])
 | _=>.fail

section
variable (T:Nat→Option TI)

def gLoad (h:List Blk) (t:Nat) (p:AV):G GD :=
 match T t with
 | none=>.fail
 | some i =>
  match p with
  | .ep sz b g r j=>match h[b]? with
   | some (.arr s rows gen wgen _)=>(G.need (s == sz && (decide (wgen≤g) && (decide (g≤gen) && decide (j+i.sz≤sz))))).bind fun _ =>
    (G.row (fR sz rows r j i.sz)).bind fun c=>(G.lift (xC i.isAgg c)).bind fun v=>.pure ⟨⟨v,[],[]⟩,[b],none⟩
   | _=>.fail
  | .ip sz rows r j=>(G.row (fR sz rows r j i.sz)).bind fun c=>(G.lift (xC i.isAgg c)).bind fun v=>.pure (.val v)
  | p=>(G.lift ((aDY T t p).run (h[·]?))).bind fun r=>.pure (.of r)

def oZ (rows:List (List AV)) (r j:Nat) (c:List AV):Option (List (List AV)) :=
 match rows[r]? with
 | some row=>some (rows.set r (tE row j c))
 | none=>none

def aKQ (h:List Blk) (t:Nat) (p v:AV):G GD :=
 match T t with
 | none=>.fail
 | some i =>
  match p with
  | .ep sz b g r j=>match h[b]? with
   | some (.arr s rows gen _ ro)=>(G.need (decide (v.cells.length=i.sz∧v.cells.all AV.one=true) && (s == sz && (g == gen && (ro == false && (decide (j+i.sz≤sz) && oH v.cells)))))).bind fun _ =>
    (G.rowsO (oZ rows r j v.cells)).bind fun R=>.pure ⟨⟨dD,[(b,.arr s R gen gen false)],[]⟩,[b],none⟩
   | _=>.fail
  | p=>(G.lift ((aAT T t p v).run (h[·]?))).bind fun r=>.pure (.of r)

def zadd (i k:Nat):Nat:=match i with
 | 0=>k
 | i+1=>i+1+k

def xN (h:List Blk) (t:Nat) (x ix:AV):G GD :=
 match T t,ix with
 | some { k:=.slice e,.. },.int kq q =>
  match T e with
  | some ei=>match x with
   | .ps c=>(G.lift ((g6 T t (.ps c) (.int kq q)).run (h[·]?))).bind fun r=>.pure (.of r)
   | .inl sz rows=>(G.need (sz == ei.sz)).bind fun _=>(G.nat rows.length).bind fun n=>(G.ask (inI q n=true)).bind fun _=>.pure (.val (.ip sz rows (tN q) 0))
   | .sl sz rows=>(G.need (sz == ei.sz)).bind fun _=>(G.nat rows.length).bind fun n=>(G.ask (inI q n=true)).bind fun _=>.pure (.val (.ip sz rows (tN q) 0))
   | .ref sz b g i n _=>(G.need (sz == ei.sz)).bind fun _=>(G.ask (inI q n=true)).bind fun _=>.pure (.val (.ep sz b g (zadd i (tN q)) 0))
   | _=>.fail
  | none=>.fail
 | _,_=>(G.lift ((g6 T t x ix).run (h[·]?))).bind fun r=>.pure (.of r)

def qQ (x:Option AV) (d top:Nat):G Nat :=
 match x with
 | none=>.pure d
 | some (.int _ q)=>(G.ask (leI q top=true)).bind fun _=>.pure (tN q)
 | some _=>.fail

def gCut (sz:Nat) (rows:List (List AV)) (lo hi mx:Option AV):G GD :=
 (G.nat rows.length).bind fun n=>(qQ mx n n).bind fun m=>(qQ hi n m).bind fun k=>(qQ lo 0 k).bind fun l =>
 (G.need (!(mx.isSome && hi.isNone))).bind fun _ =>
 (if mx.isSome then G.dec (eqN m l) else G.pure false).bind fun z =>
 if z then .pure (.val .emps) else (G.rows ((rows.drop l).take (k - l))).bind fun R=>.pure (.val (.sl sz R))

def aKP (h:List Blk) (t:Nat) (x:AV) (lo hi mx:Option AV):G GD :=
 match T t with
 | some { k:=.slice e,.. } =>
  match T e with
  | none=>.fail
  | some ei =>
   match x with
   | .inl sz rows=>(G.need (sz == ei.sz)).bind fun _=>gCut sz rows lo hi mx
   | .sl sz rows=>(G.need (sz == ei.sz)).bind fun _=>gCut sz rows lo hi mx
   | .ref sz b g i n flg=>(G.need (sz == ei.sz)).bind fun _ =>
    (if flg = .virt then G.dec (isZ n) else G.pure false).bind fun z =>
    if z then gCut sz [] lo hi mx else
    match mx with
    | none=>match h[b]? with
     | some (.arr _ rows gen _ _)=>(G.need (g == gen && flg.whole)).bind fun _=>(G.nat rows.length).bind fun N=>(G.ask (i+n≤N)).bind fun _=>(G.nat (N - i)).bind fun top =>
      (qQ hi n top).bind fun k=>(qQ lo 0 k).bind fun l=>(G.nat (i+l)).bind fun a=>(G.nat (k - l)).bind fun c=>.pure ⟨⟨.ref sz b g a c (if lo.isNone then flg else .full),[],[]⟩,[b],none⟩
     | _=>.fail
    | some _=>(qQ mx n n).bind fun m=>(qQ hi n m).bind fun k=>(qQ lo 0 k).bind fun l=>(G.need (!hi.isNone)).bind fun _ =>
     (G.dec (eqN m l)).bind fun z=>if z then .pure (.val .emps) else (G.nat (i+l)).bind fun a=>(G.nat (k - l)).bind fun c=>.pure (.val (.ref sz b g a c .part))
   | x=>(G.lift ((nS T t x lo hi mx).run (h[·]?))).bind fun r=>.pure (.of r)
 | _=>(G.lift ((nS T t x lo hi mx).run (h[·]?))).bind fun r=>.pure (.of r)

def gYs (h:List Blk) (ei xi:TI) (x:AV):G (List (List AV) × List Nat) :=
 match xi.k,x with
 | .int _,.int _ q=>match ei.z with
  | some z=>(G.need (decide (z.cells.length=ei.sz) && oH z.cells)).bind fun _=>(G.ask (lenI q ei.bts=true)).bind fun _=>(G.rows (List.replicate (tN q) z.cells)).bind fun R=>.pure (R,[])
  | none=>.fail
 | .int _,_=>.fail
 | _,.int _ _=>.fail
 | _,x=>aID h ei.sz x

def aH5 (n:Nat) (h:List Blk) (st xt:Nat) (s x:AV):G GD :=
 match T st with
 | some { k:=.slice e,.. } =>
  match T e,T xt with
  | some ei,some xi =>
   (G.need (decide (0<ei.sz) && (decide (0<ei.bts) && decide ((ei.z.map (·.cells.length))=some ei.sz)))).bind fun _ =>
   (gYs h ei xi x).bind fun (ys,L) =>
   match s with
   | .nils=>(G.nat ys.length).bind fun N=>(G.ask (bV (N*ei.bts)=true)).bind fun _=>.pure ⟨⟨.ref ei.sz n 0 0 N .virt,[],[.arr ei.sz ys 0 0 false]⟩,L,none⟩
   | .emps=>(G.nat ys.length).bind fun N=>(G.ask (bV (N*ei.bts)=true)).bind fun _=>.pure ⟨⟨.ref ei.sz n 0 0 N .virt,[],[.arr ei.sz ys 0 0 false]⟩,L,none⟩
   | .inl sz rows=>(G.ask (ys.length=0)).bind fun _=>.pure ⟨⟨.inl sz rows,[],[]⟩,L,none⟩
   | .sl sz rows=>(G.ask (ys.length=0)).bind fun _=>.pure ⟨⟨.sl sz rows,[],[]⟩,L,none⟩
   | .ref sz b g i k flg=>match h[b]? with
    | some (.arr s' rows gen wgen ro)=>(G.need (sz == ei.sz && (i == 0 && (flg.whole && (s' == sz && g == gen))))).bind fun _ =>
     (G.nat (k+ys.length)).bind fun N=>(G.ask (bV (N*ei.bts)=true)).bind fun _=>(G.nat rows.length).bind fun M=>(G.dec (eqN k M)).bind fun z =>
     if z then (G.rows (rows++ys)).bind fun R=>.pure ⟨⟨.ref sz b (gen+1) 0 N flg,[(b,.arr sz R (gen+1) wgen ro)],[]⟩,L++[b],none⟩
     else (G.need (!ro && flg != .virt)).bind fun _=>(G.ask (k≤M)).bind fun _=>(G.dec (aCV N M)).bind fun z2 =>
      if z2 then (G.rows (rows.take k++ys++rows.drop N)).bind fun R=>.pure ⟨⟨.ref sz b (gen+1) 0 N .full,[(b,.arr sz R (gen+1) (gen+1) false)],[]⟩,L++[b],none⟩
      else (G.rows (rows.take k++ys)).bind fun R=>.pure ⟨⟨.ref sz b (gen+1) 0 N .full,[(b,.arr sz R (gen+1) (gen+1) false)],[]⟩,L++[b],none⟩
    | _=>.fail
   | _=>.fail
  | _,_=>.fail
 | _=>.fail

def gCopy (h:List Blk) (dt:Nat) (d s:AV):G GD :=
 match T dt with
 | some { k:=.slice e,.. } =>
  match T e with
  | some ei=>(aID h ei.sz s).bind fun (ys,L) =>
   match d with
   | .ref sz b g i n _=>(G.nat (min ys.length n)).bind fun M=>(G.dec (isZ M)).bind fun z =>
    if z then .pure ⟨⟨.int .i64 0,[],[]⟩,L,none⟩ else match h[b]? with
    | some (.arr s' rows gen _ ro)=>(G.need (sz == ei.sz && (s' == sz && (g == gen && ro == false)))).bind fun _=>(G.ask (i+M≤rows.length)).bind fun _ =>
     (G.rows (rows.take i++ys.take M++rows.drop (i+M))).bind fun R=>.pure ⟨⟨.int .i64 (nI M),[(b,.arr sz R gen gen false)],[]⟩,L++[b],none⟩
    | _=>.fail
   | _=>.fail
  | none=>.fail
 | _=>.fail

def aKY (h:List Blk) (t:Nat) (x:AV):G GD :=
 match T t with
 | some { k:=.slice e,.. } =>
  match T e with
  | some ei=>match ei.z with
   | some z =>
    match x with
    | .inl _ rows=>(G.ask (rows.length=0)).bind fun _=>.pure (.val dD)
    | .sl _ rows=>(G.ask (rows.length=0)).bind fun _=>.pure (.val dD)
    | .ref sz b g i n _=>(G.dec (isZ n)).bind fun zz=>if zz then .pure (.val dD) else match h[b]? with
     | some (.arr s' rows gen _ ro)=>(G.need (sz == ei.sz && (s' == sz && (g == gen && (ro == false && (decide (z.cells.length=sz) && oH z.cells)))))).bind fun _=>(G.ask (i+n≤rows.length)).bind fun _ =>
      (G.rows (rows.take i++List.replicate n z.cells++rows.drop (i+n))).bind fun R=>.pure ⟨⟨dD,[(b,.arr sz R gen gen false)],[]⟩,[b],none⟩
     | _=>.fail
    | x=>(G.lift ((rX T t x).run (h[·]?))).bind fun r=>.pure (.of r)
   | none=>.fail
  | none=>.fail
 | _=>.fail

def gLen (h:List Blk) (t:Nat) (x:AV):G GD :=
 match T t with
 | some { k:=.str,.. }=>match x with
  | .str s=>.pure (.val (.int .i64 (ssz s)))
  | _=>.fail
 | some { k:=.slice _,.. }=>match x with
  | .inl _ rows=>(G.nat rows.length).bind fun n=>.pure (.val (.int .i64 (nI n)))
  | .sl _ rows=>(G.nat rows.length).bind fun n=>.pure (.val (.int .i64 (nI n)))
  | .ref _ _ _ _ n _=>.pure (.val (.int .i64 (nI n)))
  | x=>(G.lift ((aCC T t x).run (h[·]?))).bind fun r=>.pure (.of r)
 | some { k:=.map _ _,.. }=>match x with
  | .mp b=>match h[b]? with
   | some (.map es _)=>(G.nat es.length).bind fun n=>.pure ⟨⟨.int .i64 (nI n),[],[]⟩,[b],none⟩
   | _=>.fail
  | x=>(G.lift ((aCC T t x).run (h[·]?))).bind fun r=>.pure (.of r)
 | _=>(G.lift ((aCC T t x).run (h[·]?))).bind fun r=>.pure (.of r)

def aJ3 (op:BinOp) (k:IntKind) (a b:Int):G AV :=
 match op with
 | .add=>.pure (.int k (bI k a b))
 | .sub=>.pure (.int k (pR k a b))
 | .mul=>.pure (.int k (imul k a b))
 | .quo=>(G.dec (eqI b 0)).bind fun z=>if z then .fail else .pure (.int k (bB k a b))
 | .rem=>(G.dec (eqI b 0)).bind fun z=>if z then .fail else .pure (.int k (aP k a b))
 | .and=>.pure (.int k (iand k a b))
 | .or=>.pure (.int k (ior k a b))
 | .xor=>.pure (.int k (ixor k a b))
 | .andNot=>.pure (.int k (iandn k a b))
 | .eql=>.pure (.bool (eqI a b))
 | .neq=>.pure (.bool (!eqI a b))
 | .lss=>.pure (.bool (ltI a b))
 | .leq=>.pure (.bool (!ltI b a))
 | .gtr=>.pure (.bool (ltI b a))
 | .geq=>.pure (.bool (!ltI a b))
 | _=>.fail

def gScEq (t:Nat):AV→AV→Option Bool
 | .int k a,.int k' b=>match T t with | some { k:=.int _,.. }=>if k=k' then some (eqI a b) else none | _=>none
 | .str a,.str b=>match T t with | some { k:=.str,.. }=>some (eqS a b) | _=>none
 | .bool a,.bool b=>match T t with | some { k:=.bool,.. }=>some (eqB a b) | _=>none
 | _,_=>none

def uN:List (Nat × Nat)→List AV→List AV→Option Bool
 | [],_,_=>some true
 | [(off,ft)],a,b=>match a[off]?,b[off]? with
  | some x,some y=>gScEq T ft x y
  | _,_=>none
 | (off,ft)::fs,a,b=>match a[off]?,b[off]? with
  | some x,some y=>match gScEq T ft x y,uN fs a b with
   | some p,some q=>some (p && q)
   | _,_=>none
  | _,_=>none

def gEq (t:Nat) (x y:AV):Option Bool :=
 match T t with
 | none=>none
 | some i =>
  match x,y with
  | .bool a,.bool b=>if i.k = .bool then some (eqB a b) else none
  | .agg a,.agg b =>
   if i.cmp then
    match i.k with
    | .struct fs=>uN T fs a b
    | .array n e=>match T e with
     | some ei=>uN T ((List.range' 0 n).map fun i=>(i*ei.sz,e)) a b
     | none=>none
    | _=>none
   else none
  | x,y=>nilEq i.k x y

def gBin (op:BinOp) (t:Nat) (x y:AV):G AV :=
 match x,y with
 | .int k a,.int k' b =>
  match op with
  | .shl=>(G.need (decide (0≤b))).bind fun _=>.pure (.int k (eQ k a b))
  | .shr=>(G.need (decide (0≤b))).bind fun _=>.pure (.int k (aE k a b))
  | op=>(G.need (decide (k=k'))).bind fun _=>aJ3 op k a b
 | .str a,.str b =>
  match op with
  | .eql=>.pure (.bool (eqS a b))
  | .neq=>.pure (.bool (!eqS a b))
  | _=>.fail
 | x,y =>
  match op with
  | .eql=>(G.lift (gEq T t x y)).bind fun b=>.pure (.bool b)
  | .neq=>(G.lift (gEq T t x y)).bind fun b=>.pure (.bool !b)
  | _=>.fail

def gUn (op:UnOp) (x:AV):G AV :=
 match op,x with
 | .neg,.int k n=>.pure (.int k (ineg k n))
 | .not,.bool b=>.pure (.bool !b)
 | .xor,.int k n=>.pure (.int k (icom k n))
 | _,_=>.fail

def aLV (rows:List (List AV)):Option ByteArray:=(u8s rows).map fun bs=>⟨bs.toArray⟩

def aD9 (h:List Blk) (src dst:Nat) (x:AV):G GD :=
 match T src,T dst with
 | some si,some di =>
  match di.k with
  | .int k=>match x with
   | .int _ q=>.pure (.val (.int k (conv k q)))
   | _=>.fail
  | .str=>match x with
   | .str s=>.pure (.val (.str s))
   | x=>match si.k with
    | .slice e=>match T e with
     | some { k:=.int .u8,.. }=>(aID h 1 x).bind fun (R,L)=>(G.str (aLV R)).bind fun s=>.pure ⟨⟨.str s,[],[]⟩,L,none⟩
     | _=>.fail
    | _=>.fail
  | .slice e=>match x with
   | .str s=>match T e with
    | some { k:=.int .u8,.. }=>(G.rows (s.data.toList.map fun b=>[.int .u8 b.toNat])).bind fun R=>.pure (.val (.sl 1 R))
    | _=>.fail
   | x=>(G.lift ((jY T src dst x).run (h[·]?))).bind fun r=>.pure (.of r)
  | _=>.fail
 | _,_=>.fail

def aBW (k:AV) (es:List (AV × AV × Nat)):Option (Option AV):=(o6 k es 0).map fun o=>o.map fun r=>r.2.1

def mPutA (k v:AV) (es:List (AV × AV × Nat)) (c:Nat):Option (List (AV × AV × Nat) × Nat) :=
 match o6 k es 0 with
 | some (some (i,_,born))=>some (es.set i (k,v,born),c)
 | some none=>some (es++[(k,v,c)],c+1)
 | none=>none

def mDelA (k:AV) (es:List (AV × AV × Nat)) (c:Nat):Option (List (AV × AV × Nat) × Nat) :=
 match o6 k es 0 with
 | some (some (i,_,_))=>some (es.eraseIdx i,c)
 | some none=>some (es,c)
 | none=>none

def aHF (h:List Blk) (t:Nat) (x k:AV) (ok:Bool):G GD :=
 match x with
 | .mp b=>match T t with
  | some { k:=.map kt et,.. }=>(G.need (iD T kt k)).bind fun _ =>
   match T et with
   | some ei=>match ei.z.map (rB (iP T 4 et 0)) with
    | some z=>match h[b]? with
     | some (.map es _)=>(G.opt (aBW k es)).bind fun o =>
      .pure ⟨⟨(match o with
       | some v=>if ok then .tup [v,.bool true] else v
       | none=>if ok then .tup [z,.bool false] else z),[],[]⟩,[b],none⟩
     | _=>.fail
    | none=>.fail
   | none=>.fail
  | _=>.fail
 | x=>(G.lift ((uG T t x k ok).run (h[·]?))).bind fun r=>.pure (.of r)

def r9 (h:List Blk) (t:Nat) (x k v:AV):G GD :=
 match T t with
 | some { k:=.map kt _,.. }=>(G.need (iD T kt k && v.refs.isEmpty)).bind fun _ =>
  match x with
  | .mp b=>match h[b]? with
   | some (.map es c)=>(G.ents (mPutA k v es c)).bind fun (es',c')=>.pure ⟨⟨dD,[(b,.map es' c')],[]⟩,[b],none⟩
   | _=>.fail
  | _=>.fail
 | _=>.fail

def mIdxA (k:AV) (es:List (AV × AV × Nat)) (c:Nat):Nat :=
 match o6 k es 0 with
 | some (some (_,_,born))=>born
 | _=>c
def mEntA (k z:AV) (es:List (AV × AV × Nat)) (c:Nat):Option (List (AV × AV × Nat) × Nat) :=
 match o6 k es 0 with
 | some (some (i,v,born))=>some (es.set i (k,v,born),c)
 | some none=>some (es++[(k,z,c)],c+1)
 | none=>none

def aBO (h:List Blk) (t:Nat) (x k:AV):G GD :=
 match x with
 | .mp b=>match T t with
  | some { k:=.map kt et,.. }=>(G.need (iD T kt k)).bind fun _ =>
   match T et with
   | some ei=>match ei.z.map (rB (iP T 4 et 0)) with
    | some z=>(G.need z.refs.isEmpty).bind fun _=>match h[b]? with
     | some (.map es c)=>(G.opt (aBW k es)).bind fun o=>(G.nat (mIdxA k es c)).bind fun j=>(G.ents (mEntA k z es c)).bind fun (es',c') =>
      .pure ⟨⟨.tup [(match o with | some v=>v | none=>z),.int .i64 (j:Int)],[(b,.map es' c')],[]⟩,[b],none⟩
     | _=>.fail
    | none=>.fail
   | none=>.fail
  | _=>.fail
 | x=>(G.lift ((oT T t x k).run (h[·]?))).bind fun r=>.pure (.of r)

def s4 (h:List Blk) (x s v:AV):G GD :=
 match x,s with
 | .mp b,.int _ born=>(G.need v.refs.isEmpty).bind fun _=>match h[b]? with
  | some (.map es c)=>(G.ents ((uB born v es).map fun es'=>(es',c))).bind fun (es',c')=>.pure ⟨⟨dD,[(b,.map es' c')],[]⟩,[b],none⟩
  | _=>.fail
 | _,_=>.fail

def aG4 (h:List Blk) (t:Nat) (x k:AV):G GD :=
 match x with
 | .mp b=>match T t with
  | some { k:=.map kt _,.. }=>(G.need (iD T kt k)).bind fun _=>match h[b]? with
   | some (.map es c)=>(G.ents (mDelA k es c)).bind fun (es',c')=>.pure ⟨⟨dD,[(b,.map es' c')],[]⟩,[b],none⟩
   | _=>.fail
  | _=>.fail
 | x=>(G.lift ((uD T t x k).run (h[·]?))).bind fun r=>.pure (.of r)

def xR (n:Nat) (h:List Blk) (t:Nat) (len cap:AV):G GD :=
 match T t,len,cap with
 | some { k:=.slice e,.. },.int _ l,.int _ c =>
  match T e with
  | some ei=>match ei.z with
   | some z=>(G.need (decide (0<ei.bts) && (decide (z.cells.length=ei.sz) && (decide (0<ei.sz) && oH z.cells)))).bind fun _=>(G.ask (l=c)).bind fun _=>(G.ask (lenI l ei.bts=true)).bind fun _ =>
    (G.dec (eqI l 0)).bind fun zz=>if zz then .pure (.val .emps) else (G.rows (List.replicate (tN l) z.cells)).bind fun R=>.pure ⟨⟨.ref ei.sz n 0 0 (tN l) .full,[],[.arr ei.sz R 0 0 false]⟩,[],none⟩
   | none=>.fail
  | none=>.fail
 | _,_,_=>.fail

def aCU (n:Nat) (h:List Blk) (b:Builtin) (ts:List Nat) (args:List AV):G GD :=
 match b,ts,args with
 | .append,[st,xt],[s,x]=>aH5 T n h st xt s x
 | .copy,dt::_,[d,s]=>gCopy T h dt d s
 | .clear,[t],[x]=>aKY T h t x
 | .len,[t],[x]=>gLen T h t x
 | .max,_,[.int k x,.int k' y]=>(G.need (decide (k=k'))).bind fun _=>.pure (.val (.int k (cK x y)))
 | .min,_,[.int k x,.int k' y]=>(G.need (decide (k=k'))).bind fun _=>.pure (.val (.int k (cF x y)))
 | .delete,t::_,[x,k]=>aG4 T h t x k
 | b,ts,args=>(G.lift ((pV T n b ts args).run (h[·]?))).bind fun r=>.pure (.of r)
end

def gBorV (h:List Blk):AV→G (AV × List (Nat × Blk) × List Nat)
 | .ref sz b g i n _=>match h[b]? with
  | some (.arr s rows gen wgen ro)=>(G.need (s == sz && (decide (wgen≤g) && decide (g≤gen)))).bind fun _=>(G.ask (i+n≤rows.length)).bind fun _ =>
   (G.rows ((rows.drop i).take n)).bind fun R=>.pure (.sl sz R,[(b,.arr s rows gen wgen true)],[b])
  | _=>.fail
 | v=>.pure (v,[],[])

def gBorC (h:List Blk):List AV→G (List AV × List (Nat × Blk) × List Nat)
 | []=>.pure ([],[],[])
 | v::l=>(gBorV h v).bind fun (v',b,L)=>(gBorC h l).bind fun (l',bs,L')=>.pure (v'::l',b++bs,L++L')

def aFP (h:List Blk):List AV→G (List AV × List (Nat × Blk) × List Nat)
 | []=>.pure ([],[],[])
 | .agg c::l=>(gBorC h c).bind fun (c',b,L)=>(aFP h l).bind fun (l',bs,L')=>.pure (.agg c'::l',b++bs,L++L')
 | v::l=>(gBorV h v).bind fun (v',b,L)=>(aFP h l).bind fun (l',bs,L')=>.pure (v'::l',b++bs,L++L')

def aC5:G (CC × AV × List Blk):=fun s acc=>match s with
 | .call cc v h::s'=>some ((cc,v,h),s',acc)
 | _=>none

section
variable (Tr:Nat→List AV→List Blk→AV→List Blk→Prop)

def aE6 (n:Nat) (h:List Blk) (f:Nat) (args:List AV):G GD :=
 aC5.bind fun (cc,v,h') =>
 (if cc.brw then aFP h (qO cc.cast args) else G.pure (qO cc.cast args,[],[])).bind fun (args,bw,L) =>
 (G.lift ((yY 64 (AV.refsL args) []).run (h[·]?))).bind fun (bs,L') =>
 (G.need (bs.isEmpty || bw.isEmpty)).bind fun _ =>
 let ids:=bs.map (·.1)
 let a:=AV.renL ids.idxOf args
 let hh:=bs.map fun x=>x.2.ren ids.idxOf
 (G.ask (Tr f a hh v h')).bind fun _ =>
 .pure ⟨⟨v.ren (dP ids n),
  (if bw.isEmpty || (!v.hasInl && h'.isEmpty) then [] else bw)++ids.zip ((h'.take ids.length).map (Blk.ren (dP ids n))),
  (h'.drop ids.length).map (Blk.ren (dP ids n))⟩,L++L',some ⟨cc,f,a,hh,v,h'⟩⟩

variable (T:Nat→Option TI)

def aH0:iO:=fun _ _ _=>none
def noCC:CC:=⟨false,[]⟩

def gop (n:Nat) (t:List AV) (h:List Blk) (o:Op):G GD :=
 let one (x:Operand) (k:AV→G GD):G GD:=match evA t x with | some v=>k v | none=>.fail
 match o with
 | .pick c a b=>one c fun c=>match c with | .bool c=>(G.dec c).bind fun z=>if z then one a fun v=>.pure (.val v) else one b fun v=>.pure (.val v) | _=>.fail
 | .load ty a=>one a (gLoad T h ty)
 | .store ty a x=>one a fun a=>one x (aKQ T h ty a)
 | .binOp op ty x y _=>one x fun x=>one y fun y=>(gBin T op ty x y).bind fun v=>.pure (.val v)
 | .unOp op _ x=>one x fun x=>(gUn op x).bind fun v=>.pure (.val v)
 | .convert s d x=>one x (aD9 T h s d)
 | .sliceToArrayPointer ty x=>one x fun x=>match T ty with
  | some { k:=.array len e,.. }=>match T e,x with
   | some ei,.sl sz rows=>(G.need (sz == ei.sz && (sz == 1 && decide (0<len)))).bind fun _=>(G.nat rows.length).bind fun N=>(G.ask (aCV len N=true)).bind fun _=>.pure (.val (.ip sz rows 0 0))
   | _,_=>.fail
  | _=>.fail
 | .makeSlice ty l c=>one l fun l=>one c (xR T n h ty l)
 | .slice ty x lo hi mx=>one x fun x=>match evO t lo,evO t hi,evO t mx with
  | some lo,some hi,some mx=>aKP T h ty x lo hi mx
  | _,_,_=>.fail
 | .indexAddr ty x i=>one x fun x=>one i (xN T h ty x)
 | .lookup ty x i ok=>one x fun x=>one i fun i=>aHF T h ty x i ok
 | .mapUpdate ty m k x=>one m fun m=>one k fun k=>one x (r9 T h ty m k)
 | .insert ty m k x=>one m fun m=>one k fun k=>one x (r9 T h ty m k)
 | .mapEntry ty m k=>one m fun m=>one k (aBO T h ty m)
 | .entryStore _ m s x=>one m fun m=>one s fun s=>one x (s4 h m s)
 | .call c=>match c.callee with
  | .builtin b=>match evL t c.args.toList with | some args=>aCU T n h b c.argTypes.toList args | none=>.fail
  | .value f=>one f fun f=>match f,evL t c.args.toList with
   | .fn f cs,some args=>if f<1000000 then aE6 Tr n h f (args++cs) else aE6 Tr n h (f - 1000000) (cs++args)
   | _,_=>.fail
  | _=>.fail
 | o=>(G.lift ((aop T aH0 noCC n t o).run (h[·]?))).bind fun r=>.pure (.of r)

def aH7 (ops:List Oper) (t:List AV) (o:Oper):G Bool :=
 match o.guard with
 | none=>.pure true
 | some (j,want)=>match (ops[j]?).bind (·.dst) with
  | some d=>match t[d]? with
   | some (.bool b)=>(G.dec b).bind fun x=>.pure (x == want)
   | some .any=>.fail
   | _=>.pure false
  | none=>.pure false

def gStep (ops:List Oper) (st:St) (o:Oper):G GD :=
 (aH7 ops st.t o).bind fun w=>if w then gop Tr T st.h.length st.t st.h o.op else .pure (.val dD)

abbrev CLs:=List (Option Nat × CL)

def gOps (ops:List Oper):List Oper→St→G (St × List Rec × CLs)
 | [],st=>.pure (st,[],[])
 | o::rest,st=>(gStep Tr T ops st o).bind fun r=>(G.need (upOk st.h.length r.δ)).bind fun _ =>
  (gOps ops rest (st.after o.dst r.δ)).bind fun (st',rs,cs) =>
   .pure (st',⟨st.h.length,o.dst,r.δ,r.l⟩::rs,(match r.c with | some c=>(o.dst,c)::cs | none=>cs))

def aCX:CLs→Bool
 | []=>true
 | (d,_)::l=>l.all (fun p=>p.1 != d) && aCX l

def aHW (ops:Array Oper) (draw:Bool) (st:St):G St :=
 (gOps Tr T ops.toList ops.toList st).bind fun (st',rs,cs) =>
 (G.need (aCX cs && (!draw || (rV 0 ops.toList && aG7 (xT ops.toList []) (feet ops.toList ops.toList rs))))).bind fun _=>.pure st'
end

def rI (m:Nat) (ids:List Nat) (cuts:List (Option Nat)):List (Nat × Nat × Option Nat)→G Unit
 | []=>.pure ()
 | (_,_,none)::l=>rI m ids cuts l
 | (b,_,some e)::l=>match (if b<m then none else cuts.getD (ids.idxOf b) none) with
  | some n=>(G.ask (e≤n)).bind fun _=>rI m ids cuts l
  | none=>rI m ids cuts l

def aC9 (m:Nat) (ids:List Nat):Nat→List Slot→St→G St
 | _,[],st=>.pure st
 | k,s::l,st=>match s.own with
  | none=>aC9 m ids (k+1) l st
  | some _=>match atV m st ids s.src,st.h[m+k]? with
   | some (.ref s1 b g i n f),some (.arr s2 rows gen wgen ro)=>(G.nat n).bind fun N=>(G.rows rows).bind fun R =>
    aC9 m ids (k+1) l ⟨(rY m st ids (.ref s1 b g i N f) s.src).t,(rY m st ids (.ref s1 b g i N f) s.src).h.set (m+k) (.arr s2 R gen wgen ro)⟩
   | _,_=>.fail

def aJA (h0:List Blk) (s:NSpec) (st0:St):G St :=
 (G.need (decide (h0.length≤st0.h.length))).bind fun _=>(G.lift (r6 h0.length s.slots st0 [] [])).bind fun (ids,cuts,st)=>(G.lift (aBD st.t s.live)).bind fun lv =>
 (G.need (aDF ids && (aIH h0.length st.h.length ids && (aDC h0.length st.h ids s.kg (lB h0.length st ids lv) && (kgOk (h0.map Blk.gen) 0 s.kg (st.h.take h0.length) && kgOk (h0.map Blk.gen) 0 s.kg h0))))).bind fun _ =>
 (rI h0.length ids cuts (lB h0.length st ids lv)).bind fun _ =>
 aC9 h0.length (List.range' h0.length s.slots.length) 0 s.slots (aHT h0.length s ids cuts lv st)

def tW (tag:Nat) (h0:List Blk) (st:St):G St:=fun s acc=>match s with
 | .norm t sp::s'=>if t=tag then aJA h0 sp st s' acc else some (st,.norm t sp::s',acc)
 | s=>some (st,s,acc)

mutual
def gFrzV (h:List Blk) (m:Nat):AV→G AV
 | .ref sz b g i n flg=>if b<m then .pure (.ref sz b g i n flg) else
  match h[b]? with
  | some (.arr s rows gen wgen _)=>(G.need (s == sz && (decide (wgen≤g) && decide (g≤gen)))).bind fun _=>(G.ask (i+n≤rows.length)).bind fun _=>(G.rows ((rows.drop i).take n)).bind fun R=>.pure (.sl sz R)
  | _=>.fail
 | .agg l=>(gFrzL h m l).bind fun l=>.pure (.agg l)
 | .tup l=>(gFrzL h m l).bind fun l=>.pure (.tup l)
 | v=>.pure v
def gFrzL (h:List Blk) (m:Nat):List AV→G (List AV)
 | []=>.pure []
 | v::l=>(gFrzV h m v).bind fun v=>(gFrzL h m l).bind fun l=>.pure (v::l)
end

def sY (h:List Blk) (m:Nat):List Blk→G (List Blk)
 | []=>.pure []
 | .row c::l=>(gFrzL h m c).bind fun c=>(sY h m l).bind fun l=>.pure (.row c::l)
 | b::l=>(sY h m l).bind fun l=>.pure (b::l)

structure Ctx where
 fn:Func
 h0:List Blk
 frz:Bool

def aKF (m:Nat) (frz:Bool) (v:AV) (h:List Blk):G (AV × List Blk) :=
 (G.need (decide (m≤h.length))).bind fun _=>(if frz then gFrzV h m v else G.pure v).bind fun v=>(if frz then sY h m (h.take m) else G.pure (h.take m)).bind fun kept =>
 (G.lift (tS h m 64 (v.refs++kept.flatMap Blk.refs) [])).bind fun new =>
 (G.need (!(frz && new.any (fun b=>isArr h[b]?)))).bind fun _ =>
 .pure (v.ren (aAK m new),kept.map (Blk.ren (aAK m new))++new.map fun b=>((h[b]?).getD (.row [])).ren (aAK m new))

def gFin (T:Nat→Option TI) (x:Ctx) (st:St):G GX :=
 (tW 0 x.h0 st).bind fun st1 =>
 (G.lift (uR T st1 x.fn.results.toList)).bind fun vs =>
 (aKF x.h0.length x.frz (resTup vs) st1.h).bind fun (v,h)=>.pure (.fin v h)

section
variable (Tr:Nat→List AV→List Blk→AV→List Blk→Prop) (Lp:Code→St→GX→Prop) (T:Nat→Option TI) (x:Ctx)

def gTold (k:G GX) (c:Code) (st:St):G GX:=fun s acc=>match s with
 | .out o::s'=>some (o,s',Lp c st o::acc)
 | s=>k s acc

def aK7 (k:G GX) (a:Code) (c:Code) (st:St):G GX:=fun s acc=>match s with
 | .outS i o::s'=>match a with
  | .region j _ _=>if i=j then some (o,s',Lp c st o::acc) else k (.outS i o::s') acc
  | _=>k (.outS i o::s') acc
 | s=>k s acc

def hZ:Code→St→G GX
 | .skip,st=>.pure (.st .normal st)
 | .label _,st=>.pure (.st .normal st)
 | .region id ops draw,st=>(tW (3*id+1) x.h0 st).bind fun st=>(aHW Tr T ops draw st).bind fun st=>.pure (.st .normal st)
 | .seq a b,st=>aK7 Lp ((hZ a st).bind fun r=>match r with
  | .st .normal st=>hZ b st
  | r=>.pure r) a (.seq a b) st
 | .cond c a b,st=>match evA st.t c with
  | some (.bool z)=>(G.dec z).bind fun z=>if z then hZ a st else hZ b st
  | _=>.fail
 | .block id c,st=>(tW (3*id+2) x.h0 st).bind fun st=>gTold Lp ((hZ c st).bind fun r=>match r with
  | .st (.exit i) st=>if i=id then (tW (3*id+3) x.h0 st).bind fun st=>.pure (.st .normal st) else .pure (.st (.exit i) st)
  | r=>.pure r) (.block id c) st
 | .scope c,st=>hZ c st
 | .exit id,st=>.pure (.st (.exit id) st)
 | .ret,st=>gFin T x st
 | _,_=>.fail

def aKR (c:Code) (st:St):G GX:=(hZ Tr Lp T x c st).bind fun r=>match r with
 | .st .normal st=>gFin T x st
 | .st _ _=>.fail
 | r=>.pure r

def gBody (c:Code) (st:St):G GX:=(aKR Tr Lp T x c st).bind fun r=>match r with
 | .fin v h=>(G.need (decide (x.h0.length≤h.length))).bind fun _=>.pure (.fin v h)
 | r=>.pure r

def aBJ (hs:NSpec) (es:Option NSpec) (c:Code) (st:St):G GX:=(hZ Tr Lp T x c st).bind fun r=>match r with
 | .st .normal st=>(aJA x.h0 hs st).bind fun st=>.pure (.st .normal st)
 | .st (.exit i) st=>(match es with | some s=>aJA x.h0 s st | none=>.pure st).bind fun st=>.pure (.st (.exit i) st)
 | r=>.pure r
end
end Go.Ws

namespace Go.Ws
set_option linter.unusedVariables false
set_option linter.unusedSimpArgs false

def G.Ok {α:Type} (m:G α) (S:α→Prop):Prop:=∀s acc a s' acc',m s acc=some (a,s',acc')→(∃l,acc'=l++acc)∧((∀p∈acc',p)→S a)

namespace G.Ok
variable {α β:Type}
theorem pure {a:α} {S:α→Prop} (h:S a):G.Ok (G.pure a) S:=fun s acc b s' acc' e=>by
 simp only[G.pure,Option.some.injEq,Prod.mk.injEq] at e
 obtain⟨rfl,rfl,rfl⟩:=e
 exact⟨⟨[],rfl⟩,fun _=>h⟩
theorem fail {S:α→Prop}:G.Ok (G.fail:G α) S:=fun s acc b s' acc' e=>by cases e
theorem bind {m:G α} {f:α→G β} {S1:α→Prop} {S:β→Prop} (h1:G.Ok m S1) (h2:∀a,G.Ok (f a) (fun b=>S1 a→S b)):G.Ok (m.bind f) S:=fun s acc b s' acc' e=>by
 simp only[G.bind] at e
 split at e
 · rename_i a s1 acc1 h
   obtain⟨⟨l1,rfl⟩,k1⟩:=h1 _ _ _ _ _ h
   obtain⟨⟨l2,rfl⟩,k2⟩:=h2 a _ _ _ _ _ e
   exact⟨⟨l2++l1,by simp⟩,fun hp=>k2 hp (k1 fun p hm=>hp p (by simp at hm ⊢;exact .inr hm))⟩
 · cases e
theorem imp {m:G α} {S S':α→Prop} (h:G.Ok m S) (hi:∀a,S a→S' a):G.Ok m S':=fun s acc b s' acc' e=>⟨(h _ _ _ _ _ e).1,fun hp=>hi _ ((h _ _ _ _ _ e).2 hp)⟩
theorem ask {p:Prop}:G.Ok (G.ask p) (fun _=>p):=fun s acc b s' acc' e=>by
 simp only[G.ask,Option.some.injEq,Prod.mk.injEq] at e
 obtain⟨_,_,rfl⟩:=e
 exact⟨⟨[p],rfl⟩,fun hp=>hp p (by simp)⟩
theorem dec {x:Bool}:G.Ok (G.dec x) (fun z=>x=z):=fun s acc b s' acc' e=>by
 unfold G.dec at e
 split at e
 · simp only[Option.some.injEq,Prod.mk.injEq] at e
   obtain⟨rfl,_,rfl⟩:=e
   exact⟨⟨[_],rfl⟩,fun hp=>hp _ (by simp)⟩
 · cases e
theorem nat {n:Nat}:G.Ok (G.nat n) (fun z=>n=z):=fun s acc b s' acc' e=>by
 unfold G.nat at e
 split at e
 · simp only[Option.some.injEq,Prod.mk.injEq] at e
   obtain⟨rfl,_,rfl⟩:=e
   exact⟨⟨[_],rfl⟩,fun hp=>hp _ (by simp)⟩
 · cases e
theorem rows {n:List (List AV)}:G.Ok (G.rows n) (fun z=>n=z):=fun s acc b s' acc' e=>by
 unfold G.rows at e
 split at e
 · simp only[Option.some.injEq,Prod.mk.injEq] at e
   obtain⟨rfl,_,rfl⟩:=e
   exact⟨⟨[_],rfl⟩,fun hp=>hp _ (by simp)⟩
 · cases e
theorem row {n:Option (List AV)}:G.Ok (G.row n) (fun z=>n=some z):=fun s acc b s' acc' e=>by
 unfold G.row at e
 split at e
 · simp only[Option.some.injEq,Prod.mk.injEq] at e
   obtain⟨rfl,_,rfl⟩:=e
   exact⟨⟨[_],rfl⟩,fun hp=>hp _ (by simp)⟩
 · cases e
theorem rowsO {n:Option (List (List AV))}:G.Ok (G.rowsO n) (fun z=>n=some z):=fun s acc b s' acc' e=>by
 unfold G.rowsO at e
 split at e
 · simp only[Option.some.injEq,Prod.mk.injEq] at e
   obtain⟨rfl,_,rfl⟩:=e
   exact⟨⟨[_],rfl⟩,fun hp=>hp _ (by simp)⟩
 · cases e
theorem str {n:Option ByteArray}:G.Ok (G.str n) (fun z=>n=some z):=fun s acc b s' acc' e=>by
 unfold G.str at e
 split at e
 · simp only[Option.some.injEq,Prod.mk.injEq] at e
   obtain⟨rfl,_,rfl⟩:=e
   exact⟨⟨[_],rfl⟩,fun hp=>hp _ (by simp)⟩
 · cases e
theorem opt {n:Option (Option AV)}:G.Ok (G.opt n) (fun z=>n=some z):=fun s acc b s' acc' e=>by
 unfold G.opt at e
 split at e
 · simp only[Option.some.injEq,Prod.mk.injEq] at e
   obtain⟨rfl,_,rfl⟩:=e
   exact⟨⟨[_],rfl⟩,fun hp=>hp _ (by simp)⟩
 · cases e
theorem ents {n:Option (List (AV × AV × Nat) × Nat)}:G.Ok (G.ents n) (fun z=>n=some z):=fun s acc b s' acc' e=>by
 unfold G.ents at e
 split at e
 · simp only[Option.some.injEq,Prod.mk.injEq] at e
   obtain⟨rfl,_,rfl⟩:=e
   exact⟨⟨[_],rfl⟩,fun hp=>hp _ (by simp)⟩
 · cases e
theorem lift {o:Option α}:G.Ok (G.lift o) (fun z=>o=some z):=by
 cases o with
 | none=>exact fail
 | some a=>exact pure rfl
theorem need {b:Bool}:G.Ok (G.need b) (fun _=>b=true):=by
 cases b with
 | false=>exact fail
 | true=>exact pure rfl
end G.Ok

section
variable {T:Nat→Option TI} {h:List Blk} {n:Nat}

def Is (m:AM Delta) (h:List Blk) (r:GD):Prop:=r.c=none∧m.run (h[·]?)=some (r.δ,r.l)

theorem gQ {m:AM Delta}:G.Ok ((G.lift (m.run (h[·]?))).bind fun r=>.pure (.of r)) (Is m h) :=
 .bind .lift fun r=>.pure fun hr=>⟨rfl,hr⟩

theorem kV {α:Type} {b:Nat} {k:Blk→AM α} {x:Blk} {a:α} {L:List Nat} (hx:h[b]? = some x) (hk:(k x).run (h[·]?)=some (a,L)):(AM.rd b k).run (h[·]?)=some (a,b::L):=by
 simp only[AM.run,hx,hk]

theorem run_bind {α β:Type} {m:AM α} {f:α→AM β} {a:α} {r:β} {L L':List Nat} {hh:Nat→Option Blk} (h1:m.run hh=some (a,L)) (h2:(f a).run hh=some (r,L')):(m.bind f).run hh=some (r,L++L'):=by
 induction m generalizing L with
 | ret x=>simp only[AM.run,Option.some.injEq,Prod.mk.injEq] at h1;obtain⟨rfl,rfl⟩:=h1;exact h2
 | fail=>simp [AM.run] at h1
 | rd b k ih =>
  simp only[AM.run] at h1
  simp only[AM.bind,AM.run]
  split at h1
  · cases h1
  · rename_i x hx
    split at h1
    · cases h1
    · rename_i a' l' hk
      simp only[Option.some.injEq,Prod.mk.injEq] at h1
      obtain⟨rfl,rfl⟩:=h1
      rw[ih x hk]
      rfl

theorem aD8 {sz:Nat} {x:AV}:G.Ok (aID h sz x) (fun r=>(pE sz x).run (h[·]?)=some r):=by
 unfold aID
 split
 · exact .pure rfl
 · exact .pure rfl
 · exact .bind .need fun _=>.pure fun hn=>by simp only[pE];rw[if_pos (by simpa using hn)];rfl
 · exact .bind .need fun _=>.pure fun hn=>by simp only[pE];rw[if_pos (by simpa using hn)];rfl
 · rename_i s b g i m f
   refine .bind .need fun _=>?_
   split
   · rename_i s' rows gen wgen ro hb
     refine .bind .need fun _=>.bind .ask fun _=>.bind .rows fun R=>.pure fun hR hle hn hn1=>?_
     simp only[Bool.and_eq_true,decide_eq_true_eq,beq_iff_eq] at hn hn1
     simp only[pE]
     rw[if_pos hn1]
     refine kV hb ?_
     simp only
     rw[if_pos ⟨hn.1,hn.2.1,hn.2.2,hle⟩,hR]
     rfl
   · exact .fail
 · refine .bind .need fun _=>.bind .rows fun R=>.pure fun hR hn=>?_
   simp only[pE]
   rw[if_pos (by simpa using hn),hR]
   rfl
 · exact .fail

theorem gLoad_ok {t:Nat} {p:AV}:G.Ok (gLoad T h t p) (Is (aDY T t p) h):=by
 unfold gLoad
 cases hT:T t with
 | none=>exact .fail
 | some i =>
  simp only
  split
  · rename_i sz b g r j
    split
    · rename_i s rows gen wgen ro hb
      refine .bind .need fun _=>.bind .row fun c=>.bind .lift fun v=>.pure fun hv hc hn=>⟨rfl,?_⟩
      simp only[Bool.and_eq_true,decide_eq_true_eq,beq_iff_eq] at hn
      simp only[aDY,hT]
      refine kV hb ?_
      simp only
      rw[if_pos ⟨hn.1,hn.2.1,hn.2.2.1,hn.2.2.2⟩,hc]
      simp [hv,AM.of,AM.bind,AM.val,AM.run]
    · exact .fail
  · rename_i sz rows r j
    refine .bind .row fun c=>.bind .lift fun v=>.pure fun hv hc=>⟨rfl,?_⟩
    simp only[aDY,hT]
    rw[hc]
    simp [hv,AM.of,AM.bind,AM.val,AM.run,GD.val]
  · exact gQ

theorem aNI {t:Nat} {p v:AV}:G.Ok (aKQ T h t p v) (Is (aAT T t p v) h):=by
 unfold aKQ
 cases hT:T t with
 | none=>exact .fail
 | some i =>
  simp only
  split
  · rename_i sz b g r j
    split
    · rename_i s rows gen wgen ro hb
      refine .bind .need fun _=>.bind .rowsO fun R=>.pure fun hR hn=>⟨rfl,?_⟩
      simp only[Bool.and_eq_true,decide_eq_true_eq,beq_iff_eq] at hn
      obtain⟨⟨n1,n2⟩,n3,n4,n5,n6,n7⟩:=hn
      simp only[aAT,hT]
      rw[if_pos ⟨n1,n2⟩]
      refine kV hb ?_
      simp only
      rw[if_pos ⟨n3,n4,n5,n6,n7⟩]
      unfold oZ at hR
      cases hr:rows[r]? with
      | none=>rw[hr] at hR;cases hR
      | some row =>
       rw[hr] at hR
       simp only[Option.some.injEq] at hR
       simp only
       rw[hR]
       rfl
    · exact .fail
  · exact gQ

theorem zadd_eq (i k:Nat):zadd i k=i+k:=by
 cases i<;>simp [zadd]

theorem aEK {t:Nat} {x ix:AV}:G.Ok (xN T h t x ix) (Is (g6 T t x ix) h):=by
 unfold xN
 split
 · rename_i e sz bts z cmp k q hT
   cases he:T e with
   | none=>exact .fail
   | some ei =>
    simp only
    split
    · exact gQ
    · rename_i sz' rows
      refine .bind .need fun _=>.bind .nat fun m=>.bind .ask fun _=>.pure fun hq hm hn=>⟨rfl,?_⟩
      simp only[beq_iff_eq] at hn
      simp only[inI,decide_eq_true_eq] at hq
      simp only[g6,hT,he]
      rw[if_pos ⟨hn,hq.1,by rw[hm];exact hq.2⟩]
      rfl
    · rename_i sz' rows
      refine .bind .need fun _=>.bind .nat fun m=>.bind .ask fun _=>.pure fun hq hm hn=>⟨rfl,?_⟩
      simp only[beq_iff_eq] at hn
      simp only[inI,decide_eq_true_eq] at hq
      simp only[g6,hT,he]
      rw[if_pos ⟨hn,hq.1,by rw[hm];exact hq.2⟩]
      rfl
    · rename_i sz' b g i m f
      refine .bind .need fun _=>.bind .ask fun _=>.pure fun hq hn=>⟨rfl,?_⟩
      simp only[beq_iff_eq] at hn
      simp only[inI,decide_eq_true_eq] at hq
      simp only[g6,hT,he]
      rw[if_pos ⟨hn,hq.1,hq.2⟩,zadd_eq]
      rfl
    · exact .fail
 · exact gQ

theorem kE {x:Option AV} {d top:Nat}:G.Ok (qQ x d top) (fun k=>bY x d top=some k):=by
 unfold qQ
 split
 · exact .pure rfl
 · rename_i k q
   refine .bind .ask fun _=>.pure fun hq=>?_
   simp only[leI,decide_eq_true_eq] at hq
   simp only[bY]
   rw[if_pos hq]
   rfl
 · exact .fail

theorem aHU {sz:Nat} {rows:List (List AV)} {lo hi mx:Option AV}:G.Ok (gCut sz rows lo hi mx) (fun r=>r.c=none∧r.l=[]∧r.δ.up=[]∧r.δ.nw=[] ∧
 ((bY mx rows.length rows.length).bind fun m=>(bY hi rows.length m).bind fun h=>(bY lo 0 h).bind fun l =>
  if mx.isSome && hi.isNone then none else some (if mx.isSome && m == l then AV.emps else AV.sl sz ((rows.drop l).take (h - l))))=some r.δ.v):=by
 unfold gCut
 refine .bind .nat fun n=>.bind kE fun m=>.bind kE fun k=>.bind kE fun l=>.bind .need fun _=>.bind (S1:=fun z=>z=(mx.isSome && m == l)) ?_ fun z=>?_
 · split
   · rename_i h
     refine G.Ok.dec.imp fun z hz=>?_
     rw[← hz,h,Bool.true_and,eqN]
     by_cases e:m=l<;>simp [e]
   · rename_i h
     refine .pure ?_
     simp at h
     simp [h]
 · split
   · rename_i hz
     refine .pure fun hz' hn h3 h2 h1 h0=>⟨rfl,rfl,rfl,rfl,?_⟩
     subst hz
     subst h0
     simp only[h1,h2,h3,Option.bind_some]
     rw[if_neg (by intro hh;rw[hh] at hn;cases hn),← hz',if_pos rfl]
     rfl
   · rename_i hz
     refine .bind .rows fun R=>.pure fun hR hz' hn h3 h2 h1 h0=>⟨rfl,rfl,rfl,rfl,?_⟩
     have hzf:z=false:=by simpa using hz
     subst hzf
     subst h0
     simp only[h1,h2,h3,Option.bind_some]
     rw[if_neg (by intro hh;rw[hh] at hn;cases hn),← hz',hR]
     rfl

theorem aM6 {t:Nat} {x:AV} {lo hi mx:Option AV}:G.Ok (aKP T h t x lo hi mx) (Is (nS T t x lo hi mx) h):=by
 unfold aKP
 split
 · rename_i e sz bts z cmp hT
   cases he:T e with
   | none=>exact .fail
   | some ei =>
    simp only
    split
    · rename_i sz' rows
      refine .bind .need fun _=>aHU.imp fun r hr hn=>?_
      obtain⟨h1,h2,h3,h4,h5⟩:=hr
      refine⟨h1,?_⟩
      simp only[beq_iff_eq] at hn
      simp only[nS,hT,he]
      rw[if_pos hn,h5]
      obtain⟨⟨v,up,nw⟩,l,c⟩:=r
      simp only at h1 h2 h3 h4
      subst h1 h2 h3 h4
      rfl
    · rename_i sz' rows
      refine .bind .need fun _=>aHU.imp fun r hr hn=>?_
      obtain⟨h1,h2,h3,h4,h5⟩:=hr
      refine⟨h1,?_⟩
      simp only[beq_iff_eq] at hn
      simp only[nS,hT,he]
      rw[if_pos hn,h5]
      obtain⟨⟨v,up,nw⟩,l,c⟩:=r
      simp only at h1 h2 h3 h4
      subst h1 h2 h3 h4
      rfl
    · rename_i sz' b g i m flg
      refine .bind .need fun _=>.bind (S1:=fun z=>z=(decide (flg = .virt) && isZ m)) ?_ fun z=>?_
      · split
        · rename_i hf
          exact G.Ok.dec.imp fun z hz=>by rw[← hz];simp [hf]
        · rename_i hf
          exact .pure (by simp [hf])
      · split
        · rename_i hz
          refine aHU.imp fun r hr hz' hn=>?_
          obtain⟨h1,h2,h3,h4,h5⟩:=hr
          refine⟨h1,?_⟩
          simp only[beq_iff_eq] at hn
          subst hz
          have hz2:=hz'.symm
          simp only[Bool.and_eq_true,decide_eq_true_eq,isZ] at hz2
          simp only[nS,hT,he]
          rw[if_pos hn,if_pos hz2,h5]
          obtain⟨⟨v,up,nw⟩,l,c⟩:=r
          simp only at h1 h2 h3 h4
          subst h1 h2 h3 h4
          rfl
        · rename_i hz
          have hzf:z=false:=by simpa using hz
          subst hzf
          split
          · split
            · rename_i s' rows gen wgen ro hb
              refine .bind .need fun _=>.bind .nat fun N=>.bind .ask fun _=>.bind .nat fun top=>.bind kE fun k=>.bind kE fun l=>.bind .nat fun a=>.bind .nat fun c=>.pure fun hc ha hl hk htop hle hN hn2 hz' hn=>⟨rfl,?_⟩
              simp only[beq_iff_eq] at hn
              simp only[Bool.and_eq_true,beq_iff_eq] at hn2
              have hz2:¬(flg = .virt∧m=0):=by
               intro hh
               have:=hz'.symm
               simp [hh.1,hh.2,isZ] at this
              simp only[nS,hT,he]
              rw[if_pos hn,if_neg hz2]
              refine kV hb ?_
              simp only
              subst hN
              rw[if_pos ⟨hn2.1,hn2.2,hle⟩,htop,hk,Option.bind_some,hl,Option.bind_some,ha,hc]
              rfl
            · exact .fail
          · rename_i mv
            refine .bind kE fun q=>.bind kE fun k=>.bind kE fun l=>.bind .need fun _=>.bind .dec fun z=>?_
            have key:∀(v:AV),isZ m=false∨flg ≠ .virt→sz'=ei.sz→bY (some mv) m m=some q→bY hi m q=some k→bY lo 0 k=some l→(!hi.isNone)=true→v=(if q=l then AV.emps else AV.ref sz' b g (i+l) (k - l) .part)→(nS T t (.ref sz' b g i m flg) lo hi (some mv)).run (h[·]?)=some (⟨v,[],[]⟩,[]):=by
             intro v h1 h2 h3 h4 h5 h6 h7
             have hz2:¬(flg = .virt∧m=0):=by
              intro hh
              rcases h1 with h1 | h1
              · simp [isZ,hh.2] at h1
              · exact h1 hh.1
             simp only[nS,hT,he]
             rw[if_pos h2,if_neg hz2,h3,Option.bind_some,h4,Option.bind_some,h5,Option.bind_some,if_neg (by intro hh;rw[hh] at h6;cases h6),h7]
             rfl
            have kz:false=(decide (flg = .virt) && isZ m)→isZ m=false∨flg ≠ .virt:=by
             intro hh
             by_cases hf:flg = .virt
             · left;simpa [hf] using hh.symm
             · exact .inr hf
            split
            · rename_i hzz
              subst hzz
              refine .pure fun hz' hh hl hk hq hz0 hn=>⟨rfl,key _ (kz hz0) (by simpa using hn) hq hk hl hh ?_⟩
              simp only[eqN,decide_eq_true_eq] at hz'
              rw[if_pos hz']
            · rename_i hzz
              have hzf:z=false:=by simpa using hzz
              subst hzf
              refine .bind .nat fun a=>.bind .nat fun c=>.pure fun hc ha hz' hh hl hk hq hz0 hn=>⟨rfl,key _ (kz hz0) (by simpa using hn) hq hk hl hh ?_⟩
              simp only[eqN,decide_eq_false_iff_not] at hz'
              rw[if_neg hz',ha,hc]
    · exact gQ
 · exact gQ

theorem gYs_ok {ei xi:TI} {x:AV}:G.Ok (gYs h ei xi x) (fun r=>(aYs ei xi x).run (h[·]?)=some r):=by
 unfold gYs
 split
 · rename_i k kv q hk
   cases hz:ei.z with
   | none=>exact .fail
   | some z =>
    refine .bind .need fun _=>.bind .ask fun _=>.bind .rows fun R=>.pure fun hR hl hn=>?_
    simp only[Bool.and_eq_true,decide_eq_true_eq] at hn
    simp only[lenI,decide_eq_true_eq] at hl
    simp only[aYs,hk,hz]
    rw[if_pos ⟨hl.1,hl.2,hn.1,hn.2⟩]
    simp only[AM.run]
    rw[← hR]
    rfl
 · exact .fail
 · exact .fail
 · rename_i h1 h2
   refine aD8.imp fun r hr=>?_
   rw[← hr]
   unfold aYs
   split<;>first|rfl | (exfalso;simp_all;done)

theorem aKJ {n:Nat} {st xt:Nat} {s x:AV}:G.Ok (aH5 T n h st xt s x) (Is (nG T n st xt s x) h):=by
 unfold aH5
 split
 · rename_i e sz bts z cmp hT
   split
   · rename_i ei xi he hx
     refine .bind .need fun _=>.bind gYs_ok fun r=>?_
     obtain⟨ys,L⟩:=r
     have pre:∀{k:List (List AV)→AM Delta} {δ:Delta} {L':List Nat},(aYs ei xi x).run (h[·]?)=some (ys,L)→(k ys).run (h[·]?)=some (δ,L')→((aYs ei xi x).bind k).run (h[·]?)=some (δ,L++L'):=fun h1 h2=>run_bind h1 h2
     have hd:(decide (0<ei.sz) && (decide (0<ei.bts) && decide ((ei.z.map (·.cells.length))=some ei.sz)))=true→0<ei.sz∧0<ei.bts∧(ei.z.map (·.cells.length))=some ei.sz:=by
      intro hh
      simpa only[Bool.and_eq_true,decide_eq_true_eq] using hh
     simp only
     split
     · refine .bind .nat fun N=>.bind .ask fun _=>.pure fun hr hN hy hn=>⟨rfl,?_⟩
       simp only[nG,hT,he,hx]
       rw[if_pos (hd hn)]
       have:=pre hy (k:=fun ys=>if ys.length*ei.bts≤140737488355328 then .ret ⟨.ref ei.sz n 0 0 ys.length .virt,[],[.arr ei.sz ys 0 0 false]⟩ else .fail) (L':=[]) (δ:=⟨.ref ei.sz n 0 0 N .virt,[],[.arr ei.sz ys 0 0 false]⟩) (by
        simp only[bV,decide_eq_true_eq] at hr
        try simp only
        rw[hN,if_pos hr]
        rfl)
       rw[List.append_nil] at this
       exact this
     · refine .bind .nat fun N=>.bind .ask fun _=>.pure fun hr hN hy hn=>⟨rfl,?_⟩
       simp only[nG,hT,he,hx]
       rw[if_pos (hd hn)]
       have:=pre hy (k:=fun ys=>if ys.length*ei.bts≤140737488355328 then .ret ⟨.ref ei.sz n 0 0 ys.length .virt,[],[.arr ei.sz ys 0 0 false]⟩ else .fail) (L':=[]) (δ:=⟨.ref ei.sz n 0 0 N .virt,[],[.arr ei.sz ys 0 0 false]⟩) (by
        simp only[bV,decide_eq_true_eq] at hr
        try simp only
        rw[hN,if_pos hr]
        rfl)
       rw[List.append_nil] at this
       exact this
     · rename_i sz' rows
       refine .bind .ask fun _=>.pure fun h0 hy hn=>⟨rfl,?_⟩
       simp only[nG,hT,he,hx]
       rw[if_pos (hd hn)]
       have:=pre hy (k:=fun ys=>if ys.length=0 then .val (.inl sz' rows) else .fail) (L':=[]) (δ:=⟨.inl sz' rows,[],[]⟩) (by rw[if_pos h0];rfl)
       rw[List.append_nil] at this
       exact this
     · rename_i sz' rows
       refine .bind .ask fun _=>.pure fun h0 hy hn=>⟨rfl,?_⟩
       simp only[nG,hT,he,hx]
       rw[if_pos (hd hn)]
       have:=pre hy (k:=fun ys=>if ys.length=0 then .val (.sl sz' rows) else .fail) (L':=[]) (δ:=⟨.sl sz' rows,[],[]⟩) (by rw[if_pos h0];rfl)
       rw[List.append_nil] at this
       exact this
     · rename_i sz' b g i k flg
       split
       · rename_i s' rows gen wgen ro hb
         refine .bind .need fun _=>.bind .nat fun N=>.bind .ask fun _=>.bind .nat fun M=>.bind .dec fun z=>?_
         -- one run for all ends
         have key:∀(δ:Delta),(decide (0<ei.sz) && (decide (0<ei.bts) && decide ((ei.z.map (·.cells.length))=some ei.sz)))=true→(aYs ei xi x).run (h[·]?)=some (ys,L) →
          (sz' == ei.sz && (i == 0 && (flg.whole && (s' == sz' && g == gen))))=true→k+ys.length=N→bV (N*ei.bts)=true→rows.length=M→k≤M →
          (if k=rows.length then some (⟨.ref sz' b (gen+1) 0 (k+ys.length) flg,[(b,.arr sz' (rows++ys) (gen+1) wgen ro)],[]⟩:Delta)
           else if ro∨flg = .virt then none
           else if k+ys.length≤rows.length then some ⟨.ref sz' b (gen+1) 0 (k+ys.length) .full,[(b,.arr sz' (rows.take k++ys++rows.drop (k+ys.length)) (gen+1) (gen+1) false)],[]⟩
           else some ⟨.ref sz' b (gen+1) 0 (k+ys.length) .full,[(b,.arr sz' (rows.take k++ys) (gen+1) (gen+1) false)],[]⟩)=some δ →
          (nG T n st xt (.ref sz' b g i k flg) x).run (h[·]?)=some (δ,L++[b]):=by
          intro δ hn hy h1 h2 h3 h4 h5 h6
          simp only[Bool.and_eq_true,beq_iff_eq] at h1
          simp only[bV,decide_eq_true_eq] at h3
          simp only[nG,hT,he,hx]
          rw[if_pos (hd hn)]
          refine pre hy ?_
          try simp only
          rw[if_pos ⟨h1.1,h1.2.1,h1.2.2.1,by rw[h2];exact h3⟩]
          refine kV hb ?_
          simp only
          rw[if_pos ⟨h1.2.2.2.1,h1.2.2.2.2,by rw[h4];exact h5⟩]
          split at h6
          · rename_i hk
            cases h6
            rw[if_pos hk]
            rfl
          · rename_i hk
            rw[if_neg hk]
            split at h6
            · cases h6
            · rename_i hro
              rw[if_neg hro]
              split at h6
              · rename_i hle;cases h6;rw[if_pos hle];rfl
              · rename_i hle;cases h6;rw[if_neg hle];rfl
         split
         · rename_i hz
           subst hz
           refine .bind .rows fun R=>.pure fun hR hkM hM hr hN h1 hy hn=>⟨rfl,key _ hn hy h1 hN hr hM ?_ ?_⟩
           · simp only[eqN,decide_eq_true_eq] at hkM
             omega
           · simp only[eqN,decide_eq_true_eq] at hkM
             rw[if_pos (by omega),hR,hN]
         · rename_i hz
           have hzf:z=false:=by simpa using hz
           subst hzf
           refine .bind .need fun _=>.bind .ask fun _=>.bind .dec fun z2=>?_
           split
           · rename_i hz2
             subst hz2
             refine .bind .rows fun R=>.pure fun hR hz2 hkM hro hk0 hM hr hN h1 hy hn=>⟨rfl,key _ hn hy h1 hN hr hM hkM ?_⟩
             simp only[eqN,decide_eq_false_iff_not] at hk0
             simp only[aCV,decide_eq_true_eq] at hz2
             have hro':¬(ro=true∨flg = .virt):=by
              rintro (h | h)
              · rw[h] at hro;cases hro
              · rw[h] at hro;simp at hro
             rw[if_neg (by omega),if_neg hro',if_pos (by omega),hN,hR]
           · rename_i hz2
             have hzf:z2=false:=by simpa using hz2
             subst hzf
             refine .bind .rows fun R=>.pure fun hR hz2 hkM hro hk0 hM hr hN h1 hy hn=>⟨rfl,key _ hn hy h1 hN hr hM hkM ?_⟩
             simp only[eqN,decide_eq_false_iff_not] at hk0
             simp only[aCV,decide_eq_false_iff_not] at hz2
             have hro':¬(ro=true∨flg = .virt):=by
              rintro (h | h)
              · rw[h] at hro;cases hro
              · rw[h] at hro;simp at hro
             rw[if_neg (by omega),if_neg hro',if_neg (by omega),hR,hN]
       · exact .fail
     · exact .fail
   · exact .fail
 · exact .fail

theorem gCopy_ok {dt:Nat} {d s:AV}:G.Ok (gCopy T h dt d s) (Is (aE1 T dt d s) h):=by
 unfold gCopy
 split
 · rename_i e sz bts z cmp hT
   cases he:T e with
   | none=>exact .fail
   | some ei =>
    simp only
    refine .bind aD8 fun r=>?_
    obtain⟨ys,L⟩:=r
    simp only
    split
    · rename_i sz' b g i m f
      refine .bind .nat fun M=>.bind .dec fun z=>?_
      split
      · rename_i hz
        subst hz
        refine .pure fun hz hM hy=>⟨rfl,?_⟩
        simp only[isZ,decide_eq_true_eq] at hz
        simp only[aE1,hT,he]
        have:=run_bind (L':=[]) (r:=(⟨.int .i64 0,[],[]⟩:Delta)) hy (f:=fun ys=>match lenOf (AV.ref sz' b g i m f) with
         | none=>.fail
         | some dn=>if aIK (AV.ref sz' b g i m f) then .fail else aEA ei.sz (min ys.length dn) (AV.ref sz' b g i m f) ys) (by
         simp only[lenOf,aIK,Bool.false_eq_true,if_false,aEA]
         rw[if_pos (by omega)]
         rfl)
        rw[List.append_nil] at this
        exact this
      · rename_i hz
        have hzf:z=false:=by simpa using hz
        subst hzf
        split
        · rename_i s' rows gen wgen ro hb
          refine .bind .need fun _=>.bind .ask fun _=>.bind .rows fun R=>.pure fun hR hle hn hz hM hy=>⟨rfl,?_⟩
          simp only[isZ,decide_eq_false_iff_not] at hz
          simp only[Bool.and_eq_true,beq_iff_eq] at hn
          simp only[aE1,hT,he]
          refine run_bind hy ?_
          simp only[lenOf,aIK,Bool.false_eq_true,if_false,aEA]
          rw[if_neg (by omega)]
          refine kV hb ?_
          simp only
          rw[if_pos ⟨hn.1,hn.2.1,hn.2.2.1,hn.2.2.2,by rw[hM];exact hle⟩,hM,hR]
          rfl
        · exact .fail
    · exact .fail
 · exact .fail

theorem aM3 {t:Nat} {x:AV}:G.Ok (aKY T h t x) (Is (rX T t x) h):=by
 unfold aKY
 split
 · rename_i e sz bts z0 cmp hT
   cases he:T e with
   | none=>exact .fail
   | some ei =>
    simp only
    cases hz:ei.z with
    | none=>exact .fail
    | some z =>
     simp only
     split
     · refine .bind .ask fun _=>.pure fun h0=>⟨rfl,?_⟩
       simp only[rX,hT,he,hz]
       rw[if_pos h0]
       rfl
     · refine .bind .ask fun _=>.pure fun h0=>⟨rfl,?_⟩
       simp only[rX,hT,he,hz]
       rw[if_pos h0]
       rfl
     · rename_i sz' b g i m f
       refine .bind .dec fun zz=>?_
       split
       · rename_i h1
         subst h1
         refine .pure fun h0=>⟨rfl,?_⟩
         simp only[isZ,decide_eq_true_eq] at h0
         simp only[rX,hT,he,hz]
         rw[if_pos h0]
         rfl
       · rename_i h1
         have hzf:zz=false:=by simpa using h1
         subst hzf
         split
         · rename_i s' rows gen wgen ro hb
           refine .bind .need fun _=>.bind .ask fun _=>.bind .rows fun R=>.pure fun hR hle hn h0=>⟨rfl,?_⟩
           simp only[isZ,decide_eq_false_iff_not] at h0
           simp only[Bool.and_eq_true,beq_iff_eq,decide_eq_true_eq] at hn
           simp only[rX,hT,he,hz]
           rw[if_neg h0]
           refine kV hb ?_
           simp only
           rw[if_pos ⟨hn.1,hn.2.1,hn.2.2.1,hn.2.2.2.1,hle,hn.2.2.2.2.1,hn.2.2.2.2.2⟩,hR]
           rfl
         · exact .fail
     · exact gQ
 · exact .fail

theorem gLen_ok {t:Nat} {x:AV}:G.Ok (gLen T h t x) (Is (aCC T t x) h):=by
 unfold gLen
 split
 · rename_i sz bts z cmp hT
   split
   · exact .pure ⟨rfl,by simp only[aCC,hT];rfl⟩
   · exact .fail
 · rename_i e sz bts z cmp hT
   split
   · exact .bind .nat fun n=>.pure fun hn=>⟨rfl,by simp only[aCC,hT];rw[hn];rfl⟩
   · exact .bind .nat fun n=>.pure fun hn=>⟨rfl,by simp only[aCC,hT];rw[hn];rfl⟩
   · exact .pure ⟨rfl,by simp only[aCC,hT];rfl⟩
   · exact gQ
 · rename_i k e sz bts z cmp hT
   split
   · split
     · rename_i es c hb
       refine .bind .nat fun n=>.pure fun hn=>⟨rfl,?_⟩
       simp only[aCC,hT]
       refine kV hb ?_
       simp only
       rw[hn]
       rfl
     · exact .fail
   · exact gQ
 · exact gQ

theorem aNE {op:BinOp} {k:IntKind} {a b:Int}:G.Ok (aJ3 op k a b) (fun v=>tJ op k a b=some v):=by
 unfold aJ3
 have cmpd:∀(a b:Int),(!(ltI b a))=decide (a≤b):=by
  intro a b
  unfold ltI
  by_cases h:a≤b
  · rw[decide_eq_true h,decide_eq_false (by omega)];rfl
  · rw[decide_eq_false h,decide_eq_true (by omega)];rfl
 split
 · exact .pure rfl
 · exact .pure rfl
 · exact .pure rfl
 · refine .bind .dec fun z=>?_
   split
   · exact .fail
   · rename_i hz
     refine .pure fun h0=>?_
     have:¬b=0:=by intro hb;subst hb;rw[← h0] at hz;simp [eqI] at hz
     simp only[tJ]
     rw[if_neg this]
     rfl
 · refine .bind .dec fun z=>?_
   split
   · exact .fail
   · rename_i hz
     refine .pure fun h0=>?_
     have:¬b=0:=by intro hb;subst hb;rw[← h0] at hz;simp [eqI] at hz
     simp only[tJ]
     rw[if_neg this]
     rfl
 · exact .pure rfl
 · exact .pure rfl
 · exact .pure rfl
 · exact .pure rfl
 · exact .pure rfl
 · exact .pure rfl
 · exact .pure rfl
 · exact .pure (by simp only[tJ];rw[cmpd])
 · exact .pure rfl
 · exact .pure (by simp only[tJ];rw[cmpd])
 · exact .fail

theorem aIM {t:Nat} {x y:AV} {b:Bool} (e:gScEq T t x y=some b):scEq T t x y=some b:=by
 unfold gScEq at e
 split at e
 · split at e
   · rename_i hT
     simp only[scEq,hT]
     exact e
   · cases e
 · split at e
   · rename_i hT
     simp only[scEq,hT]
     exact e
   · cases e
 · split at e
   · rename_i hT
     simp only[scEq,hT]
     exact e
   · cases e
 · cases e

theorem xL:∀{fs:List (Nat × Nat)} {a b:List AV} {r:Bool},uN T fs a b=some r→iA T fs a b=some r
 | [],a,b,r,e=>e
 | [(off,ft)],a,b,r,e=>by
  simp only[uN] at e
  split at e
  · rename_i x y hx hy
    have:=aIM e
    simp only[iA,hx,hy,this]
    cases r<;>rfl
  · cases e
 | (off,ft)::f2::fs,a,b,r,e=>by
  simp only[uN] at e
  split at e
  · rename_i x y hx hy
    split at e
    · rename_i p q hp hq
      cases e
      have h1:=aIM hp
      have h2:=xL (fs:=f2::fs) hq
      rw[iA,hx,hy]
      simp only[h1]
      cases p with
      | false=>rfl
      | true=>simp only[h2];rfl
    · cases e
  · cases e

theorem gEq_ok {t:Nat} {x y:AV} {b:Bool} (e:gEq T t x y=some b):aEq T t x y=some b:=by
 unfold gEq at e
 cases hT:T t with
 | none=>rw[hT] at e;cases e
 | some i =>
  rw[hT] at e
  simp only at e
  split at e
  · simp only[aEq,hT];exact e
  · rename_i a b'
    split at e
    · rename_i hc
      simp only[aEq,hT]
      rw[if_pos hc]
      split at e
      · rename_i fs hk;simp only[hk];exact xL e
      · rename_i n el hk
        simp only[hk]
        split at e
        · rename_i ei hei;simp only[hei];exact xL e
        · cases e
      · cases e
    · cases e
  · rename_i h1 h2
    rw[← e]
    unfold aEq
    simp only[hT]
end
end Go.Ws

namespace Go.Ws
set_option linter.unusedVariables false
set_option linter.unusedSimpArgs false

section
variable {T:Nat→Option TI} {h:List Blk} {n:Nat}

theorem gBin_ok {op:BinOp} {t:Nat} {x y:AV}:G.Ok (gBin T op t x y) (fun v=>aBin T op t x y=some v):=by
 unfold gBin
 split
 · rename_i k a k' b
   split
   · refine .bind .need fun _=>.pure fun hn=>?_
     simp only[decide_eq_true_eq] at hn
     simp only[aBin]
     rw[if_pos hn]
     rfl
   · refine .bind .need fun _=>.pure fun hn=>?_
     simp only[decide_eq_true_eq] at hn
     simp only[aBin]
     rw[if_pos hn]
     rfl
   · rename_i h1 h2
     refine .bind .need fun _=>aNE.imp fun v hv hn=>?_
     simp only[decide_eq_true_eq] at hn
     unfold aBin
     split
     · rename_i e1 e2
       split<;>first|(exfalso;simp_all;done)|(cases e1;cases e2;rw[if_pos hn];exact hv)
     · simp_all
     · simp_all
 · split
   · exact .pure rfl
   · exact .pure rfl
   · exact .fail
 · rename_i h1 h2
   split
   · refine .bind .lift fun b=>.pure fun hb=>?_
     unfold aBin
     split<;>first|exact(h1 _ _ _ _ rfl rfl).elim | exact(h2 _ _ rfl rfl).elim | (simp only[gEq_ok hb];rfl)
   · refine .bind .lift fun b=>.pure fun hb=>?_
     unfold aBin
     split<;>first|exact(h1 _ _ _ _ rfl rfl).elim | exact(h2 _ _ rfl rfl).elim | (simp only[gEq_ok hb];rfl)
   · exact .fail

theorem gUn_ok {op:UnOp} {x:AV}:G.Ok (gUn op x) (fun v=>aUn op x=some v):=by
 unfold gUn
 split
 · exact .pure rfl
 · exact .pure rfl
 · exact .pure rfl
 · exact .fail

theorem aIE {src dst:Nat} {x:AV}:G.Ok (aD9 T h src dst x) (Is (jY T src dst x) h):=by
 unfold aD9
 split
 · rename_i si di hs hd
   split
   · rename_i k hk
     split
     · exact .pure ⟨rfl,by simp only[jY,hs,hd,hk];rfl⟩
     · exact .fail
   · rename_i hk
     split
     · exact .pure ⟨rfl,by simp only[jY,hs,hd,hk];rfl⟩
     · rename_i hx
       split
       · rename_i e he
         split
         · rename_i sz bts z cmp hT
           refine .bind aD8 fun r=>?_
           obtain⟨R,L⟩:=r
           refine .bind .str fun s=>.pure fun hs' hr=>⟨rfl,?_⟩
           have h1:jY T src dst x=aD7 T si x:=by
            simp only[jY,hs,hd,hk]
           rw[h1]
           simp only[aD7,he,hT]
           unfold aLV at hs'
           obtain⟨bs,h2,h3⟩:=Option.map_eq_some_iff.1 hs'
           have:=run_bind (L':=[]) (r:=(⟨.str s,[],[]⟩:Delta)) hr (f:=fun rows=>match u8s rows with
            | some bs=>.val (.str ⟨bs.toArray⟩)
            | none=>.fail) (by
             simp only[h2]
             rw[← h3]
             rfl)
           rw[List.append_nil] at this
           exact this
         · exact .fail
       · exact .fail
   · rename_i e hk
     split
     · split
       · rename_i s sz bts z cmp hT
         refine .bind .rows fun R=>.pure fun hR=>⟨rfl,?_⟩
         simp only[jY,hs,hd,hk,hT]
         rw[hR]
         rfl
       · exact .fail
     · exact gQ
   · exact .fail
 · exact .fail

theorem aKK {t:Nat} {x k:AV} {ok:Bool}:G.Ok (aHF T h t x k ok) (Is (uG T t x k ok) h):=by
 unfold aHF
 split
 · rename_i b
   split
   · rename_i kt et sz bts z0 cmp hT
     refine .bind .need fun _=>?_
     cases he:T et with
     | none=>exact .fail
     | some ei =>
      simp only
      cases hz:ei.z.map (rB (iP T 4 et 0)) with
      | none=>exact .fail
      | some z =>
       simp only
       split
       · rename_i es c hb
         refine .bind .opt fun o=>.pure fun ho hn=>⟨rfl,?_⟩
         simp only[uG,hT]
         rw[if_pos hn]
         simp only[he,hz]
         refine kV hb ?_
         simp only
         unfold aBW at ho
         obtain⟨f,hf,hfo⟩:=Option.map_eq_some_iff.1 ho
         rw[hf]
         cases f with
         | none=>simp at hfo;subst hfo;rfl
         | some r=>obtain⟨i,v,born⟩:=r;simp at hfo;subst hfo;rfl
       · exact .fail
   · exact .fail
 · exact gQ

theorem xE {t:Nat} {x k v:AV}:G.Ok (r9 T h t x k v) (Is (mX T t x k v) h):=by
 unfold r9
 split
 · rename_i kt et sz bts z0 cmp hT
   refine .bind .need fun _=>?_
   split
   · rename_i b
     split
     · rename_i es c hb
       refine .bind .ents fun r=>?_
       obtain⟨es',c'⟩:=r
       refine .pure fun he hn=>⟨rfl,?_⟩
       simp only[Bool.and_eq_true,List.isEmpty_iff] at hn
       simp only[mX,hT]
       rw[if_pos hn]
       refine kV hb ?_
       simp only
       unfold mPutA at he
       split at he
       · rename_i i v0 born hf
         rw[hf]
         cases he
         rfl
       · rename_i hf
         rw[hf]
         cases he
         rfl
       · cases he
     · exact .fail
   · exact .fail
 · exact .fail

theorem aG0 {t:Nat} {x k:AV}:G.Ok (aBO T h t x k) (Is (oT T t x k) h):=by
 unfold aBO
 split
 · rename_i b
   split
   · rename_i kt et sz bts z0 cmp hT
     refine .bind .need fun _=>?_
     cases he:T et with
     | none=>exact .fail
     | some ei =>
      simp only
      cases hz:ei.z.map (rB (iP T 4 et 0)) with
      | none=>exact .fail
      | some z =>
       simp only
       refine .bind .need fun _=>?_
       split
       · rename_i es c hb
         refine .bind .opt fun o=>.bind .nat fun j=>.bind .ents fun r=>?_
         obtain⟨es',c'⟩:=r
         refine .pure fun hent hj ho hzr hn=>⟨rfl,?_⟩
         simp only[oT,hT]
         rw[if_pos hn]
         simp only[he,hz]
         rw[if_pos (by simpa using hzr)]
         refine kV hb ?_
         simp only
         unfold aBW at ho
         obtain⟨f,hf,hfo⟩:=Option.map_eq_some_iff.1 ho
         unfold mEntA at hent
         unfold mIdxA at hj
         rw[hf] at hent hj ⊢
         cases f with
         | none =>
          simp at hfo
          subst hfo
          simp only[Option.some.injEq,Prod.mk.injEq] at hent
          obtain⟨rfl,rfl⟩:=hent
          simp only at hj
          subst hj
          rfl
         | some y =>
          obtain⟨i,v,born⟩:=y
          simp at hfo
          subst hfo
          simp only[Option.some.injEq,Prod.mk.injEq] at hent
          obtain⟨rfl,rfl⟩:=hent
          simp only at hj
          subst hj
          rfl
       · exact .fail
   · exact .fail
 · exact gQ

theorem aDS {x s v:AV}:G.Ok (s4 h x s v) (Is (nJ x s v) h):=by
 unfold s4
 split
 · rename_i b kk born
   refine .bind .need fun _=>?_
   split
   · rename_i es c hb
     refine .bind .ents fun r=>?_
     obtain⟨es',c'⟩:=r
     refine .pure fun he hn=>⟨rfl,?_⟩
     simp only[nJ]
     rw[if_pos (by simpa using hn)]
     refine kV hb ?_
     simp only
     obtain⟨e2,h2,h3⟩:=Option.map_eq_some_iff.1 he
     rw[h2]
     cases h3
     rfl
   · exact .fail
 · exact .fail

theorem aK8 {t:Nat} {x k:AV}:G.Ok (aG4 T h t x k) (Is (uD T t x k) h):=by
 unfold aG4
 split
 · rename_i b
   split
   · rename_i kt et sz bts z0 cmp hT
     refine .bind .need fun _=>?_
     split
     · rename_i es c hb
       refine .bind .ents fun r=>?_
       obtain⟨es',c'⟩:=r
       refine .pure fun he hn=>⟨rfl,?_⟩
       simp only[uD,hT]
       rw[if_pos hn]
       refine kV hb ?_
       simp only
       unfold mDelA at he
       split at he
       · rename_i i v0 born hf
         rw[hf]
         cases he
         rfl
       · rename_i hf
         rw[hf]
         cases he
         rfl
       · cases he
     · exact .fail
   · exact .fail
 · exact gQ

theorem aEI {t:Nat} {len cap:AV}:G.Ok (xR T n h t len cap) (Is (mP T n t len cap) h):=by
 unfold xR
 split
 · rename_i e sz bts z0 cmp k l k' c hT
   cases he:T e with
   | none=>exact .fail
   | some ei =>
    simp only
    cases hz:ei.z with
    | none=>exact .fail
    | some z =>
     simp only
     refine .bind .need fun _=>.bind .ask fun _=>.bind .ask fun _=>.bind .dec fun zz=>?_
     have pre:∀{δ:Delta},(decide (0<ei.bts) && (decide (z.cells.length=ei.sz) && (decide (0<ei.sz) && oH z.cells)))=true→l=c→lenI l ei.bts=true →
      (if l=0 then AM.val .emps else .ret ⟨.ref ei.sz n 0 0 l.toNat .full,[],[.arr ei.sz (List.replicate l.toNat z.cells) 0 0 false]⟩).run (h[·]?)=some (δ,[])→(mP T n t (.int k l) (.int k' c)).run (h[·]?)=some (δ,[]):=by
      intro δ h1 h2 h3 h4
      simp only[Bool.and_eq_true,decide_eq_true_eq] at h1
      simp only[lenI,decide_eq_true_eq] at h3
      simp only[mP,hT,he,hz]
      rw[if_pos ⟨h2,h3.1,h3.2,h1.1,h1.2.1,h1.2.2.1,h1.2.2.2⟩]
      exact h4
     split
     · rename_i hzz
       subst hzz
       refine .pure fun h4 h3 h2 h1=>⟨rfl,pre h1 h2 h3 ?_⟩
       simp only[eqI,beq_iff_eq] at h4
       rw[if_pos h4]
       rfl
     · rename_i hzz
       have hzf:zz=false:=by simpa using hzz
       subst hzf
       refine .bind .rows fun R=>.pure fun hR h4 h3 h2 h1=>⟨rfl,pre h1 h2 h3 ?_⟩
       have:¬l=0:=by intro hh;subst hh;simp [eqI] at h4
       rw[if_neg this]
       simp only[AM.run]
       rw[← hR]
       rfl
 · exact .fail

theorem aIC {b:Builtin} {ts:List Nat} {args:List AV}:G.Ok (aCU T n h b ts args) (Is (pV T n b ts args) h):=by
 unfold aCU
 split
 · exact aKJ
 · exact gCopy_ok
 · exact aM3
 · exact gLen_ok
 · rename_i k x k' y
   refine .bind .need fun _=>.pure fun hn=>⟨rfl,?_⟩
   simp only[decide_eq_true_eq] at hn
   simp only[pV,aMin]
   rw[if_pos hn]
   rfl
 · rename_i k x k' y
   refine .bind .need fun _=>.pure fun hn=>⟨rfl,?_⟩
   simp only[decide_eq_true_eq] at hn
   simp only[pV,aMin]
   rw[if_pos hn]
   rfl
 · exact aK8
 · exact gQ

theorem aJI {v:AV}:G.Ok (gBorV h v) (fun r=>(nE v).run (h[·]?)=some ((r.1,r.2.1),r.2.2)):=by
 unfold gBorV
 split
 · rename_i sz b g i m f
   split
   · rename_i s rows gen wgen ro hb
     refine .bind .need fun _=>.bind .ask fun _=>.bind .rows fun R=>.pure fun hR hle hn=>?_
     simp only[Bool.and_eq_true,beq_iff_eq,decide_eq_true_eq] at hn
     simp only[nE]
     refine kV hb ?_
     simp only
     rw[if_pos ⟨hn.1,hn.2.1,hn.2.2,hle⟩,hR]
     rfl
   · exact .fail
 · rename_i hx
   refine .pure ?_
   unfold nE
   split
   · exact absurd rfl (hx _ _ _ _ _ _)
   · rfl

theorem aI8:∀{l:List AV},G.Ok (gBorC h l) (fun r=>(uP l).run (h[·]?)=some ((r.1,r.2.1),r.2.2))
 | []=>.pure rfl
 | v::l=>by
  simp only[gBorC]
  refine .bind aJI fun r1=>?_
  obtain⟨v',b,L⟩:=r1
  refine .bind aI8 fun r2=>?_
  obtain⟨l',bs,L'⟩:=r2
  refine .pure fun h2 h1=>?_
  simp only[uP]
  refine run_bind h1 ?_
  have:=run_bind h2 (f:=fun (p:List AV × List (Nat × Blk))=>AM.ret (v'::p.1,b++p.2)) (L':=[]) (r:=(v'::l',b++bs)) rfl
  rw[List.append_nil] at this
  exact this

theorem aC4:∀{l:List AV},G.Ok (aFP h l) (fun r=>(kR l).run (h[·]?)=some ((r.1,r.2.1),r.2.2))
 | []=>.pure rfl
 | v::l=>by
  unfold aFP
  split
  · rename_i hh;cases hh
  · rename_i c l0 hh
    cases hh
    refine .bind aI8 fun r1=>?_
    obtain⟨c',b,L⟩:=r1
    refine .bind aC4 fun r2=>?_
    obtain⟨l',bs,L'⟩:=r2
    refine .pure fun h2 h1=>?_
    simp only[kR]
    refine run_bind h1 ?_
    have:=run_bind h2 (f:=fun (p:List AV × List (Nat × Blk))=>AM.ret (.agg c'::p.1,b++p.2)) (L':=[]) (r:=(.agg c'::l',b++bs)) rfl
    rw[List.append_nil] at this
    exact this
  · rename_i v0 l0 hx hh
    cases hh
    refine .bind aJI fun r1=>?_
    obtain⟨v',b,L⟩:=r1
    refine .bind aC4 fun r2=>?_
    obtain⟨l',bs,L'⟩:=r2
    refine .pure fun h2 h1=>?_
    have e:kR (v::l)=(nE v).bind fun (v',b)=>(kR l).bind fun (l',bs)=>.ret (v'::l',b++bs):=by
     cases v<;>first|rfl | exact absurd rfl (hx _)
    rw[e]
    refine run_bind h1 ?_
    have:=run_bind h2 (f:=fun (p:List AV × List (Nat × Blk))=>AM.ret (v'::p.1,b++p.2)) (L':=[]) (r:=(v'::l',b++bs)) rfl
    rw[List.append_nil] at this
    exact this

variable {Tr:Nat→List AV→List Blk→AV→List Blk→Prop}

theorem aJN:G.Ok aC5 (fun _=>True):=fun s acc b s' acc' e=>by
 unfold aC5 at e
 split at e
 · simp only[Option.some.injEq,Prod.mk.injEq] at e
   obtain⟨_,_,rfl⟩:=e
   exact⟨⟨[],rfl⟩,fun _=>trivial⟩
 · cases e

def IsC (Tr:Nat→List AV→List Blk→AV→List Blk→Prop) (m:iO→CC→AM Delta) (h:List Blk) (r:GD):Prop:=match r.c with
 | none=>∀call cc,(m call cc).run (h[·]?)=some (r.δ,r.l)
 | some c=>Tr c.f c.args c.h c.v c.h'∧∀call,call c.f c.args c.h=some (c.v,c.h')→(m call c.cc).run (h[·]?)=some (r.δ,r.l)

theorem Is.c {m:AM Delta} {r:GD} (hi:Is m h r):IsC Tr (fun _ _=>m) h r:=by
 unfold IsC
 rw[hi.1]
 exact fun _ _=>hi.2

theorem aI2 {f:Nat} {args:List AV}:G.Ok (aE6 Tr n h f args) (IsC Tr (fun call cc=>tC call cc n f args) h):=by
 unfold aE6
 refine .bind aJN fun r=>?_
 obtain⟨cc,v,h'⟩:=r
 refine .bind (S1:=fun r=>(if cc.brw then kR (qO cc.cast args) else .ret (qO cc.cast args,[])).run (h[·]?)=some ((r.1,r.2.1),r.2.2)) ?_ fun r=>?_
 · show G.Ok (if cc.brw then aFP h (qO cc.cast args) else G.pure (qO cc.cast args,[],[])) _
   split
   · exact aC4
   · exact .pure rfl
 · obtain⟨args',bw,L⟩:=r
   refine .bind .lift fun r2=>?_
   obtain⟨bs,L'⟩:=r2
   refine .bind .need fun _=>.bind .ask fun _=>.pure fun hT hn hr hb _=>⟨hT,fun call hc=>?_⟩
   simp only at hb hc
   simp only[tC]
   refine run_bind hb ?_
   try simp only
   have:=run_bind hr (f:=fun bs=>if bs≠[]∧bw≠[] then .fail else
    match call f (AV.renL (bs.map (·.1)).idxOf args') (bs.map fun x=>x.2.ren (bs.map (·.1)).idxOf) with
    | none=>.fail
    | some (v,h) =>
     .ret (⟨v.ren (dP (bs.map (·.1)) n),
      (if bw=[]∨(v.hasInl=false∧h=[]) then [] else bw)++(bs.map (·.1)).zip ((h.take (bs.map (·.1)).length).map (Blk.ren (dP (bs.map (·.1)) n))),
      (h.drop (bs.map (·.1)).length).map (Blk.ren (dP (bs.map (·.1)) n))⟩:Delta)) (L':=[]) (r:=⟨v.ren (dP (bs.map (·.1)) n),
      (if bw.isEmpty || (!v.hasInl && h'.isEmpty) then [] else bw)++(bs.map (·.1)).zip ((h'.take (bs.map (·.1)).length).map (Blk.ren (dP (bs.map (·.1)) n))),
      (h'.drop (bs.map (·.1)).length).map (Blk.ren (dP (bs.map (·.1)) n))⟩) (by
    try simp only
    have hne:¬(bs≠[]∧bw≠[]):=by
     rintro⟨h1,h2⟩
     cases bs with
     | nil=>exact h1 rfl
     | cons=>cases bw with
      | nil=>exact h2 rfl
      | cons=>simp at hn
    rw[if_neg hne,hc]
    simp only[AM.run]
    congr 4
    by_cases hq:bw=[]∨(v.hasInl=false∧h'=[])
    · rw[if_pos hq,if_pos]
      rcases hq with rfl | ⟨h1,rfl⟩
      · rfl
      · simp [h1]
    · rw[if_neg hq,if_neg]
      intro hh
      apply hq
      simp only[Bool.or_eq_true,List.isEmpty_iff,Bool.and_eq_true,Bool.not_eq_true'] at hh
      exact hh)
   rw[List.append_nil] at this
   exact this

theorem fA {t:List AV} {x:Operand} {k:AV→G GD} {m:AV→iO→CC→AM Delta} (hk:∀v,G.Ok (k v) (IsC Tr (m v) h)) :
 G.Ok (match evA t x with | some v=>k v | none=>.fail) (IsC Tr (fun call cc=>match evA t x with | some v=>m v call cc | none=>.fail) h):=by
 cases evA t x with
 | none=>exact .fail
 | some v=>exact hk v

set_option maxHeartbeats 1000000 in
theorem gop_ok {t:List AV} {o:Op}:G.Ok (gop Tr T n t h o) (IsC Tr (fun call cc=>aop T call cc n t o) h):=by
 have dflt:∀(o:Op),(∀call cc,aop T call cc n t o=aop T aH0 noCC n t o)→G.Ok ((G.lift ((aop T aH0 noCC n t o).run (h[·]?))).bind fun r=>.pure (.of r)) (IsC Tr (fun call cc=>aop T call cc n t o) h):=by
  intro o ho
  refine(gQ (m:=aop T aH0 noCC n t o)).imp fun r hr=>?_
  have:=hr.c (Tr:=Tr)
  unfold IsC at this ⊢
  rw[hr.1] at this ⊢
  intro call cc
  simp only
  rw[ho call cc]
  exact hr.2
 unfold gop
 simp only
 split
 · rename_i c a b
   refine fA fun v=>?_
   split
   · refine .bind .dec fun z=>?_
     split
     · rename_i x hz
       refine(fA (m:=fun v _ _=>AM.val v) fun v=>.pure (show IsC Tr _ h (GD.val v) from fun _ _=>rfl)).imp fun r hr hx=>?_
       subst hz
       subst hx
       simp only[if_true]
       exact hr
     · rename_i x hz
       refine(fA (m:=fun v _ _=>AM.val v) fun v=>.pure (show IsC Tr _ h (GD.val v) from fun _ _=>rfl)).imp fun r hr hx=>?_
       have hz':z=false:=by simpa using hz
       subst hz'
       subst hx
       simp only[Bool.false_eq_true,if_false]
       exact hr
   · exact .fail
 · exact fA fun v=>gLoad_ok.imp fun r hr=>hr.c
 · exact fA fun v=>fA fun u=>aNI.imp fun r hr=>hr.c
 · refine fA fun v=>fA fun u=>.bind gBin_ok fun x=>.pure fun hx=>?_
   intro call cc
   simp only[hx]
   rfl
 · refine fA fun v=>.bind gUn_ok fun x=>.pure fun hx=>?_
   intro call cc
   simp only[hx]
   rfl
 · exact fA fun v=>aIE.imp fun r hr=>hr.c
 · refine fA fun v=>?_
   split
   · rename_i len e sz bts z cmp hT
     split
     · rename_i ei sz' rows he
       refine .bind .need fun _=>.bind .nat fun N=>.bind .ask fun _=>.pure fun hc hN hn=>?_
       intro call cc
       simp only[Bool.and_eq_true,beq_iff_eq,decide_eq_true_eq] at hn
       simp only[aCV,decide_eq_true_eq] at hc
       simp only[hT,he]
       rw[if_pos ⟨hn.1,hn.2.1,by omega,hn.2.2⟩]
       rfl
     · exact .fail
   · exact .fail
 · exact fA fun v=>fA fun u=>aEI.imp fun r hr=>hr.c
 · refine fA fun v=>?_
   split
   · rename_i lo hi mx h1 h2 h3
     refine aM6.imp fun r hr=>?_
     have:=hr.c (Tr:=Tr)
     unfold IsC at this ⊢
     rw[hr.1] at this ⊢
     intro call cc
     simp only[h1,h2,h3]
     exact hr.2
   · exact .fail
 · exact fA fun v=>fA fun u=>aEK.imp fun r hr=>hr.c
 · exact fA fun v=>fA fun u=>aKK.imp fun r hr=>hr.c
 · exact fA fun v=>fA fun u=>fA fun q=>xE.imp fun r hr=>hr.c
 · exact fA fun v=>fA fun u=>fA fun q=>xE.imp fun r hr=>hr.c
 · exact fA fun v=>fA fun u=>aG0.imp fun r hr=>hr.c
 · exact fA fun v=>fA fun u=>fA fun q=>aDS.imp fun r hr=>hr.c
 · rename_i c
   split
   · rename_i b hb
     split
     · rename_i args ha
       refine aIC.imp fun r hr=>?_
       have:=hr.c (Tr:=Tr)
       unfold IsC at this ⊢
       rw[hr.1] at this ⊢
       intro call cc
       simp only[aop,hb,ha]
       exact hr.2
     · exact .fail
   · rename_i f hf
     have:=fA (Tr:=Tr) (h:=h) (t:=t) (x:=f) (k:=fun f=>match f,evL t c.args.toList with
      | .fn f cs,some args=>if f<1000000 then aE6 Tr n h f (args++cs) else aE6 Tr n h (f - 1000000) (cs++args)
      | _,_=>.fail) (m:=fun f call cc=>match f,evL t c.args.toList with
      | .fn f cs,some args=>if f<1000000 then tC call cc n f (args++cs) else tC call cc n (f - 1000000) (cs++args)
      | _,_=>.fail) (fun v=>by
       split
       · rename_i f' cs args ha
         try simp only
         split
         · exact aI2
         · exact aI2
       · exact .fail)
     refine this.imp fun r hr=>?_
     unfold IsC at hr ⊢
     cases hc:r.c with
     | none =>
      rw[hc] at hr
      intro call cc
      simp only[aop,hf]
      exact hr call cc
     | some q =>
      rw[hc] at hr
      refine⟨hr.1,fun call hcl=>?_⟩
      simp only[aop,hf]
      exact hr.2 call hcl
   · exact .fail
 · rename_i h1 h2 h3 h4 h5 h6 h7 h8 h9 h10 h11 h12 h13 h14 h15 h16
   refine dflt _ fun call cc=>?_
   cases o<;>first|rfl | exact(h16 _ rfl).elim | (rename_i a b c;cases a<;>rfl)|(rename_i a b;cases b<;>rfl)
end
end Go.Ws
