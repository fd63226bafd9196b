/-
  Ledgers as lists: what they are, their sums, one more delta.
  Conditions: none.
-/
import Derived.Test.YtpaekffehfdmgaaGreatDoorZB2
set_option linter.unusedVariables false
set_option linter.unusedSimpArgs false
namespace Go.Ws.L8
open Go.Ws
open Go
set_option linter.unusedVariables false
set_option linter.unusedSimpArgs false

abbrev W64 (a:Int):Int:=IntKind.i64.wrap a
def tot (l:List (Int × Int)) (k:Int):Int:=l.foldr (fun d a=>(if d.1=k then d.2 else 0)+a) 0
theorem uF (k:Int):tot [] k=0:=rfl
theorem oJ (d:Int × Int) (l:List (Int × Int)) (k:Int):tot (d::l) k=(if d.1=k then d.2 else 0)+tot l k:=rfl
theorem jX (a b:List (Int × Int)) (k:Int):tot (a++b) k=tot a k+tot b k:=by
 induction a with
 | nil=>simp [uF]
 | cons d a ih=>rw[List.cons_append,oJ,oJ,ih];omega
theorem aFK {l:List (Int × Int)} {k:Int} (h:∀d∈l,d.1≠k):tot l k=0:=by
 induction l with
 | nil=>rfl
 | cons d l ih =>
  rw[oJ,if_neg (h d (by simp)),ih fun x hx=>h x (by simp [hx])];rfl
def nP (l:List (Int × Int)) (k:Int):Int:=W64 (tot l k)

def ofT (l:List (Int × Int)) (i:Nat):List (Int × Int):=(List.range i).filterMap fun k:Nat=>if nP l (k:Int)=0 then none else some ((k:Int),nP l (k:Int))
def ofL (l:List (Int × Int)):List (Int × Int):=ofT l 64
theorem aJ3 (l:List (Int × Int)) (i:Nat):ofT l (i+1)=if nP l (i:Int)=0 then ofT l i else ofT l i++[((i:Int),nP l (i:Int))]:=by
 unfold ofT
 rw[List.range_succ,List.filterMap_append,List.filterMap_cons]
 by_cases h:nP l (i:Int)=0
 · rw[if_pos h,if_pos h];simp
 · rw[if_neg h,if_neg h];simp
theorem ofT_len (l:List (Int × Int)) (i:Nat):(ofT l i).length≤i:=by
 have:=List.length_filterMap_le (fun k:Nat=>if nP l (k:Int)=0 then none else some ((k:Int),nP l (k:Int))) (List.range i)
 rw[List.length_range] at this
 exact this
theorem ofL_len (l:List (Int × Int)):(ofL l).length≤64:=ofT_len l 64
theorem aFV {l:List (Int × Int)} {i:Nat} {d:Int × Int}:d∈ofT l i↔(0≤d.1∧d.1<(i:Int))∧nP l d.1=d.2∧d.2≠0:=by
 unfold ofT
 rw[List.mem_filterMap]
 constructor
 · rintro⟨k,hk,h⟩
   rw[List.mem_range] at hk
   by_cases hz:nP l (k:Int)=0
   · rw[if_pos hz] at h;cases h
   · rw[if_neg hz] at h
     cases h
     exact⟨⟨by simp,by simp;omega⟩,rfl,hz⟩
 · rintro⟨⟨h1,h2⟩,h3,h4⟩
   refine⟨d.1.toNat,by rw[List.mem_range];omega,?_⟩
   have e:((d.1.toNat:Nat):Int)=d.1:=by omega
   rw[e,h3,if_neg h4]
theorem aUS {a b:List (Int × Int)} (h:∀k:Int,0≤k→k<64→nP a k=nP b k):ofL a=ofL b:=by
 unfold ofL
 have:∀i:Nat,i≤64→ofT a i=ofT b i:=by
  intro i
  induction i with
  | zero=>intro _;rfl
  | succ i ih=>intro hi;rw[aJ3,aJ3,ih (by omega),h i (by omega) (by omega)]
 exact this 64 (Nat.le_refl _)
abbrev InR (b:Int):Prop:=-9223372036854775808≤b∧b≤9223372036854775807
theorem W64_in {b:Int} (h:InR b):W64 b=b:=wrap64 h
theorem aOZ (b:Int):InR (W64 b):=w64_rng b
def Led (l:List (Int × Int)):Prop:=l.Pairwise (fun a b=>a.1<b.1)∧∀d∈l,0≤d.1∧d.1<64∧d.2≠0∧InR d.2
theorem aIZ (l:List (Int × Int)):Led (ofL l):=by
 refine⟨?_,fun d hd=>?_⟩
 · have:∀i:Nat,(ofT l i).Pairwise (fun a b=>a.1<b.1):=by
    intro i
    induction i with
    | zero=>exact List.Pairwise.nil
    | succ i ih =>
     rw[aJ3]
     split
     · exact ih
     · rw[List.pairwise_append]
       refine⟨ih,List.pairwise_singleton _ _,fun a ha b hb=>?_⟩
       rw[List.mem_singleton] at hb
       subst hb
       exact(aFV.1 ha).1.2
   exact this 64
 · obtain⟨⟨h1,h2⟩,h3,h4⟩:=aFV.1 hd
   exact⟨h1,by simpa using h2,h4,by rw[← h3];exact aOZ _⟩
theorem aJL:∀{a b:List (Int × Int)},a.Pairwise (fun a b=>a.1<b.1)→b.Pairwise (fun a b=>a.1<b.1)→(∀d,d∈a↔d∈b)→a=b
 | [],[],_,_,_=>rfl
 | [],d::b,_,_,h=>absurd ((h d).2 (by simp)) (by simp)
 | d::a,[],_,_,h=>absurd ((h d).1 (by simp)) (by simp)
 | d::a,e::b,ha,hb,h=>by
  rw[List.pairwise_cons] at ha hb
  have h1:d=e:=by
   have hd:d∈e::b:=(h d).1 (by simp)
   have he:e∈d::a:=(h e).2 (by simp)
   rw[List.mem_cons] at hd he
   rcases hd with hd | hd
   · exact hd
   · rcases he with he | he
     · exact he.symm
     · have:=ha.1 e he;have:=hb.1 d hd;omega
  subst h1
  rw[aJL ha.2 hb.2 fun x=>?_]
  have hx:=h x
  rw[List.mem_cons,List.mem_cons] at hx
  constructor
  · intro hxa
    have:=ha.1 x hxa
    rcases hx.1 (.inr hxa) with rfl | hh
    · omega
    · exact hh
  · intro hxb
    have:=hb.1 x hxb
    rcases hx.2 (.inr hxb) with rfl | hh
    · omega
    · exact hh
theorem aSV {l:List (Int × Int)} (hp:l.Pairwise (fun a b=>a.1<b.1)) {d:Int × Int} (hd:d∈l):tot l d.1=d.2:=by
 induction l with
 | nil=>cases hd
 | cons e l ih =>
  rw[List.pairwise_cons] at hp
  rw[oJ]
  rcases List.mem_cons.1 hd with rfl | hd
  · rw[if_pos rfl,aFK fun x hx=>by have:=hp.1 x hx;omega,Int.add_zero]
  · have:=hp.1 d hd
    rw[if_neg (by omega),ih hp.2 hd,Int.zero_add]
theorem Led.mem {l:List (Int × Int)} (h:Led l) {d:Int × Int}:d∈l↔(0≤d.1∧d.1<64)∧nP l d.1=d.2∧d.2≠0:=by
 constructor
 · intro hd
   obtain⟨h1,h2,h3,h4⟩:=h.2 d hd
   refine⟨⟨h1,h2⟩,?_,h3⟩
   unfold nP
   rw[aSV h.1 hd]
   exact W64_in h4
 · rintro⟨_,h3,h4⟩
   by_cases hk:∃e∈l,e.1=d.1
   · obtain⟨e,he,hk⟩:=hk
     have:=aSV h.1 he
     unfold nP at h3
     rw[← hk,this] at h3
     have h5:=W64_in (h.2 e he).2.2.2
     rw[h5] at h3
     have:e=d:=Prod.ext hk h3
     rw[← this];exact he
   · exfalso
     have:tot l d.1=0:=aFK fun e he hh=>hk ⟨e,he,hh⟩
     unfold nP at h3
     rw[this] at h3
     exact h4 (h3.symm.trans w64_0)
theorem Led.of {l:List (Int × Int)} (h:Led l):ofL l=l:=aJL (aIZ l).1 h.1 fun d=>by
 rw[h.mem]
 exact aFV
theorem Led.len {l:List (Int × Int)} (h:Led l):l.length≤64:=by
 have:=ofL_len l
 rwa [h.of] at this
theorem Led.eq {l:List (Int × Int)} (h:Led l) {d:List (Int × Int)} (hs:∀k,nP l k=nP d k):l=ofL d:=by
 rw[← h.of]
 exact aUS fun k _ _=>hs k
theorem ofL_sum (l:List (Int × Int)) (k:Int) (hk:0≤k) (hk2:k<64):nP (ofL l) k=nP l k:=by
 by_cases h:nP l k=0
 · rw[h]
   have:tot (ofL l) k=0:=aFK fun d hd hh=>by
    obtain⟨_,h3,h4⟩:=aFV.1 hd
    rw[hh] at h3
    exact h4 (h3▸h)
   unfold nP
   rw[this];exact w64_0
 · have hm:(k,nP l k)∈ofL l:=aFV.2 ⟨⟨hk,by simpa using hk2⟩,rfl,h⟩
   have:=((aIZ l).mem.1 hm).2.1
   exact this
theorem led_new {A R:List (Int × Int)} (h:Led (A++R)) {k b:Int} (hk:0≤k∧k<64) (hb:InR b) (hA:∀d∈A,d.1<k) (hR:∀d∈R,k<d.1) (hb0:b≠0):Led (A++(k,b)::R):=by
 obtain⟨h1,h2⟩:=h
 rw[List.pairwise_append] at h1
 refine⟨?_,fun d hd=>?_⟩
 · rw[List.pairwise_append,List.pairwise_cons]
   refine⟨h1.1,⟨hR,h1.2.1⟩,fun a ha c hc=>?_⟩
   rcases List.mem_cons.1 hc with rfl | hc
   · exact hA a ha
   · exact h1.2.2 a ha c hc
 · rcases List.mem_append.1 hd with hd | hd
   · exact h2 d (List.mem_append.2 (.inl hd))
   · rcases List.mem_cons.1 hd with rfl | hd
     · exact⟨hk.1,hk.2,hb0,hb⟩
     · exact h2 d (List.mem_append.2 (.inr hd))
theorem led_less {A R:List (Int × Int)} {d:Int × Int} (h:Led (A++d::R)):Led (A++R)∧(∀x∈A,x.1<d.1)∧(∀x∈R,d.1<x.1):=by
 obtain⟨h1,h2⟩:=h
 rw[List.pairwise_append,List.pairwise_cons] at h1
 refine⟨⟨?_,fun x hx=>h2 x ?_⟩,fun x hx=>h1.2.2 x hx d (by simp),h1.2.1.1⟩
 · rw[List.pairwise_append]
   exact⟨h1.1,h1.2.1.2,fun a ha b hb=>h1.2.2 a ha b (by simp [hb])⟩
 · rcases List.mem_append.1 hx with hx | hx
   · simp [hx]
   · simp [hx]
def put1 (A R:List (Int × Int)) (k b:Int):List (Int × Int):=if b=0 then A++R else A++(k,b)::R
theorem aTQ {A R:List (Int × Int)} (h:Led (A++R)) {k b:Int} (hk:0≤k∧k<64) (hb:InR b) (hA:∀d∈A,d.1<k) (hR:∀d∈R,k<d.1):Led (put1 A R k b)∧∀j,tot (put1 A R k b) j=tot (A++R) j+(if k=j then b else 0):=by
 unfold put1
 split
 · rename_i h0
   exact⟨h,fun j=>by subst h0;simp⟩
 · rename_i h0
   refine⟨led_new h hk hb hA hR h0,fun j=>?_⟩
   rw[jX,jX,oJ]
   simp only
   omega
end Go.Ws.L8
