/-
  Locks as lists: what they are, one more, one less.
  Conditions: none.
-/
import Derived.Test.YtpaekffehfdmgaaGreatDoorZB2
set_option linter.unusedVariables false
set_option linter.unusedSimpArgs false
namespace Go.Ws.L7
open Go.Ws
open Go
set_option linter.unusedVariables false
set_option linter.unusedSimpArgs false

abbrev Ho:=Int × Int × Bool
def cd (h:Ho):Int:=h.1*1000+h.2.1
def May (h:Ho):Prop:=(0≤h.1∧h.1<64)∧0≤h.2.1∧h.2.1<1000
theorem aQR {a b:Ho} (ha:May a) (hb:May b):cd a<cd b↔a.1<b.1∨(a.1=b.1∧a.2.1<b.2.1):=by unfold cd;unfold May at ha hb;omega
theorem cd_eq {a b:Ho} (ha:May a) (hb:May b):cd a=cd b↔a.1=b.1∧a.2.1=b.2.1:=by unfold cd;unfold May at ha hb;omega
def Lk (l:List Ho):Prop:=l.Pairwise (fun a b=>cd a<cd b)∧(∀h∈l,May h)∧∀a∈l,∀b∈l,a.1=b.1→a.2.1≠b.2.1→a.2.2=false
theorem lk_nil:Lk []:=⟨List.Pairwise.nil,fun _ h=>(by cases h),fun _ h=>(by cases h)⟩
theorem Lk.sub {l m:List Ho} (h:Lk l) (hs:m.Sublist l):Lk m :=
 ⟨h.1.sublist hs,fun x hx=>h.2.1 x (hs.subset hx),fun a ha b hb=>h.2.2 a (hs.subset ha) b (hs.subset hb)⟩
def aE1 (l:List Ho) (k t:Int) (w:Bool):Prop:=∃h∈l,h.1=k∧h.2.1≠t∧(w=true∨h.2.2=true)
theorem lk_new {A R:List Ho} (h:Lk (A++R)) {k t:Int} {w:Bool} (hm:May (k,t,w)) (hA:∀x∈A,cd x<cd (k,t,w)) (hR:∀x∈R,cd (k,t,w)<cd x) (hc:∀x∈A++R,x.1=k→x.2.1≠t→w=false∧x.2.2=false):Lk (A++(k,t,w)::R):=by
 obtain⟨h1,h2,h3⟩:=h
 rw[List.pairwise_append] at h1
 have mem:∀x,x∈A++(k,t,w)::R↔x=(k,t,w)∨x∈A++R:=fun x=>by simp only[List.mem_append,List.mem_cons];constructor<;>rintro (h | h | h)<;>simp [h]
 refine⟨?_,fun x hx=>?_,fun a ha b hb hk ht=>?_⟩
 · rw[List.pairwise_append,List.pairwise_cons]
   refine⟨h1.1,⟨hR,h1.2.1⟩,fun a ha c hc=>?_⟩
   rcases List.mem_cons.1 hc with rfl | hc
   · exact hA a ha
   · exact h1.2.2 a ha c hc
 · rcases (mem x).1 hx with rfl | hx
   · exact hm
   · exact h2 x hx
 · rcases (mem a).1 ha with rfl | ha
   · rcases (mem b).1 hb with rfl | hb
     · exact absurd rfl ht
     · exact(hc b hb hk.symm (Ne.symm ht)).1
   · rcases (mem b).1 hb with rfl | hb
     · exact(hc a ha hk ht).2
     · exact h3 a ha b hb hk ht
theorem aTP {A R:List Ho} {d:Ho} (h:Lk (A++d::R)):Lk (A++R)∧(∀x∈A,cd x<cd d)∧(∀x∈R,cd d<cd x)∧∀x∈A++R,x.1=d.1→x.2.1≠d.2.1→d.2.2=false∧x.2.2=false:=by
 have hs:(A++R).Sublist (A++d::R):=(List.Sublist.refl A).append (List.sublist_cons_self d R)
 have h1:=h.1
 rw[List.pairwise_append,List.pairwise_cons] at h1
 exact⟨h.sub hs,fun x hx=>h1.2.2 x hx d (by simp),h1.2.1.1,fun x hx hk ht=>⟨h.2.2 d (by simp) x (hs.subset hx) hk.symm (Ne.symm ht),h.2.2 x (hs.subset hx) d (by simp) hk ht⟩⟩
def sU:List Ho→Int→Int→Int
 | [],_,_=>0
 | h::l,t,k=>if h.1=k∧h.2.1=t then (if h.2.2 then 2 else 1) else sU l t k
theorem aVM {l:List Ho} {t k:Int} (h:∀x∈l,¬(x.1=k∧x.2.1=t)):sU l t k=0:=by
 induction l with
 | nil=>rfl
 | cons d l ih=>rw[sU,if_neg (h d (by simp)),ih fun x hx=>h x (by simp [hx])]
theorem hold_app {A R:List Ho} {t k:Int} (h:∀x∈A,¬(x.1=k∧x.2.1=t)):sU (A++R) t k=sU R t k:=by
 induction A with
 | nil=>rfl
 | cons d l ih=>rw[List.cons_append,sU,if_neg (h d (by simp)),ih fun x hx=>h x (by simp [hx])]
theorem hold_mid {A R:List Ho} {t k:Int} {b:Bool} (hA:∀x∈A,cd x<cd (k,t,b)) (hm:May (k,t,b)) (hAm:∀x∈A,May x):sU (A++(k,t,b)::R) t k=if b then 2 else 1:=by
 rw[hold_app,sU,if_pos ⟨rfl,rfl⟩]
 intro x hx hh
 have:=hA x hx
 have:=(cd_eq (hAm x hx) hm).2 hh
 omega
def lI (l:List Ho) (tx:Int):List Ho:=l.filter fun h=>decide (h.2.1≠tx)
theorem aCK (l:List Ho) (tx:Int):(lI l tx).length≤l.length:=List.length_filter_le _ _
theorem Lk.free {l:List Ho} (h:Lk l) (tx:Int):Lk (lI l tx):=h.sub List.filter_sublist
theorem aV0 {l:List Ho} {tx:Int} {h:Ho}:h∈lI l tx↔h∈l∧h.2.1≠tx:=by simp [lI]
end Go.Ws.L7
