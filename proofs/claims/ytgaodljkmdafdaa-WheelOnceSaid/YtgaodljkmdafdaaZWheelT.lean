/-
  Wheels as lists: what they are, one timer more, one less, those that ring.
  Conditions: none.
-/
import Derived.Test.YtgaodljkmdafdaaZB2
set_option linter.unusedVariables false
set_option linter.unusedSimpArgs false
namespace Go.Ws
open Go
set_option linter.unusedVariables false
set_option linter.unusedSimpArgs false

abbrev Tm:=Int × Int
def ahead (a b:Tm):Prop:=a.2<b.2∨(a.2=b.2∧a.1<b.1)
theorem ahead_trans {a b c:Tm} (h:ahead a b) (k:ahead b c):ahead a c:=by unfold ahead at *;omega
theorem ahead_not {a b:Tm} (h:ahead a b):¬ahead b a:=by unfold ahead at *;omega
theorem ahead_tot {a b:Tm} (h:a.1≠b.1):ahead a b∨ahead b a:=by unfold ahead;omega
def Wl (now:Int) (l:List Tm):Prop:=l.Pairwise (fun a b=>ahead a b∧a.1≠b.1)∧∀t∈l,now<t.2∧t.2≤1099511627776
def Wh (now:Int) (l:List Tm):Prop:=(0≤now∧now≤1099511627776)∧l.length≤1000∧Wl now l
theorem Wl.sub {now:Int} {l m:List Tm} (h:Wl now l) (hs:m.Sublist l):Wl now m:=⟨h.1.sublist hs,fun x hx=>h.2 x (hs.subset hx)⟩
theorem Wl.later {now n:Int} {l:List Tm} (h:Wl now l) (hn:∀t∈l,n<t.2):Wl n l:=⟨h.1,fun x hx=>⟨hn x hx,(h.2 x hx).2⟩⟩
def wo (l:List Tm) (id:Int):List Tm:=l.filter fun t=>decide (t.1≠id)
theorem wo_len (l:List Tm) (id:Int):(wo l id).length≤l.length:=List.length_filter_le _ _
theorem wo_mem {l:List Tm} {id:Int} {t:Tm}:t∈wo l id↔t∈l∧t.1≠id:=by simp [wo]
theorem Wl.wo {now:Int} {l:List Tm} (h:Wl now l) (id:Int):Wl now (wo l id):=h.sub List.filter_sublist
theorem wo_none {l:List Tm} {id:Int} (h:∀t∈l,t.1≠id):wo l id=l:=by
 unfold wo
 rw[List.filter_eq_self]
 intro t ht
 simp [h t ht]
theorem wo_mid {now:Int} {A R:List Tm} {t:Tm} (h:Wl now (A++t::R)):wo (A++t::R) t.1=A++R∧(wo (A++t::R) t.1).length+1=(A++t::R).length:=by
 have h1:=h.1
 rw[List.pairwise_append,List.pairwise_cons] at h1
 have e:wo (A++t::R) t.1=A++R:=by
  have hA:wo A t.1=A:=wo_none fun x hx=>(h1.2.2 x hx t (by simp)).2
  have hR:wo R t.1=R:=wo_none fun x hx=>(h1.2.1.1 x hx).2.symm
  unfold wo at *
  rw[List.filter_append,hA,List.filter_cons,if_neg (by simp),hR]
 exact⟨e,by rw[e];simp;omega⟩
theorem wl_ins {now:Int} {A R:List Tm} {x:Tm} (h:Wl now (A++R)) (hx:∀t∈A++R,t.1≠x.1) (hA:∀t∈A,ahead t x) (hR:∀t∈R,ahead x t) (h1:now<x.2) (h2:x.2≤1099511627776):Wl now (A++x::R):=by
 obtain⟨p,q⟩:=h
 rw[List.pairwise_append] at p
 refine⟨?_,fun t ht=>?_⟩
 · rw[List.pairwise_append,List.pairwise_cons]
   refine⟨p.1,⟨fun t ht=>⟨hR t ht,(hx t (by simp [ht])).symm⟩,p.2.1⟩,fun a ha b hb=>?_⟩
   rcases List.mem_cons.1 hb with rfl | hb
   · exact⟨hA a ha,hx a (by simp [ha])⟩
   · exact p.2.2 a ha b hb
 · rcases List.mem_append.1 ht with ht | ht
   · exact q t (by simp [ht])
   · rcases List.mem_cons.1 ht with rfl | ht
     · exact⟨h1,h2⟩
     · exact q t (by simp [ht])
def rg (l:List Tm) (n:Int):List Tm:=l.filter fun t=>decide (t.2≤n)
def lf (l:List Tm) (n:Int):List Tm:=l.filter fun t=>decide (n<t.2)
theorem rg_len (l:List Tm) (n:Int):(rg l n).length≤l.length:=List.length_filter_le _ _
theorem lf_len (l:List Tm) (n:Int):(lf l n).length≤l.length:=List.length_filter_le _ _
theorem rg_mem {l:List Tm} {n:Int} {t:Tm}:t∈rg l n↔t∈l∧t.2≤n:=by simp [rg]
theorem lf_mem {l:List Tm} {n:Int} {t:Tm}:t∈lf l n↔t∈l∧n<t.2:=by simp [lf]
theorem Wl.lf {now n:Int} {l:List Tm} (h:Wl now l):Wl n (lf l n):=(h.sub List.filter_sublist).later fun t ht=>(lf_mem.1 ht).2
theorem rg_none {l:List Tm} {n:Int} (h:∀t∈l,n<t.2):rg l n=[]∧lf l n=l:=by
 constructor
 · unfold rg;rw[List.filter_eq_nil_iff];intro t ht;have:=h t ht;simp;omega
 · unfold lf;rw[List.filter_eq_self];intro t ht;have:=h t ht;simp;omega
theorem rg_cons_y {d:Tm} {l:List Tm} {n:Int} (h:d.2≤n):rg (d::l) n=d::rg l n∧lf (d::l) n=lf l n:=by
 unfold rg lf
 rw[List.filter_cons,List.filter_cons,if_pos (by simpa using h),if_neg (by simp;omega)]
 exact⟨rfl,rfl⟩
theorem rg_cons_n {now:Int} {d:Tm} {l:List Tm} {n:Int} (hw:Wl now (d::l)) (h:n<d.2):rg (d::l) n=[]∧lf (d::l) n=d::l:=rg_none fun t ht=>by
 rcases List.mem_cons.1 ht with rfl | ht
 · exact h
 · have:=((List.pairwise_cons.1 hw.1).1 t ht).1
   unfold ahead at this
   omega
theorem mGet_put {V:Type} (q:Int) (x:V):∀(l:List (Int × V)) (p:Int),mGet (mPut l q x) p=if p=q then some x else mGet l p
 | [],p=>by simp [mPut,mGet]
 | (k,v)::l,p=>by
  unfold mPut
  by_cases h:q=k
  · rw[if_pos h]
    subst h
    unfold mGet
    by_cases hp:p=q
    · rw[if_pos hp,if_pos hp]
    · rw[if_neg hp,if_neg hp,if_neg hp]
  · rw[if_neg h]
    unfold mGet
    by_cases hp:p=k
    · rw[if_pos hp,if_neg (fun e=>h (e.symm.trans hp)),if_pos hp]
    · rw[if_neg hp,if_neg hp]
      exact mGet_put q x l p
theorem mHas_put {V:Type} (l:List (Int × V)) (q:Int) (x:V) (p:Int):mHas (mPut l q x) p=true↔p=q∨mHas l p=true:=by
 unfold mHas
 rw[mGet_put]
 by_cases h:p=q<;>simp [h]
theorem mHas_get {V:Type} {l:List (Int × V)} {q:Int} (h:mHas l q=true):∃v,mGet l q=some v:=Option.isSome_iff_exists.1 h
end Go.Ws
