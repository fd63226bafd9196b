/-
  What model.Ledger and Undone come to.
  Conditions: none.
-/
import Derived.Test.YtipeekdnpocclaaZModelT
set_option linter.unusedVariables false
set_option linter.unusedSimpArgs false
namespace Go.Ws.L10
open L7 L8 L9
set_option linter.unusedVariables false
set_option linter.unusedSimpArgs false
set_option maxHeartbeats 1000000
theorem aOU (c:Int→Bool) (r:Rec) (l:List Rec):uH c (r::l)=(if r.1=3∧c r.2.1=true then [r.2.2] else [])++uH c l:=by
 rw[← tG];exact sQ c [r] l
theorem ledC_len (c:Int→Bool) (l:List Rec):(uH c l).length≤l.length:=by unfold uH;rw[List.length_map];exact List.length_filter_le _ _
theorem aOT {x1:List Rec} {o:List (Int × Int)} (hml:x1.length≤1000000):∀(d i:Nat) (v:Int) (a:Dl),x1.length - i=d→i≤x1.length→v=(i:Int)→a.length≤i→gA x1 o v a=some (a++uH (fun t=>isO o t 1) (x1.drop i)):=by
 intro d
 induction d with
 | zero =>
  intro i v a hd hi hv ha
  rw[List.drop_of_length_le (by omega),iS]
  repeat (first|refine ip0 ?_|refine jn0 ?_|refine el ?_|refine er ?_)
  rw[show uH (fun t=>isO o t 1) []=[] from rfl,List.append_nil]
 | succ d ih =>
  intro i v a hd hi hv ha
  have hlt:i<x1.length:=by omega
  have r0:=ih (i+1) (aH .i64 v 1) a (by omega) (by omega) sd (by omega)
  have r1:=ih (i+1) (aH .i64 v 1) (a++[x1[i].2.2]) (by omega) (by omega) sd (by simp;omega)
  rw[List.drop_eq_getElem_cons hlt,aOU]
  by_cases h3:x1[i].1=3
  · cases hg:bD o x1[i].2.1 with
    | none =>
     have hh:¬kS o x1[i].2.1=true:=by rw[has_f hg];simp
     rw[if_neg (fun h=>by have:=h.2;rw[isO_f hg] at this;cases this),List.nil_append,iS]
     repeat (first|refine ip0 ?_|refine jn0 ?_|refine(bnd (eA hv hlt)).trans ?_|refine el ?_|refine er ?_)
     exact r0
    | some w =>
     have hh:=aG4 hg
     by_cases h1:w=1
     · rw[if_pos ⟨h3,by rw[isO_t hg];exact cQ.2 h1⟩,← List.append_assoc,iS]
       repeat (first|refine ip0 ?_|refine jn0 ?_|refine(bnd (eA hv hlt)).trans ?_|refine(bnd hg).trans ?_|refine el ?_|refine er ?_)
       exact r1
     · rw[if_neg (fun h=>by have:=h.2;rw[isO_t hg] at this;exact h1 (cQ.1 this)),List.nil_append,iS]
       repeat (first|refine ip0 ?_|refine jn0 ?_|refine(bnd (eA hv hlt)).trans ?_|refine(bnd hg).trans ?_|refine el ?_|refine er ?_)
       exact r0
  · rw[if_neg (fun h=>h3 h.1),List.nil_append,iS]
    repeat (first|refine ip0 ?_|refine jn0 ?_|refine(bnd (eA hv hlt)).trans ?_|refine el ?_|refine er ?_)
    exact r0
def aCQ (l:List Rec):Dl:=uH (fun t=>isO (lJ [] l) t 1) l
theorem ledG_ok {l:List Rec} (hx:yA l) (hk:∀r∈l,r.1=3→0≤r.2.2.1∧r.2.2.1<64∧InR r.2.2.2):∀x∈aCQ l,0≤x.1∧x.1<64∧InR x.2:=by
 intro x hx
 unfold aCQ uH at hx
 obtain⟨r,hr,rfl⟩:=List.mem_map.1 hx
 obtain⟨h1,h2⟩:=List.mem_filter.1 hr
 simp only[Bool.and_eq_true] at h2
 exact hk r h1 (cQ.1 h2.1)
theorem aMA {x1:List Rec} (hx:yA x1) (hl:x1.length≤400) (hk:∀r∈x1,r.1=3→0≤r.2.2.1∧r.2.2.1<64∧InR r.2.2.2) (ho:okF ⟨[],[],[],[]⟩ x1=true):jL x1=some (ofL (aCQ x1),0):=by
 have h1:=(aKO hx hl).1 ho
 have h2:=aOT (x1:=x1) (o:=lJ [] x1) (by omega) _ 0 0 [] rfl (by omega) rfl (Nat.le_refl _)
 rw[List.drop_zero,List.nil_append] at h2
 have h3:=put_t (l:=[]) (d:=aCQ x1) (aJF.led) (ledG_ok hx hk) (by have:=ledC_len (fun t=>isO (lJ [] x1) t 1) x1;unfold aCQ;omega)
 rw[List.nil_append] at h3
 unfold aCQ at h3
 rw[jL]
 refine(bnd h1).trans ?_
 repeat (first|refine ip0 ?_|refine jn0 ?_|refine(bnd h2).trans ?_|refine(bnd h3).trans ?_|refine el ?_|refine er ?_)
 rfl
end Go.Ws.L10
