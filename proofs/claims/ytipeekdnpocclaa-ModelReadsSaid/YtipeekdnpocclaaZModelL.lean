/-
  What model.Ledger and Undone come to.
  Conditions: none.
-/
import Derived.Test.YtipeekdnpocclaaZModelT
set_option linter.unusedVariables false
set_option linter.unusedSimpArgs false
namespace Go.Ws.L10
open L7 L8 L9
set_option linter.unusedVariables false
set_option linter.unusedSimpArgs false
set_option maxHeartbeats 1000000
theorem aNE (c:Int→Bool) (r:Rec) (l:List Rec):yN c (r::l)=(if r.1=3∧c r.2.1=true then [r.2.2] else [])++yN c l:=by
 rw[← zB];exact yG c [r] l
theorem aRT (c:Int→Bool) (l:List Rec):(yN c l).length≤l.length:=by unfold yN;rw[List.length_map];exact List.length_filter_le _ _
theorem aW4 {x1:List Rec} {o:List (Int × Int)} (hml:x1.length≤1000000):∀(d i:Nat) (v:Int) (a:Dl),x1.length - i=d→i≤x1.length→v=(i:Int)→a.length≤i→iP x1 o v a=some (a++yN (fun t=>isO o t 1) (x1.drop i)):=by
 intro d
 induction d with
 | zero =>
  intro i v a hd hi hv ha
  rw[List.drop_of_length_le (by omega),kZ]
  repeat (first|refine ip0 ?_|refine jn0 ?_|refine el ?_|refine er ?_)
  rw[show yN (fun t=>isO o t 1) []=[] from rfl,List.append_nil]
 | succ d ih =>
  intro i v a hd hi hv ha
  have hlt:i<x1.length:=by omega
  have r0:=ih (i+1) (aL .i64 v 1) a (by omega) (by omega) sd (by omega)
  have r1:=ih (i+1) (aL .i64 v 1) (a++[x1[i].2.2]) (by omega) (by omega) sd (by simp;omega)
  rw[List.drop_eq_getElem_cons hlt,aNE]
  by_cases h3:x1[i].1=3
  · cases hg:bD o x1[i].2.1 with
    | none =>
     have hh:¬o8 o x1[i].2.1=true:=by rw[has_f hg];simp
     rw[if_neg (fun h=>by have:=h.2;rw[isO_f hg] at this;cases this),List.nil_append,kZ]
     repeat (first|refine ip0 ?_|refine jn0 ?_|refine(bnd (cU hv hlt)).trans ?_|refine el ?_|refine er ?_)
     exact r0
    | some w =>
     have hh:=aNQ hg
     by_cases h1:w=1
     · rw[if_pos ⟨h3,by rw[aNM hg];exact cA.2 h1⟩,← List.append_assoc,kZ]
       repeat (first|refine ip0 ?_|refine jn0 ?_|refine(bnd (cU hv hlt)).trans ?_|refine(bnd hg).trans ?_|refine el ?_|refine er ?_)
       exact r1
     · rw[if_neg (fun h=>by have:=h.2;rw[aNM hg] at this;exact h1 (cA.1 this)),List.nil_append,kZ]
       repeat (first|refine ip0 ?_|refine jn0 ?_|refine(bnd (cU hv hlt)).trans ?_|refine(bnd hg).trans ?_|refine el ?_|refine er ?_)
       exact r0
  · rw[if_neg (fun h=>h3 h.1),List.nil_append,kZ]
    repeat (first|refine ip0 ?_|refine jn0 ?_|refine(bnd (cU hv hlt)).trans ?_|refine el ?_|refine er ?_)
    exact r0
def aJN (l:List Rec):Dl:=yN (fun t=>isO (kO [] l) t 1) l
theorem ledG_ok {l:List Rec} (hx:wW l) (hk:∀r∈l,r.1=3→0≤r.2.2.1∧r.2.2.1<64∧InR r.2.2.2):∀x∈aJN l,0≤x.1∧x.1<64∧InR x.2:=by
 intro x hx
 unfold aJN yN at hx
 obtain⟨r,hr,rfl⟩:=List.mem_map.1 hx
 obtain⟨h1,h2⟩:=List.mem_filter.1 hr
 simp only[Bool.and_eq_true] at h2
 exact hk r h1 (cA.1 h2.1)
theorem aT8 {x1:List Rec} (hx:wW x1) (hl:x1.length≤400) (hk:∀r∈x1,r.1=3→0≤r.2.2.1∧r.2.2.1<64∧InR r.2.2.2) (ho:okF ⟨[],[],[],[]⟩ x1=true):iU x1=some (ofL (aJN x1),0):=by
 have h1:=(aA4 hx hl).1 ho
 have h2:=aW4 (x1:=x1) (o:=kO [] x1) (by omega) _ 0 0 [] rfl (by omega) rfl (Nat.le_refl _)
 rw[List.drop_zero,List.nil_append] at h2
 have h3:=put_t (l:=[]) (d:=aJN x1) (aKK.led) (ledG_ok hx hk) (by have:=aRT (fun t=>isO (kO [] x1) t 1) x1;unfold aJN;omega)
 rw[List.nil_append] at h3
 unfold aJN at h3
 rw[iU]
 refine(bnd h1).trans ?_
 repeat (first|refine ip0 ?_|refine jn0 ?_|refine(bnd h2).trans ?_|refine(bnd h3).trans ?_|refine el ?_|refine er ?_)
 rfl
theorem aUF {x1:List Rec} (hx:wW x1) (hl:x1.length≤400) (ho:okF ⟨[],[],[],[]⟩ x1=false):iU x1=some ([],4):=by
 have h1:=(aA4 hx hl).2 ho
 rw[iU]
 refine(bnd h1).trans ?_
 rfl
theorem aTW {x1:List Rec} (hx:wW x1) (hl:x1.length≤400) (ho:okF ⟨[],[],[],[]⟩ x1=true):iV x1=some (((cntU (kO [] x1) x1:Nat):Int),0):=by
 have h1:=(aA4 hx hl).1 ho
 have h2:=aX4 (x1:=x1) (o:=kO [] x1) (by omega) _ 0 0 0 0 rfl (by omega) rfl rfl (Nat.le_refl _)
 rw[List.drop_zero,Nat.zero_add] at h2
 rw[iV]
 refine(bnd h1).trans ?_
 repeat (first|refine ip0 ?_|refine jn0 ?_|refine(bnd h2).trans ?_|refine el ?_|refine er ?_)
 rfl
theorem aW2 {x1:List Rec} (hml:x1.length≤1000000):∀(d i:Nat) (v:Int),x1.length - i=d→i≤x1.length→v=(i:Int)→m5 x1 v=some ():=by
 intro d
 induction d with
 | zero =>
  intro i v hd hi hv
  rw[wP]
  repeat (first|refine ip0 ?_|refine jn0 ?_|refine el ?_|refine er ?_)
  rfl
 | succ d ih =>
  intro i v hd hi hv
  have hlt:i<x1.length:=by omega
  rw[wP]
  repeat (first|refine ip0 ?_|refine jn0 ?_|refine(bnd (cU hv hlt)).trans ?_|refine el ?_|refine er ?_)
  exact ih (i+1) _ (by omega) (by omega) sd
theorem aUK {x1:List Rec} (hx:wW x1) (hl:x1.length≤400) (ho:okF ⟨[],[],[],[]⟩ x1=false):iV x1=some (0,4):=by
 have h1:=(aA4 hx hl).2 ho
 have h2:=aW2 (x1:=x1) (by omega) _ 0 0 rfl (by omega) rfl
 rw[iV]
 refine(bnd h1).trans ?_
 repeat (first|refine ip0 ?_|refine jn0 ?_|refine(bnd h2).trans ?_|refine el ?_|refine er ?_)
 rfl
end Go.Ws.L10
