/-
  What model.Ledger and Undone come to.
  Conditions: none.
-/
import Derived.Test.YtipeekdnpocclaaZModelT
set_option linter.unusedVariables false
set_option linter.unusedSimpArgs false
namespace Go.Ws.L10
open L7 L8 L9
set_option linter.unusedVariables false
set_option linter.unusedSimpArgs false
set_option maxHeartbeats 1000000
theorem aQS (c:Int→Bool) (r:Rec) (l:List Rec):r8 c (r::l)=(if r.1=3∧c r.2.1=true then [r.2.2] else [])++r8 c l:=by
 rw[← sY];exact s5 c [r] l
theorem ledC_len (c:Int→Bool) (l:List Rec):(r8 c l).length≤l.length:=by unfold r8;rw[List.length_map];exact List.length_filter_le _ _
theorem aRJ {x1:List Rec} {o:List (Int × Int)} (hml:x1.length≤1000000):∀(d i:Nat) (v:Int) (a:Dl),x1.length - i=d→i≤x1.length→v=(i:Int)→a.length≤i→gG x1 o v a=some (a++r8 (fun t=>isO o t 1) (x1.drop i)):=by
 intro d
 induction d with
 | zero =>
  intro i v a hd hi hv ha
  rw[List.drop_of_length_le (by omega),i7]
  rnz[][]
  rw[show r8 (fun t=>isO o t 1) []=[] from rfl,List.append_nil]
 | succ d ih =>
  intro i v a hd hi hv ha
  have hlt:i<x1.length:=by omega
  have r0:=ih (i+1) (aH .i64 v 1) a (by omega) (by omega) (by sdz[]) (by omega)
  have r1:=ih (i+1) (aH .i64 v 1) (a++[x1[i].2.2]) (by omega) (by omega) (by sdz[]) (by simp;omega)
  rw[List.drop_eq_getElem_cons hlt,aQS]
  by_cases h3:x1[i].1=3
  · cases hg:bC o x1[i].2.1 with
    | none =>
     have hh:¬lB o x1[i].2.1=true:=by rw[has_f hg];simp
     rw[if_neg (fun h=>by have:=h.2;rw[isO_f hg] at this;cases this),List.nil_append,i7]
     rnz[][(eJ hv hlt)]
     exact r0
    | some w =>
     have hh:=aMG hg
     by_cases h1:w=1
     · rw[if_pos ⟨h3,by rw[isO_t hg];exact dM.2 h1⟩,← List.append_assoc,i7]
       rnz[][(eJ hv hlt),hg]
       exact r1
     · rw[if_neg (fun h=>by have:=h.2;rw[isO_t hg] at this;exact h1 (dM.1 this)),List.nil_append,i7]
       rnz[][(eJ hv hlt),hg]
       exact r0
  · rw[if_neg (fun h=>h3 h.1),List.nil_append,i7]
    rnz[][(eJ hv hlt)]
    exact r0
def aA0 (l:List Rec):Dl:=r8 (fun t=>isO (kH [] l) t 1) l
theorem ledG_ok {l:List Rec} (hx:xZ l) (hk:∀r∈l,r.1=3→0≤r.2.2.1∧r.2.2.1<64∧InR r.2.2.2):∀x∈aA0 l,0≤x.1∧x.1<64∧InR x.2:=by
 intro x hx
 unfold aA0 r8 at hx
 obtain⟨r,hr,rfl⟩:=List.mem_map.1 hx
 obtain⟨h1,h2⟩:=List.mem_filter.1 hr
 simp only[Bool.and_eq_true] at h2
 exact hk r h1 (dM.1 h2.1)
theorem aHF {x1:List Rec} (hx:xZ x1) (hl:x1.length≤400) (hk:∀r∈x1,r.1=3→0≤r.2.2.1∧r.2.2.1<64∧InR r.2.2.2) (ho:okF ⟨[],[],[],[]⟩ x1=true):i8 x1=some (ofL (aA0 x1),0):=by
 have h1:=(mread_ok hx hl).1 ho
 have h2:=aRJ (x1:=x1) (o:=kH [] x1) (by omega) _ 0 0 [] rfl (by omega) rfl (Nat.le_refl _)
 rw[List.drop_zero,List.nil_append] at h2
 have h3:=put_t (l:=[]) (d:=aA0 x1) (aJD.led) (ledG_ok hx hk) (by have:=ledC_len (fun t=>isO (kH [] x1) t 1) x1;unfold aA0;omega)
 rw[List.nil_append] at h3
 unfold aA0 at h3
 rw[i8]
 refine(bnd h1).trans ?_
 rnz[][h2,h3]
 rfl
end Go.Ws.L10
