/-
  What model.Ledger and Undone come to.
  Conditions: none.
-/
import Derived.Test.YtipeekdnpocclaaZModelT
set_option linter.unusedVariables false
set_option linter.unusedSimpArgs false
namespace Go.Ws.L10
open L7 L8 L9
set_option linter.unusedVariables false
set_option linter.unusedSimpArgs false
set_option maxHeartbeats 1000000
theorem aN1 (c:Int→Bool) (r:Rec) (l:List Rec):zL c (r::l)=(if r.1=3∧c r.2.1=true then [r.2.2] else [])++zL c l:=by
 rw[← yK];exact yU c [r] l
theorem aRW (c:Int→Bool) (l:List Rec):(zL c l).length≤l.length:=by unfold zL;rw[List.length_map];exact List.length_filter_le _ _
theorem aW6 {x1:List Rec} {o:List (Int × Int)} (hml:x1.length≤1000000):∀(d i:Nat) (v:Int) (a:Dl),x1.length - i=d→i≤x1.length→v=(i:Int)→a.length≤i→iP x1 o v a=some (a++zL (fun t=>isO o t 1) (x1.drop i)):=by
 intro d
 induction d with
 | zero =>
  intro i v a hd hi hv ha
  rw[List.drop_of_length_le (by omega),kR]
  rnz[][]
  rw[show zL (fun t=>isO o t 1) []=[] from rfl,List.append_nil]
 | succ d ih =>
  intro i v a hd hi hv ha
  have hlt:i<x1.length:=by omega
  have r0:=ih (i+1) (aL .i64 v 1) a (by omega) (by omega) (by sdz[]) (by omega)
  have r1:=ih (i+1) (aL .i64 v 1) (a++[x1[i].2.2]) (by omega) (by omega) (by sdz[]) (by simp;omega)
  rw[List.drop_eq_getElem_cons hlt,aN1]
  by_cases h3:x1[i].1=3
  · cases hg:bD o x1[i].2.1 with
    | none =>
     have hh:¬pD o x1[i].2.1=true:=by rw[has_f hg];simp
     rw[if_neg (fun h=>by have:=h.2;rw[isO_f hg] at this;cases this),List.nil_append,kR]
     rnz[][(cU hv hlt)]
     exact r0
    | some w =>
     have hh:=aNN hg
     by_cases h1:w=1
     · rw[if_pos ⟨h3,by rw[aNV hg];exact cA.2 h1⟩,← List.append_assoc,kR]
       rnz[][(cU hv hlt),hg]
       exact r1
     · rw[if_neg (fun h=>by have:=h.2;rw[aNV hg] at this;exact h1 (cA.1 this)),List.nil_append,kR]
       rnz[][(cU hv hlt),hg]
       exact r0
  · rw[if_neg (fun h=>h3 h.1),List.nil_append,kR]
    rnz[][(cU hv hlt)]
    exact r0
def aJL (l:List Rec):Dl:=zL (fun t=>isO (kL [] l) t 1) l
theorem ledG_ok {l:List Rec} (hx:wT l) (hk:∀r∈l,r.1=3→0≤r.2.2.1∧r.2.2.1<64∧InR r.2.2.2):∀x∈aJL l,0≤x.1∧x.1<64∧InR x.2:=by
 intro x hx
 unfold aJL zL at hx
 obtain⟨r,hr,rfl⟩:=List.mem_map.1 hx
 obtain⟨h1,h2⟩:=List.mem_filter.1 hr
 simp only[Bool.and_eq_true] at h2
 exact hk r h1 (cA.1 h2.1)
theorem aTQ {x1:List Rec} (hx:wT x1) (hl:x1.length≤400) (hk:∀r∈x1,r.1=3→0≤r.2.2.1∧r.2.2.1<64∧InR r.2.2.2) (ho:okF ⟨[],[],[],[]⟩ x1=true):iV x1=some (ofL (aJL x1),0):=by
 have h1:=(aAL hx hl).1 ho
 have h2:=aW6 (x1:=x1) (o:=kL [] x1) (by omega) _ 0 0 [] rfl (by omega) rfl (Nat.le_refl _)
 rw[List.drop_zero,List.nil_append] at h2
 have h3:=put_t (l:=[]) (d:=aJL x1) (aJ7.led) (ledG_ok hx hk) (by have:=aRW (fun t=>isO (kL [] x1) t 1) x1;unfold aJL;omega)
 rw[List.nil_append] at h3
 unfold aJL at h3
 rw[iV]
 refine(bnd h1).trans ?_
 rnz[][h2,h3]
 rfl
theorem aT6 {x1:List Rec} (hx:wT x1) (hl:x1.length≤400) (ho:okF ⟨[],[],[],[]⟩ x1=false):iV x1=some ([],4):=by
 have h1:=(aAL hx hl).2 ho
 rw[iV]
 refine(bnd h1).trans ?_
 rfl
theorem aUD {x1:List Rec} (hx:wT x1) (hl:x1.length≤400) (ho:okF ⟨[],[],[],[]⟩ x1=true):iU x1=some (((cntU (kL [] x1) x1:Nat):Int),0):=by
 have h1:=(aAL hx hl).1 ho
 have h2:=aWW (x1:=x1) (o:=kL [] x1) (by omega) _ 0 0 0 0 rfl (by omega) rfl rfl (Nat.le_refl _)
 rw[List.drop_zero,Nat.zero_add] at h2
 rw[iU]
 refine(bnd h1).trans ?_
 rnz[][h2]
 rfl
theorem aW2 {x1:List Rec} (hml:x1.length≤1000000):∀(d i:Nat) (v:Int),x1.length - i=d→i≤x1.length→v=(i:Int)→mZ x1 v=some ():=by
 intro d
 induction d with
 | zero =>
  intro i v hd hi hv
  rw[wP]
  rnz[][]
  rfl
 | succ d ih =>
  intro i v hd hi hv
  have hlt:i<x1.length:=by omega
  rw[wP]
  rnz[][(cU hv hlt)]
  exact ih (i+1) _ (by omega) (by omega) (by sdz[])
theorem aTV {x1:List Rec} (hx:wT x1) (hl:x1.length≤400) (ho:okF ⟨[],[],[],[]⟩ x1=false):iU x1=some (0,4):=by
 have h1:=(aAL hx hl).2 ho
 have h2:=aW2 (x1:=x1) (by omega) _ 0 0 rfl (by omega) rfl
 rw[iU]
 refine(bnd h1).trans ?_
 rnz[][h2]
 rfl
end Go.Ws.L10
