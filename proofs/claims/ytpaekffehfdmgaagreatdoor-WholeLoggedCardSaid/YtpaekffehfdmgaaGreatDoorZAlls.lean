/-
  First in the document's way, and All, plain; the laws SumSums, SumFirst.
  Conditions: none.
-/
import Derived.Test.YtpaekffehfdmgaaGreatDoorZFrames
set_option linter.unusedVariables false
set_option linter.unusedSimpArgs false
namespace Go.Ws
set_option linter.unusedVariables false
set_option linter.unusedSimpArgs false
set_option maxHeartbeats 1000000

theorem aKT {b:List Int} (hb:gV b) (h:(first b).2.2=0):∃n:Nat,(first b).2.1=(n:Int)∧7≤n∧n≤b.length:=by
 match b,hb,h with
 | [],hb,h=>simp [first] at h
 | [b0],hb,h=>simp [first] at h
 | [b0,b1],hb,h=>simp [first] at h
 | b0::b1::b2::r,hb,h =>
  have k1:=hb b1 (by simp)
  have k2:=hb b2 (by simp)
  unfold first at h ⊢
  simp only at h ⊢
  split at h
  · rename_i hc
    rw[if_pos hc]
    split at h
    · rename_i hc2
      rw[if_pos hc2]
      exact⟨(b1*256+b2+7).toNat,by simp only;omega,by omega,by simp only[List.length_cons];omega⟩
    · simp at h
  · simp at h

def allx:Nat→List Int→List (List Int) × Nat
 | 0,_=>([],0)
 | k+1,b=>if (first b).2.2=0 then ((first b).1::(allx k (b.drop (first b).2.1.toNat)).1,(first b).2.1.toNat+(allx k (b.drop (first b).2.1.toNat)).2) else ([],0)
def all (b:List Int):List (List Int) × Nat:=allx (b.length+1) b
theorem allx_any:∀(k j:Nat) (b:List Int),gV b→b.length<k→b.length<j→allx k b=allx j b:=by
 intro k
 induction k with
 | zero=>intro j b _ h;omega
 | succ k ih =>
  intro j b hb h1 h2
  obtain⟨j,rfl⟩:∃i,j=i+1:=⟨j - 1,by omega⟩
  simp only[allx]
  by_cases h:(first b).2.2=0
  · obtain⟨n,e,h7,hn⟩:=aKT hb h
    rw[if_pos h,if_pos h,e,Int.toNat_natCast,ih j (b.drop n) (hb.drop n) (by simp;omega) (by simp;omega)]
  · rw[if_neg h,if_neg h]
theorem all_ok {b:List Int} (hb:gV b) {n:Nat} (h:(first b).2.2=0) (hn:(first b).2.1=(n:Int)):all b=((first b).1::(all (b.drop n)).1,n+(all (b.drop n)).2):=by
 obtain⟨m,e,h7,hm⟩:=aKT hb h
 obtain rfl:n=m:=by omega
 unfold all
 rw[allx,if_pos h,hn,Int.toNat_natCast,allx_any b.length ((b.drop n).length+1) (b.drop n) (hb.drop n) (by simp;omega) (by omega)]
theorem all_no {b:List Int} (h:¬(first b).2.2=0):all b=([],0):=by unfold all;rw[allx,if_neg h]
theorem all_l0 {x:List Int} (hx:gV x) (hl:x.length≤900000):∀(d i:Nat) (v:Int) (out:List (List Int)),x.length - i=d→i≤x.length→v=(i:Int)→out.length≤i →
 rU x v out=some (((i+(all (x.drop i)).2:Nat):Int),out++(all (x.drop i)).1)∧True:=by
 intro d
 induction d using Nat.strongRecOn with
 | _ d ih =>
  intro i v out hd hi hv ho
  have hb:=hx.drop i
  have f1:=first_ok hb (by simp;omega)
  have etn:tN v=i:=by rw[hv,pE]
  by_cases h:(first (x.drop i)).2.2=0
  · obtain⟨n,e,h7,hn⟩:=aKT hb h
    rw[List.length_drop] at hn
    obtain⟨q1,q2⟩:=ih (x.length - (i+n)) (by omega) (i+n) (aH .i64 v (first (x.drop i)).2.1) (out++[(first (x.drop i)).1]) rfl (by omega) (by first|with_reducible rfl | assumption | (simp (disch:=omega) only[ws,wl,wb,e]<;>omega)|omega) (by simp;omega)
    have ha:=all_ok hb h e
    rw[List.drop_drop] at ha
    have e1:i+(all (x.drop i)).2=i+n+(all (x.drop (i+n))).2:=by rw[ha];simp only;omega
    have e2:out++(all (x.drop i)).1=out++[(first (x.drop i)).1]++(all (x.drop (i+n))).1:=by rw[ha];simp
    rw[e1,e2]
    constructor
    · rw[aAN]
      simp only[etn]
      repeat (first|refine ip (by first|with_reducible rfl | assumption | (simp (disch:=omega) only[ws,wl,wb,h]<;>omega)|omega) ?_|refine jn (by first|with_reducible rfl | assumption | (simp (disch:=omega) only[ws,wl,wb,h]<;>omega)|omega) ?_|refine(bnd f1).trans ?_|refine el ?_|refine er ?_)
      exact q1
    · trivial
  · rw[all_no h]
    constructor
    · rw[aAN]
      simp only[etn]
      repeat (first|refine ip (by first|with_reducible rfl | assumption | (simp (disch:=omega) only[ws,wl,wb,h]<;>omega)|omega) ?_|refine jn (by first|with_reducible rfl | assumption | (simp (disch:=omega) only[ws,wl,wb,h]<;>omega)|omega) ?_|refine(bnd f1).trans ?_|refine el ?_|refine er ?_)
      rw[hv];simp
    · trivial
theorem sum_all {x:List Int} (hx:gV x) (hl:x.length≤900000):yJ x=some (((all x).2:Int),(all x).1):=by
 have q:=(all_l0 hx hl _ 0 0 [] rfl (by omega) rfl (by simp)).1
 rw[yJ]
 repeat (first|refine ip0 ?_|refine jn0 ?_|refine(bnd q).trans ?_)
 simp
end Go.Ws
