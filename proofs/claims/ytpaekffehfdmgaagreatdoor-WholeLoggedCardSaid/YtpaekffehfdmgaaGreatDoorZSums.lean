/-
  The check sum, plain: by parts of three thousand, and by single bytes, it is the same; what it is.
  Conditions: none.
-/
import Derived.Test.YtpaekffehfdmgaaGreatDoorZPlain
set_option linter.unusedVariables false
set_option linter.unusedSimpArgs false
namespace Go.Ws
set_option linter.unusedVariables false
set_option linter.unusedSimpArgs false
set_option maxHeartbeats 1000000

theorem aQW {a b:Int} (h:0≤a):a.tmod b=a % b:=Int.tmod_eq_emod_of_nonneg h

def stepR (p:Int × Int) (c:Int):Int × Int:=((p.1+c) % 65521,(p.2+(p.1+c) % 65521) % 65521)
def zP (f:Nat→Int) (p:Int × Int):Nat→Int × Int
 | 0=>p
 | j+1=>stepR (zP f p j) (f j)

def red (p:Int × Int):Prop:=0≤p.1∧p.1<65521∧0≤p.2∧p.2<65521

theorem aUR (p:Int × Int) (c:Int):red (stepR p c):=by
 unfold red stepR
 refine⟨?_,?_,?_,?_⟩<;>omega

theorem aKG {f:Nat→Int} {p:Int × Int} (hp:red p):∀j,red (zP f p j)
 | 0=>hp
 | j+1=>aUR _ _

theorem aQN (f:Nat→Int) (p:Int × Int) (a:Nat):∀b,zP f p (a+b)=zP (fun j=>f (a+j)) (zP f p a) b
 | 0=>rfl
 | b+1=>by
  show stepR (zP f p (a+b)) (f (a+b))=_
  rw[aQN f p a b]
  rfl

theorem aQG {f:Nat→Int} (hf:∀j,0≤f j∧f j<256) {p:Int × Int} (hp:red p):∀j,j≤3000 →
 (0≤(xS f p j).1∧(xS f p j).1≤65520+255*j)∧(0≤(xS f p j).2∧(xS f p j).2≤65520+830520*j) ∧
 (zP f p j).1=(xS f p j).1 % 65521∧(zP f p j).2=(xS f p j).2 % 65521
 | 0,_=>by
  obtain⟨h1,h2,h3,h4⟩:=hp
  simp only[xS,zP]
  refine⟨⟨h1,by omega⟩,⟨h3,by omega⟩,?_,?_⟩<;>omega
 | j+1,hj=>by
  obtain⟨⟨a1,a2⟩,⟨b1,b2⟩,c1,c2⟩:=aQG hf hp j (by omega)
  obtain⟨f1,f2⟩:=hf j
  have hc:((j:Int))+1≤3000:=by omega
  have e1:(xS f p (j+1)).1=(xS f p j).1+f j:=by
   show ((xS f p j).1+f j) % 4294967296=_
   omega
  have e2:(xS f p (j+1)).2=(xS f p j).2+((xS f p j).1+f j):=by
   show ((xS f p j).2+((xS f p j).1+f j)) % 4294967296=_
   omega
  have r1:(zP f p (j+1)).1=((zP f p j).1+f j) % 65521:=rfl
  have r2:(zP f p (j+1)).2=((zP f p j).2+((zP f p j).1+f j) % 65521) % 65521:=rfl
  rw[e1,e2,r1,r2,c1,c2]
  push_cast
  refine⟨⟨by omega,by omega⟩,⟨by omega,by omega⟩,?_,?_⟩<;>omega

theorem aOE:red (1,0):=⟨by decide,by decide,by decide,by decide⟩

theorem sumT_ref {f:Nat→Int} (hf:∀j,0≤f j∧f j<256) (L:Nat) {p:Int × Int} (hp:red p) (k:Nat) :
 sumT f L p k=zP (fun j=>f (k*3000+j)) p (min 3000 (L - k*3000)):=by
 obtain⟨⟨a1,a2⟩,⟨b1,b2⟩,c1,c2⟩:=aQG (f:=fun j=>f (k*3000+j)) (fun j=>hf _) hp (min 3000 (L - k*3000)) (by omega)
 unfold sumT
 rw[aQW a1,aQW b1,← c1,← c2]

theorem aQU {f:Nat→Int} (hf:∀j,0≤f j∧f j<256) (L:Nat):∀k,aE0 f L (List.range k)=zP f (1,0) (min L (k*3000))
 | 0=>by simp [aE0,zP]
 | k+1=>by
  rw[List.range_succ,aHC,aQU hf L k,sumT_ref hf L (aKG aOE _)]
  by_cases h:k*3000≤L
  · rw[show min L (k*3000)=k*3000 by omega,← aQN]
    congr 1
    omega
  · rw[show min 3000 (L - k*3000)=0 by omega,show min L (k*3000)=min L ((k+1)*3000) by omega]
    rfl

theorem or_shift {x y:Int} (hx:0≤x∧x<65536) (hy:0≤y∧y<65536):bits BinOp.or IntKind.u32 (y*65536 % 4294967296) x=y*65536+x:=by
 obtain⟨a,rfl⟩:=Int.eq_ofNat_of_zero_le hx.1
 obtain⟨b,rfl⟩:=Int.eq_ofNat_of_zero_le hy.1
 have e:((b:Int)*65536 % 4294967296)=((b*65536:Nat):Int):=by omega
 rw[e]
 have h:(b*65536) ||| a=b*65536+a:=by
  rw[show b*65536=2 ^ 16*b by omega]
  rw[← Nat.two_pow_add_eq_or_of_lt (i:=16) (by omega) b]
 unfold bits
 have e1:(BitVec.ofInt 32 ((b*65536:Nat):Int) ||| BitVec.ofInt 32 (a:Int)).toNat=b*65536+a:=by
  rw[BitVec.toNat_or,BitVec.ofInt_natCast,BitVec.ofInt_natCast,BitVec.toNat_ofNat,BitVec.toNat_ofNat,Nat.mod_eq_of_lt (by omega),Nat.mod_eq_of_lt (by omega),h]
 show IntKind.u32.wrap ((BitVec.ofInt 32 ((b*65536:Nat):Int) ||| BitVec.ofInt 32 (a:Int)).toNat:Int)=_
 rw[e1,aKN (by omega)]
 omega

def zM (l:List Int):Int:=(zP (fun j=>l.getD j 0) (1,0) l.length).2*65536+(zP (fun j=>l.getD j 0) (1,0) l.length).1

theorem aRV {l:List Int} (h:gV l) (j:Nat):0≤l.getD j 0∧l.getD j 0<256:=by
 by_cases hj:j<l.length
 · have:=h _ (List.getElem_mem hj)
   simpa [hj] using this
 · simp [List.getElem?_eq_none (show l.length≤j by omega)]

theorem aUP {l:List Int} (h:gV l):aKS l=zM l:=by
 unfold aKS sumV zM
 rw[aQU (aRV h),show min l.length ((l.length+2999) / 3000*3000)=l.length by omega]
 obtain⟨h1,h2,h3,h4⟩:=aKG (f:=fun j=>l.getD j 0) aOE l.length
 exact or_shift ⟨h1,by omega⟩ ⟨h3,by omega⟩

theorem sumP_ok {l:List Int} (h:gV l) (hl:l.length≤140737488351232):sumP l=some (zM l):=by
 unfold sumP
 rw[if_pos ⟨hl,h⟩,aUP h]


theorem sum_ok {l:List Int} (h:gV l) (hl:l.length≤1000000):uA l=some (zM l):=by
 rw[uA,sumP_ok h (by omega)]

theorem aNT (l:List Int):0≤zM l∧zM l<4294967296:=by
 obtain⟨h1,h2,h3,h4⟩:=aKG (f:=fun j=>l.getD j 0) aOE l.length
 unfold zM
 omega

end Go.Ws
