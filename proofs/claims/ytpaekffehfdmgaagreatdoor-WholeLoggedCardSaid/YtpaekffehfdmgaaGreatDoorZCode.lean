/-
  A site's record as bytes, and back, plainly.
  Conditions: none.
-/
import Derived.Test.YtpaekffehfdmgaaGreatDoorZPlain
import Derived.Test.YtpaekffehfdmgaaGreatDoorZB2
import Derived.KernelRfl
set_option linter.unusedVariables false
set_option linter.unusedSimpArgs false
namespace Go.Ws.L99
open Go.Ws
set_option linter.unusedVariables false
set_option linter.unusedSimpArgs false
set_option maxHeartbeats 1000000
theorem xor_n {m:Nat} (h:m<18446744073709551616):m ^^^ 9223372036854775808=if m<9223372036854775808 then m+9223372036854775808 else m - 9223372036854775808:=by
 have h1:(m ^^^ 9223372036854775808) % 2 ^ 63=m % 2 ^ 63:=by
  rw[Nat.xor_mod_two_pow];simp
 have h2:(m ^^^ 9223372036854775808) / 2 ^ 63=(m / 2 ^ 63) ^^^ 1:=by
  rw[Nat.xor_div_two_pow]
 have h3:m / 2 ^ 63=0∨m / 2 ^ 63=1:=by omega
 rcases h3 with h3 | h3
 · rw[h3] at h2
   rw[if_pos (by omega)]
   have:(0 ^^^ 1:Nat)=1:=rfl
   omega
 · rw[h3] at h2
   rw[if_neg (by omega)]
   have:(1 ^^^ 1:Nat)=0:=rfl
   omega
theorem xor63 {m:Nat} (h:m<18446744073709551616):ixor .u64 (m:Int) 9223372036854775808=if m<9223372036854775808 then (m:Int)+9223372036854775808 else (m:Int) - 9223372036854775808:=by
 have e:(BitVec.ofInt 64 (m:Int) ^^^ BitVec.ofInt 64 (9223372036854775808:Int)).toNat=m ^^^ 9223372036854775808:=by
  rw[BitVec.toNat_xor,BitVec.ofInt_natCast,BitVec.toNat_ofNat,Nat.mod_eq_of_lt (by omega)];rfl
 show IntKind.u64.wrap ((BitVec.ofInt 64 (m:Int) ^^^ BitVec.ofInt 64 (9223372036854775808:Int)).toNat:Int)=_
 rw[e,xor_n h]
 split
 · rw[aFB (by omega)];omega
 · rw[aFB (by omega)];omega
theorem sign_ok {n:Int} (h : -9223372036854775808≤n∧n≤9223372036854775807):kF n=n+9223372036854775808:=by
 have e:conv .u64 n=((n % 18446744073709551616).toNat:Int):=by
  show IntKind.u64.wrap n=_
  simp [IntKind.wrap,IntKind.bits,IntKind.signed];omega
 unfold kF
 rw[e,xor63 (by omega)]
 split<;>omega
theorem aVE {u:Int} (h:0≤u∧u<18446744073709551616):kZ u=u - 9223372036854775808:=by
 obtain⟨m,rfl⟩:∃m:Nat,u=(m:Int):=⟨u.toNat,by omega⟩
 unfold kZ
 rw[xor63 (by omega)]
 split
 · show IntKind.i64.wrap _=_
   simp [IntKind.wrap,IntKind.bits,IntKind.signed];omega
 · rw[xY (by omega)]
theorem or8 {a c:Int} (ha:0≤a∧a<72057594037927936) (hc:0≤c∧c<256):ior .u64 (gL .u64 a 8) (conv .u64 c)=a*256+c:=by
 obtain⟨m,rfl⟩:∃m:Nat,a=(m:Int):=⟨a.toNat,by omega⟩
 obtain⟨d,rfl⟩:∃d:Nat,c=(d:Int):=⟨c.toNat,by omega⟩
 have e1:gL .u64 (m:Int) 8=((m*256:Nat):Int):=by
  show IntKind.u64.wrap ((m:Int)*2 ^ (min (8:Int).toNat 64))=_
  have:((m:Int)*2 ^ (min (8:Int).toNat 64))=((m*256:Nat):Int):=by
   rw[show (2:Int) ^ (min (8:Int).toNat 64)=256 from rfl];omega
  rw[this,aFB (by omega)]
 rw[e1,aGY (by omega)]
 have h:(m*256) ||| d=m*256+d:=by
  rw[show m*256=2 ^ 8*m by omega]
  rw[← Nat.two_pow_add_eq_or_of_lt (i:=8) (by omega) m]
 have e2:(BitVec.ofInt 64 ((m*256:Nat):Int) ||| BitVec.ofInt 64 (d:Int)).toNat=m*256+d:=by
  rw[BitVec.toNat_or,BitVec.ofInt_natCast,BitVec.ofInt_natCast,BitVec.toNat_ofNat,BitVec.toNat_ofNat,Nat.mod_eq_of_lt (by omega),Nat.mod_eq_of_lt (by omega),h]
 show IntKind.u64.wrap ((BitVec.ofInt 64 ((m*256:Nat):Int) ||| BitVec.ofInt 64 (d:Int)).toNat:Int)=_
 rw[e2,aFB (by omega)]
 omega
theorem sh (x:Int) (n:Nat) (h:n≤64):conv .u8 (aA .u64 x (n:Int))=x / 2 ^ n % 256:=by rw[aFX x n h,aEK]
def b8 (u:Int):List Int:=[u / 2 ^ 56 % 256,u / 2 ^ 48 % 256,u / 2 ^ 40 % 256,u / 2 ^ 32 % 256,u / 2 ^ 24 % 256,u / 2 ^ 16 % 256,u / 2 ^ 8 % 256,u / 2 ^ 0 % 256]
def enc (a t k n:Int):List Int:=[a / 2 ^ 0 % 256]++([t / 2 ^ 8 % 256,t / 2 ^ 0 % 256]++([k / 2 ^ 0 % 256]++b8 (n+9223372036854775808)))
theorem aPD (u:Int):gV (b8 u):=by
 intro x hx
 simp only[b8,List.mem_cons,List.mem_nil_iff,or_false] at hx
 rcases hx with rfl | rfl | rfl | rfl | rfl | rfl | rfl | rfl<;>omega
theorem aL3 (a t k n:Int):gV (enc a t k n) :=
 .append (.cons (by omega) .nil) (.append (.cons (by omega) (.cons (by omega) .nil)) (.append (.cons (by omega) .nil) (aPD _)))
theorem aT2 (a t k n:Int):(enc a t k n).length=12:=rfl
def be:Int→List Int→Int
 | a,[]=>a
 | a,c::l=>be (a*256+c) l
theorem be8 {u:Int} (h:0≤u∧u<18446744073709551616):be 0 (b8 u)=u:=by
 simp only[b8,be]
 omega
section
variable {x2:List Int} {x3:Bool} {y:List Int × Bool}
theorem num_l0 {l:List Int}:∀(r p:List Int) (a v:Int),l=p++r→v=(p.length:Int)→l.length≤8→gV r→0≤a→(a+1)*256 ^ r.length≤18446744073709551616→hS x2 x3 (l,y) a v=some (be a r)
 | [],p,a,v,hl,hv,h8,hb,ha,hm=>by
  have hll:l.length=p.length:=by rw[hl];simp
  rw[oL]
  repeat (first|refine ip (by first|with_reducible rfl | assumption | (simp (disch:=omega) only[ws,wl,wb,hll]<;>omega)|omega) ?_|refine jn (by first|with_reducible rfl | assumption | (simp (disch:=omega) only[ws,wl,wb,hll]<;>omega)|omega) ?_|refine el ?_|refine er ?_)
  rfl
 | c::r,p,a,v,hl,hv,h8,hb,ha,hm=>by
  have hll:l.length=p.length+(r.length+1):=by rw[hl];simp
  have g:l[p.length]? = some c:=by rw[hl];simp
  have hc:=hb c (by simp)
  have hq:(1:Int)≤256 ^ r.length:=by
   have:(0:Int)<256 ^ r.length:=Int.pow_pos (by decide)
   omega
  have hm2:(a+1)*256*256 ^ r.length≤18446744073709551616:=by
   rw[List.length_cons,Int.pow_succ] at hm
   rw[Int.mul_assoc,Int.mul_comm 256]
   exact hm
  have h1:(a+1)*256*1≤(a+1)*256*256 ^ r.length:=Int.mul_le_mul_of_nonneg_left hq (by omega)
  have h2:(a*256+c+1)*256 ^ r.length≤(a+1)*256*256 ^ r.length:=Int.mul_le_mul_of_nonneg_right (by omega) (by omega)
  have ih:=num_l0 (l:=l) r (p++[c]) (a*256+c) (aH .i64 v 1) (by rw[hl];simp) (by rw[hv,qW (by omega)];simp) h8 (fun z hz=>hb z (by simp [hz])) (by omega) (by omega)
  rw[oL]
  repeat (first|refine ip (by first|with_reducible rfl | assumption | (simp (disch:=omega) only[ws,wl,wb,hll]<;>omega)|omega) ?_|refine jn (by first|with_reducible rfl | assumption | (simp (disch:=omega) only[ws,wl,wb,hll]<;>omega)|omega) ?_|refine(bnd (getn hv g)).trans ?_|refine el ?_|refine er ?_)
  rw[or8 (by omega) hc]
  exact ih
end
theorem aOP {w:Int} {p r:List Int} (hw:w=(p.length:Int)) (hp:gV p) (h8:p.length=1∨p.length=2∨p.length=8) (hr:r.length≤1000):fA w (p++r) false=some (be 0 p,r,false):=by
 have hl:(p++r).length=p.length+r.length:=by simp
 have ht:kJ w (p++r) false=some (p,r,false):=by
  rw[kJ]
  repeat (first|refine ip (by first|with_reducible rfl | assumption | (simp (disch:=omega) only[ws,wl,wb,hl]<;>omega)|omega) ?_|refine jn (by first|with_reducible rfl | assumption | (simp (disch:=omega) only[ws,wl,wb,hl]<;>omega)|omega) ?_)
  rw[hw,pE,List.take_left,List.drop_left]
 have hn:=num_l0 (x2:=p++r) (x3:=false) (y:=(r,false)) (l:=p) p [] 0 0 (by simp) rfl (by omega) hp (by omega) (by rcases h8 with h | h | h<;>rw[h]<;>decide)
 rw[fA]
 repeat (first|refine ip0 ?_|refine jn0 ?_|refine(bnd ht).trans ?_|refine(bnd hn).trans ?_)
 rfl
theorem aU5 (a t k n:Int) (h : -9223372036854775808≤n∧n≤9223372036854775807) :
 pV (enc a t k n)=some ([(a % 256,ByteArray.mk #[]),(t / 256 % 256*256+t % 256,ByteArray.mk #[]),(k % 256,ByteArray.mk #[]),(n+9223372036854775808,ByteArray.mk #[])],0):=by
 have n1:=aOP (w:=1) (p:=[a / 2 ^ 0 % 256]) (r:=[t / 2 ^ 8 % 256,t / 2 ^ 0 % 256]++([k / 2 ^ 0 % 256]++b8 (n+9223372036854775808))) rfl (.cons (by omega) .nil) (.inl rfl) (by simp [b8])
 have n2:=aOP (w:=2) (p:=[t / 2 ^ 8 % 256,t / 2 ^ 0 % 256]) (r:=[k / 2 ^ 0 % 256]++b8 (n+9223372036854775808)) rfl (.cons (by omega) (.cons (by omega) .nil)) (.inr (.inl rfl)) (by simp [b8])
 have n3:=aOP (w:=1) (p:=[k / 2 ^ 0 % 256]) (r:=b8 (n+9223372036854775808)) rfl (.cons (by omega) .nil) (.inl rfl) (by simp [b8])
 have n4:=aOP (w:=8) (p:=b8 (n+9223372036854775808)) (r:=[]) rfl (aPD _) (.inr (.inr rfl)) (by simp)
 rw[List.append_nil] at n4
 rw[be8 (by omega)] at n4
 simp only[be] at n1 n2 n3
 have l4:∀q,oX (enc a t k n) (0*256+a / 2 ^ 0 % 256,[t / 2 ^ 8 % 256,t / 2 ^ 0 % 256]++([k / 2 ^ 0 % 256]++b8 (n+9223372036854775808)),false) q (0*256+k / 2 ^ 0 % 256,b8 (n+9223372036854775808),false)=some ([],false,[(0*256+a / 2 ^ 0 % 256,ByteArray.mk #[]),(q.1,ByteArray.mk #[]),(0*256+k / 2 ^ 0 % 256,ByteArray.mk #[]),(n+9223372036854775808,ByteArray.mk #[])]):=by
  intro q
  rw[aDK]
  repeat (first|refine ip0 ?_|refine jn0 ?_|refine(bnd n4).trans ?_|refine(bnd (aDE ..)).trans ?_|refine el ?_|refine er ?_)
  rfl
 have l2:=aDM (enc a t k n) (0*256+a / 2 ^ 0 % 256,[t / 2 ^ 8 % 256,t / 2 ^ 0 % 256]++([k / 2 ^ 0 % 256]++b8 (n+9223372036854775808)),false) ((0*256+t / 2 ^ 8 % 256)*256+t / 2 ^ 0 % 256,[k / 2 ^ 0 % 256]++b8 (n+9223372036854775808),false)
 rw[bnd n3,bnd (l4 _)] at l2
 have l1:=aDB (enc a t k n) (0*256+a / 2 ^ 0 % 256,[t / 2 ^ 8 % 256,t / 2 ^ 0 % 256]++([k / 2 ^ 0 % 256]++b8 (n+9223372036854775808)),false)
 rw[bnd n2,bnd l2] at l1
 have l0:=aDW (enc a t k n)
 rw[show enc a t k n=[a / 2 ^ 0 % 256]++([t / 2 ^ 8 % 256,t / 2 ^ 0 % 256]++([k / 2 ^ 0 % 256]++b8 (n+9223372036854775808))) from rfl,bnd n1] at l0
 rw[show [a / 2 ^ 0 % 256]++([t / 2 ^ 8 % 256,t / 2 ^ 0 % 256]++([k / 2 ^ 0 % 256]++b8 (n+9223372036854775808)))=enc a t k n from rfl,bnd l1] at l0
 rw[pV]
 have hl:=aT2 a t k n
 repeat (first|refine ip (by first|with_reducible rfl | assumption | (simp (disch:=omega) only[ws,wl,wb,hl]<;>omega)|omega) ?_|refine jn (by first|with_reducible rfl | assumption | (simp (disch:=omega) only[ws,wl,wb,hl]<;>omega)|omega) ?_|refine(bnd l0).trans ?_|refine el ?_|refine er ?_)
 simp only[show (0*256+a / 2 ^ 0 % 256:Int)=a % 256 by omega,show ((0*256+t / 2 ^ 8 % 256)*256+t / 2 ^ 0 % 256:Int)=t / 256 % 256*256+t % 256 by omega,show (0*256+k / 2 ^ 0 % 256:Int)=k % 256 by omega]
theorem aVN {a t k n:Int} (ha:0≤a∧a<256) (ht:0≤t∧t<65536) (hk:0≤k∧k<256) (h : -9223372036854775808≤n∧n≤9223372036854775807):o4 (enc a t k n)=some (a,t,k,n,0):=by
 have hd:=aU5 a t k n h
 rw[show a % 256=a by omega,show t / 256 % 256*256+t % 256=t by omega,show k % 256=k by omega] at hd
 have u:=aVE (u:=n+9223372036854775808) (by omega)
 have c1:=xY (a:=a) (by omega)
 have c2:=xY (a:=t) (by omega)
 have c3:=conv8 (a:=k) (by omega)
 rw[o4]
 repeat (first|refine ip0 ?_|refine jn0 ?_|refine(bnd hd).trans ?_|refine(bnd (show ([(a,ByteArray.mk #[]),(t,ByteArray.mk #[]),(k,ByteArray.mk #[]),(n+9223372036854775808,ByteArray.mk #[])]:List (Int × ByteArray))[0]? = _ from rfl)).trans ?_|refine(bnd (show ([(a,ByteArray.mk #[]),(t,ByteArray.mk #[]),(k,ByteArray.mk #[]),(n+9223372036854775808,ByteArray.mk #[])]:List (Int × ByteArray))[1]? = _ from rfl)).trans ?_|refine(bnd (show ([(a,ByteArray.mk #[]),(t,ByteArray.mk #[]),(k,ByteArray.mk #[]),(n+9223372036854775808,ByteArray.mk #[])]:List (Int × ByteArray))[2]? = _ from rfl)).trans ?_|refine(bnd (show ([(a,ByteArray.mk #[]),(t,ByteArray.mk #[]),(k,ByteArray.mk #[]),(n+9223372036854775808,ByteArray.mk #[])]:List (Int × ByteArray))[3]? = _ from rfl)).trans ?_)
 rw[c1,c2,c3,u,show n+9223372036854775808 - 9223372036854775808=n by omega]
theorem n1_ok (x:Int):pW x=some ():=by
 have e:oT x=some ():=by
  rw[aC4]
  repeat (first|refine ip0 ?_|refine jn0 ?_|refine(bnd (aDG ..)).trans ?_|refine el ?_|refine er ?_)
  rfl
 rw[pW]
 repeat (first|refine ip0 ?_|refine jn0 ?_|refine(bnd e).trans ?_|refine el ?_|refine er ?_)
 rfl
theorem n2_ok (x:Int) (l:List Int) (h:l.length≤1000):mS x l=some ():=by
 have e1:mD x l=some ():=by
  rw[aA7]
  repeat (first|refine ip0 ?_|refine jn0 ?_|refine(bnd (aAR ..)).trans ?_|refine el ?_|refine er ?_)
  rfl
 have e0:mG x l=some ():=by
  rw[aAX]
  repeat (first|refine ip0 ?_|refine jn0 ?_|refine(bnd e1).trans ?_|refine el ?_|refine er ?_)
  rfl
 rw[mS]
 repeat (first|refine ip0 ?_|refine jn0 ?_|refine(bnd e0).trans ?_|refine el ?_|refine er ?_)
 rfl
theorem n3_ok (x:Int) (l:List Int) (h:l.length≤1000):m9 x l=some ():=by
 have e0:mP x l=some ():=by
  rw[aAY]
  repeat (first|refine ip0 ?_|refine jn0 ?_|refine(bnd (aAS ..)).trans ?_|refine el ?_|refine er ?_)
  rfl
 rw[m9]
 repeat (first|refine ip0 ?_|refine jn0 ?_|refine(bnd e0).trans ?_|refine el ?_|refine er ?_)
 rfl
theorem n4_ok (x:Int) (l:List Int) (h:l.length≤1000):mW x l=some ():=by
 have e7:mI x l=some ():=by
  rw[aA2]
  repeat (first|refine ip0 ?_|refine jn0 ?_|refine(bnd (aAZ ..)).trans ?_|refine el ?_|refine er ?_)
  rfl
 have e6:mM x l=some ():=by
  rw[aA5]
  repeat (first|refine ip0 ?_|refine jn0 ?_|refine(bnd e7).trans ?_|refine el ?_|refine er ?_)
  rfl
 have e5:mQ x l=some ():=by
  rw[aA4]
  repeat (first|refine ip0 ?_|refine jn0 ?_|refine(bnd e6).trans ?_|refine el ?_|refine er ?_)
  rfl
 have e4:mB x l=some ():=by
  rw[aAW]
  repeat (first|refine ip0 ?_|refine jn0 ?_|refine(bnd e5).trans ?_|refine el ?_|refine er ?_)
  rfl
 have e3:mO x l=some ():=by
  rw[aAT]
  repeat (first|refine ip0 ?_|refine jn0 ?_|refine(bnd e4).trans ?_|refine el ?_|refine er ?_)
  rfl
 have e2:mC x l=some ():=by
  rw[aA6]
  repeat (first|refine ip0 ?_|refine jn0 ?_|refine(bnd e3).trans ?_|refine el ?_|refine er ?_)
  rfl
 have e1:mR x l=some ():=by
  rw[aA0]
  repeat (first|refine ip0 ?_|refine jn0 ?_|refine(bnd e2).trans ?_|refine el ?_|refine er ?_)
  rfl
 have e0:mE x l=some ():=by
  rw[aAU]
  repeat (first|refine ip0 ?_|refine jn0 ?_|refine(bnd e1).trans ?_|refine el ?_|refine er ?_)
  rfl
 rw[mW]
 repeat (first|refine ip0 ?_|refine jn0 ?_|refine(bnd e0).trans ?_|refine el ?_|refine er ?_)
 rfl
theorem aVY {a t k u:Int} (ha:0≤a∧a<256) (ht:0≤t∧t<65536) (hk:0≤k∧k<256) :
 qD (a,ByteArray.mk #[]) (t,ByteArray.mk #[]) (k,ByteArray.mk #[]) (u,ByteArray.mk #[])=some ([a / 2 ^ 0 % 256]++([t / 2 ^ 8 % 256,t / 2 ^ 0 % 256]++([k / 2 ^ 0 % 256]++b8 u)),0):=by
 have es:eqS (ByteArray.mk #[]) (ByteArray.mk #[])=true:=aT7.2 rfl
 have s1:=aFX a 8 (by decide)
 have s2:=aFX t 16 (by decide)
 have s3:=aFX k 8 (by decide)
 simp only[Int.cast_ofNat_Int] at s1 s2 s3
 rw[show a / 2 ^ 8=0 by omega] at s1
 rw[show t / 2 ^ 16=0 by omega] at s2
 rw[show k / 2 ^ 8=0 by omega] at s3
 have e3:o9 (a,ByteArray.mk #[]) (t,ByteArray.mk #[]) (k,ByteArray.mk #[]) (u,ByteArray.mk #[])=some (.inl ()):=by
  rw[aDZ]
  repeat (first|refine ip (by first|with_reducible rfl | assumption | (simp (disch:=omega) only[ws,wl,wb,es]<;>omega)|omega) ?_|refine jn (by first|with_reducible rfl | assumption | (simp (disch:=omega) only[ws,wl,wb,es]<;>omega)|omega) ?_|refine(bnd (n4_ok u _ (by simp))).trans ?_|refine(bnd (aDL ..)).trans ?_|refine el ?_|refine er ?_)
  rfl
 have e2:pA (a,ByteArray.mk #[]) (t,ByteArray.mk #[]) (k,ByteArray.mk #[]) (u,ByteArray.mk #[])=some (.inl ()):=by
  rw[aC6]
  repeat (first|refine ip (by first|with_reducible rfl | assumption | (simp (disch:=omega) only[ws,wl,wb,es,s3]<;>omega)|omega) ?_|refine jn (by first|with_reducible rfl | assumption | (simp (disch:=omega) only[ws,wl,wb,es,s3]<;>omega)|omega) ?_|refine(bnd (n3_ok k _ (by simp))).trans ?_|refine(bnd e3).trans ?_|refine el ?_|refine er ?_)
  rfl
 have e1:oV (a,ByteArray.mk #[]) (t,ByteArray.mk #[]) (k,ByteArray.mk #[]) (u,ByteArray.mk #[])=some (.inl ()):=by
  rw[aDU]
  repeat (first|refine ip (by first|with_reducible rfl | assumption | (simp (disch:=omega) only[ws,wl,wb,es,s2]<;>omega)|omega) ?_|refine jn (by first|with_reducible rfl | assumption | (simp (disch:=omega) only[ws,wl,wb,es,s2]<;>omega)|omega) ?_|refine(bnd (n2_ok t _ (by simp))).trans ?_|refine(bnd e2).trans ?_|refine el ?_|refine er ?_)
  rfl
 have e0:o6 (a,ByteArray.mk #[]) (t,ByteArray.mk #[]) (k,ByteArray.mk #[]) (u,ByteArray.mk #[])=some (.inl ()):=by
  rw[aDF]
  repeat (first|refine ip (by first|with_reducible rfl | assumption | (simp (disch:=omega) only[ws,wl,wb,es,s1]<;>omega)|omega) ?_|refine jn (by first|with_reducible rfl | assumption | (simp (disch:=omega) only[ws,wl,wb,es,s1]<;>omega)|omega) ?_|refine(bnd (n1_ok a)).trans ?_|refine(bnd e1).trans ?_|refine el ?_|refine er ?_)
  rfl
 have q0:=sh a 0 (by decide)
 have q1:=sh t 8 (by decide)
 have q2:=sh t 0 (by decide)
 have q3:=sh k 0 (by decide)
 have p56:=sh u 56 (by decide)
 have p48:=sh u 48 (by decide)
 have p40:=sh u 40 (by decide)
 have p32:=sh u 32 (by decide)
 have p24:=sh u 24 (by decide)
 have p16:=sh u 16 (by decide)
 have p8:=sh u 8 (by decide)
 have p0:=sh u 0 (by decide)
 simp only[Int.cast_ofNat_Int] at q0 q1 q2 q3 p56 p48 p40 p32 p24 p16 p8 p0
 rw[qD]
 repeat (first|refine ip0 ?_|refine jn0 ?_|refine(bnd e0).trans ?_|refine el ?_|refine er ?_)
 simp only[q0,q1,q2,q3,p56,p48,p40,p32,p24,p16,p8,p0]
 rfl
theorem bytes_ok {a t k n:Int} (ha:0≤a∧a<256) (ht:0≤t∧t<65536) (hk:0≤k∧k<256) (h : -9223372036854775808≤n∧n≤9223372036854775807):k7 a t k n=some (enc a t k n,0):=by
 have e:=aVY (u:=n+9223372036854775808) ha ht hk
 have c1:=aGY (a:=a) (by omega)
 have c2:=aGY (a:=t) (by omega)
 have c3:=aGY (a:=k) (by omega)
 rw[k7,c1,c2,c3,sign_ok h]
 repeat (first|refine ip0 ?_|refine jn0 ?_|refine(bnd e).trans ?_)
 rfl
end Go.Ws.L99
