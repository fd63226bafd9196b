/-
  A lease as bytes, and back, plainly.
  Conditions: none.
-/
import Derived.Test.YtpaekffehfdmgaaGreatDoorZPlain
import Derived.Test.YtpaekffehfdmgaaGreatDoorZB2
import Derived.KernelRfl
set_option linter.unusedVariables false
set_option linter.unusedSimpArgs false
namespace Go.Ws.L12
open Go.Ws
set_option linter.unusedVariables false
set_option linter.unusedSimpArgs false
set_option maxHeartbeats 1000000
theorem or8 {a c:Int} (ha:0≤a∧a<72057594037927936) (hc:0≤c∧c<256):ior .u64 (eQ .u64 a 8) (conv .u64 c)=a*256+c:=by
 obtain⟨m,rfl⟩:∃m:Nat,a=(m:Int):=⟨a.toNat,by omega⟩
 obtain⟨d,rfl⟩:∃d:Nat,c=(d:Int):=⟨c.toNat,by omega⟩
 have e1:eQ .u64 (m:Int) 8=((m*256:Nat):Int):=by
  show IntKind.u64.wrap ((m:Int)*2 ^ (min (8:Int).toNat 64))=_
  have:((m:Int)*2 ^ (min (8:Int).toNat 64))=((m*256:Nat):Int):=by
   rw[show (2:Int) ^ (min (8:Int).toNat 64)=256 from rfl];omega
  rw[this,aGT (by omega)]
 rw[e1,aCR (by omega)]
 have h:(m*256) ||| d=m*256+d:=by
  rw[show m*256=2 ^ 8*m by omega]
  rw[← Nat.two_pow_add_eq_or_of_lt (i:=8) (by omega) m]
 have e2:(BitVec.ofInt 64 ((m*256:Nat):Int) ||| BitVec.ofInt 64 (d:Int)).toNat=m*256+d:=by
  rw[BitVec.toNat_or,BitVec.ofInt_natCast,BitVec.ofInt_natCast,BitVec.toNat_ofNat,BitVec.toNat_ofNat,Nat.mod_eq_of_lt (by omega),Nat.mod_eq_of_lt (by omega),h]
 show IntKind.u64.wrap ((BitVec.ofInt 64 ((m*256:Nat):Int) ||| BitVec.ofInt 64 (d:Int)).toNat:Int)=_
 rw[e2,aGT (by omega)]
 omega
theorem sh (x:Int) (n:Nat) (h:n≤64):conv .u8 (aE .u64 x (n:Int))=x / 2 ^ n % 256:=by rw[aCT x n h,conv8m]
def be:Int→List Int→Int
 | a,[]=>a
 | a,c::l=>be (a*256+c) l
section
variable {x2:List Int} {x3:Bool} {y:List Int × Bool}
theorem num_l0 {l:List Int}:∀(r p:List Int) (a v:Int),l=p++r→v=(p.length:Int)→l.length≤8→lR r→0≤a→(a+1)*256 ^ r.length≤18446744073709551616→eX x2 x3 (l,y) a v=some (be a r)
 | [],p,a,v,hl,hv,h8,hb,ha,hm=>by
  have hll:l.length=p.length:=by rw[hl];simp
  rw[iX]
  repeat (first|refine ip (by first|with_reducible rfl | assumption | (simp (disch:=omega) only[ws,wl,wb,hll]<;>omega)|omega) ?_|refine jn (by first|with_reducible rfl | assumption | (simp (disch:=omega) only[ws,wl,wb,hll]<;>omega)|omega) ?_|refine el ?_|refine er ?_)
  rfl
 | c::r,p,a,v,hl,hv,h8,hb,ha,hm=>by
  have hll:l.length=p.length+(r.length+1):=by rw[hl];simp
  have g:l[p.length]? = some c:=by rw[hl];simp
  have hc:=hb c (by simp)
  have hq:(1:Int)≤256 ^ r.length:=by
   have:(0:Int)<256 ^ r.length:=Int.pow_pos (by decide)
   omega
  have hm2:(a+1)*256*256 ^ r.length≤18446744073709551616:=by
   rw[List.length_cons,Int.pow_succ] at hm
   rw[Int.mul_assoc,Int.mul_comm 256]
   exact hm
  have h1:(a+1)*256*1≤(a+1)*256*256 ^ r.length:=Int.mul_le_mul_of_nonneg_left hq (by omega)
  have h2:(a*256+c+1)*256 ^ r.length≤(a+1)*256*256 ^ r.length:=Int.mul_le_mul_of_nonneg_right (by omega) (by omega)
  have ih:=num_l0 (l:=l) r (p++[c]) (a*256+c) (bI .i64 v 1) (by rw[hl];simp) (by rw[hv,xO (by omega)];simp) h8 (fun z hz=>hb z (by simp [hz])) (by omega) (by omega)
  rw[iX]
  repeat (first|refine ip (by first|with_reducible rfl | assumption | (simp (disch:=omega) only[ws,wl,wb,hll]<;>omega)|omega) ?_|refine jn (by first|with_reducible rfl | assumption | (simp (disch:=omega) only[ws,wl,wb,hll]<;>omega)|omega) ?_|refine(bnd (getn hv g)).trans ?_|refine el ?_|refine er ?_)
  rw[or8 (by omega) hc]
  exact ih
end
theorem aK0 {w:Int} {p r:List Int} (hw:w=(p.length:Int)) (hp:lR p) (h8:p.length=1∨p.length=4) (hr:r.length≤1000):dK w (p++r) false=some (be 0 p,r,false):=by
 have hl:(p++r).length=p.length+r.length:=by simp
 have ht:f3 w (p++r) false=some (p,r,false):=by
  rw[f3]
  repeat (first|refine ip (by first|with_reducible rfl | assumption | (simp (disch:=omega) only[ws,wl,wb,hl]<;>omega)|omega) ?_|refine jn (by first|with_reducible rfl | assumption | (simp (disch:=omega) only[ws,wl,wb,hl]<;>omega)|omega) ?_)
  rw[hw,tN_nat,List.take_left,List.drop_left]
 have hn:=num_l0 (x2:=p++r) (x3:=false) (y:=(r,false)) (l:=p) p [] 0 0 (by simp) rfl (by omega) hp (by omega) (by rcases h8 with h | h<;>rw[h]<;>decide)
 rw[dK]
 repeat (first|refine ip0 ?_|refine jn0 ?_|refine(bnd ht).trans ?_|refine(bnd hn).trans ?_)
 rfl
def b4 (u:Int):List Int:=[u / 2 ^ 24 % 256,u / 2 ^ 16 % 256,u / 2 ^ 8 % 256,u / 2 ^ 0 % 256]
def enc (e s t:Int):List Int:=[s / 2 ^ 0 % 256]++(b4 e++[t / 2 ^ 0 % 256])
theorem b4_bytes (u:Int):lR (b4 u):=by
 intro x hx
 simp only[b4,List.mem_cons,List.mem_nil_iff,or_false] at hx
 rcases hx with rfl | rfl | rfl | rfl<;>omega
theorem enc_len (e s t:Int):(enc e s t).length=6:=rfl
theorem be4 {u:Int} (h:0≤u∧u<4294967296):be 0 (b4 u)=u:=by
 simp only[b4,be]
 omega
theorem aMT {e s t:Int} (he:0≤e∧e<4294967296):jU (enc e s t)=some ([(s % 256,ByteArray.mk #[]),(e,ByteArray.mk #[]),(t % 256,ByteArray.mk #[])],0):=by
 have n1:=aK0 (w:=1) (p:=[s / 2 ^ 0 % 256]) (r:=b4 e++[t / 2 ^ 0 % 256]) rfl (.cons (by omega) .nil) (.inl rfl) (by simp [b4])
 have n2:=aK0 (w:=4) (p:=b4 e) (r:=[t / 2 ^ 0 % 256]) rfl (b4_bytes e) (.inr rfl) (by simp)
 have n3:=aK0 (w:=1) (p:=[t / 2 ^ 0 % 256]) (r:=[]) rfl (.cons (by omega) .nil) (.inl rfl) (by simp)
 rw[be4 he] at n2
 rw[List.append_nil] at n3
 simp only[be] at n1 n3
 have l2:=wG (enc e s t) (0*256+s / 2 ^ 0 % 256,b4 e++[t / 2 ^ 0 % 256],false) (e,[t / 2 ^ 0 % 256],false)
 rw[bnd n3,bnd (u6 ..)] at l2
 have l1:=vE (enc e s t) (0*256+s / 2 ^ 0 % 256,b4 e++[t / 2 ^ 0 % 256],false)
 rw[bnd n2,bnd l2] at l1
 have l0:=v6 (enc e s t)
 rw[show enc e s t=[s / 2 ^ 0 % 256]++(b4 e++[t / 2 ^ 0 % 256]) from rfl,bnd n1] at l0
 rw[show [s / 2 ^ 0 % 256]++(b4 e++[t / 2 ^ 0 % 256])=enc e s t from rfl,bnd l1] at l0
 rw[jU]
 have hl:=enc_len e s t
 repeat (first|refine ip (by first|with_reducible rfl | assumption | (simp (disch:=omega) only[ws,wl,wb,hl]<;>omega)|omega) ?_|refine jn (by first|with_reducible rfl | assumption | (simp (disch:=omega) only[ws,wl,wb,hl]<;>omega)|omega) ?_|refine(bnd l0).trans ?_|refine el ?_|refine er ?_)
 simp only[show (0*256+s / 2 ^ 0 % 256:Int)=s % 256 by omega,show (0*256+t / 2 ^ 0 % 256:Int)=t % 256 by omega]
theorem aNF {e s t:Int} (he:0≤e∧e<4294967296) (hs:0≤s∧s<256) (ht:0≤t∧t<256) (hr:bN e s t=true):iT (enc e s t)=some (e,s,t,0):=by
 have hd:=aMT (e:=e) (s:=s) (t:=t) he
 have e1:conv .i64 e=e:=aHB (by omega)
 have e2:conv .i64 (s % 256)=s:=by rw[aHB (by omega)];omega
 have e3:conv .u8 (t % 256)=t:=by rw[conv8 (by omega)];omega
 rw[iT]
 repeat (first|refine ip0 ?_|refine jn0 ?_|refine(bnd hd).trans ?_|refine(bnd (show ([(s % 256,ByteArray.mk #[]),(e,ByteArray.mk #[]),(t % 256,ByteArray.mk #[])]:List (Int × ByteArray))[1]? = some (e,ByteArray.mk #[]) from rfl)).trans ?_|refine(bnd (show ([(s % 256,ByteArray.mk #[]),(e,ByteArray.mk #[]),(t % 256,ByteArray.mk #[])]:List (Int × ByteArray))[0]? = some (s % 256,ByteArray.mk #[]) from rfl)).trans ?_|refine(bnd (show ([(s % 256,ByteArray.mk #[]),(e,ByteArray.mk #[]),(t % 256,ByteArray.mk #[])]:List (Int × ByteArray))[2]? = some (t % 256,ByteArray.mk #[]) from rfl)).trans ?_)
 simp only[e1,e2,e3]
 rw[if_pos hr]
theorem n0_ok (x:Int):jW x=some ():=by
 have e:jD x=some ():=by
  rw[vD]
  repeat (first|refine ip0 ?_|refine jn0 ?_|refine(bnd (wY ..)).trans ?_|refine el ?_|refine er ?_)
  rfl
 rw[jW]
 repeat (first|refine ip0 ?_|refine jn0 ?_|refine(bnd e).trans ?_|refine el ?_|refine er ?_)
 rfl
theorem n1_ok (x:Int) (l:List Int) (h:l.length≤1000):iB x l=some ():=by
 have e3:g9 x l=some ():=by
  rw[sV]
  repeat (first|refine ip0 ?_|refine jn0 ?_|refine(bnd (sQ ..)).trans ?_|refine el ?_|refine er ?_)
  rfl
 have e2:hU x l=some ():=by
  rw[sR]
  repeat (first|refine ip0 ?_|refine jn0 ?_|refine(bnd e3).trans ?_|refine el ?_|refine er ?_)
  rfl
 have e1:hP x l=some ():=by
  rw[sU]
  repeat (first|refine ip0 ?_|refine jn0 ?_|refine(bnd e2).trans ?_|refine el ?_|refine er ?_)
  rfl
 have e0:hG x l=some ():=by
  rw[sS]
  repeat (first|refine ip0 ?_|refine jn0 ?_|refine(bnd e1).trans ?_|refine el ?_|refine er ?_)
  rfl
 rw[iB]
 repeat (first|refine ip0 ?_|refine jn0 ?_|refine(bnd e0).trans ?_|refine el ?_|refine er ?_)
 rfl
theorem n2_ok (x:Int) (l:List Int) (h:l.length≤1000):iC x l=some ():=by
 have e0:g7 x l=some ():=by
  rw[sT]
  repeat (first|refine ip0 ?_|refine jn0 ?_|refine(bnd (sP ..)).trans ?_|refine el ?_|refine er ?_)
  rfl
 rw[iC]
 repeat (first|refine ip0 ?_|refine jn0 ?_|refine(bnd e0).trans ?_|refine el ?_|refine er ?_)
 rfl
theorem aM4 {s e t:Int} (hs:0≤s∧s<256) (he:0≤e∧e<4294967296) (ht:0≤t∧t<256) :
 jR (s,ByteArray.mk #[]) (e,ByteArray.mk #[]) (t,ByteArray.mk #[])=some (enc e s t,0):=by
 have es:eqS (ByteArray.mk #[]) (ByteArray.mk #[])=true:=aGV.2 rfl
 have s1:=aCT s 8 (by decide)
 have s2:=aCT e 32 (by decide)
 have s3:=aCT t 8 (by decide)
 simp only[Int.cast_ofNat_Int] at s1 s2 s3
 rw[show s / 2 ^ 8=0 by omega] at s1
 rw[show e / 2 ^ 32=0 by omega] at s2
 rw[show t / 2 ^ 8=0 by omega] at s3
 have e2:jE (s,ByteArray.mk #[]) (e,ByteArray.mk #[]) (t,ByteArray.mk #[])=some (.inl ()):=by
  rw[vQ]
  repeat (first|refine ip (by first|with_reducible rfl | assumption | (simp (disch:=omega) only[ws,wl,wb,es,s3]<;>omega)|omega) ?_|refine jn (by first|with_reducible rfl | assumption | (simp (disch:=omega) only[ws,wl,wb,es,s3]<;>omega)|omega) ?_|refine(bnd (n2_ok t _ (by simp))).trans ?_|refine(bnd (wE ..)).trans ?_|refine el ?_|refine er ?_)
  rfl
 have e1:jA (s,ByteArray.mk #[]) (e,ByteArray.mk #[]) (t,ByteArray.mk #[])=some (.inl ()):=by
  rw[wB]
  repeat (first|refine ip (by first|with_reducible rfl | assumption | (simp (disch:=omega) only[ws,wl,wb,es,s2]<;>omega)|omega) ?_|refine jn (by first|with_reducible rfl | assumption | (simp (disch:=omega) only[ws,wl,wb,es,s2]<;>omega)|omega) ?_|refine(bnd (n1_ok e _ (by simp))).trans ?_|refine(bnd e2).trans ?_|refine el ?_|refine er ?_)
  rfl
 have e0:jF (s,ByteArray.mk #[]) (e,ByteArray.mk #[]) (t,ByteArray.mk #[])=some (.inl ()):=by
  rw[wR]
  repeat (first|refine ip (by first|with_reducible rfl | assumption | (simp (disch:=omega) only[ws,wl,wb,es,s1]<;>omega)|omega) ?_|refine jn (by first|with_reducible rfl | assumption | (simp (disch:=omega) only[ws,wl,wb,es,s1]<;>omega)|omega) ?_|refine(bnd (n0_ok s)).trans ?_|refine(bnd e1).trans ?_|refine el ?_|refine er ?_)
  rfl
 have q0:=sh s 0 (by decide)
 have q3:=sh t 0 (by decide)
 have p24:=sh e 24 (by decide)
 have p16:=sh e 16 (by decide)
 have p8:=sh e 8 (by decide)
 have p0:=sh e 0 (by decide)
 simp only[Int.cast_ofNat_Int] at q0 q3 p24 p16 p8 p0
 rw[jR]
 repeat (first|refine ip0 ?_|refine jn0 ?_|refine(bnd e0).trans ?_|refine el ?_|refine er ?_)
 simp only[q0,q3,p24,p16,p8,p0]
 rfl
theorem aMY {e s t:Int} (he:0≤e∧e<4294967296) (hs:0≤s∧s<256) (ht:0≤t∧t<256) (hr:bN e s t=true):iY e s t=some (enc e s t,0):=by
 have h:=aM4 hs he ht
 rw[iY,if_pos hr,aCR (by omega),aCR (by omega),aCR (by omega)]
 repeat (first|refine ip0 ?_|refine jn0 ?_|refine(bnd h).trans ?_)
 rfl
end Go.Ws.L12
