/-
  Frames, plain: what Frame makes, what First and All find, in both.
  Conditions: none.
-/
import Derived.Test.YtpaekffehfdmgaaGreatDoorZSums
import Derived.KernelRfl
set_option linter.unusedVariables false
set_option linter.unusedSimpArgs false
namespace Go.Ws
set_option linter.unusedVariables false
set_option linter.unusedSimpArgs false
set_option maxHeartbeats 1000000


def s4 (s:Int):List Int:=[s / 16777216,s / 65536 % 256,s / 256 % 256,s % 256]
def hd (l:List Int):List Int:=[1,(l.length:Int) / 256,(l.length:Int) % 256]
def fr (l:List Int):List Int:=(hd l++l)++s4 (zM (hd l++l))
theorem aP2 {l:List Int} (h:l.length≤4000):gV (hd l):=.cons (by omega) (.cons (by omega) (.cons (by omega) .nil))
theorem s4_bytes {s:Int} (h:0≤s∧s<4294967296):gV (s4 s):=.cons (by omega) (.cons (by omega) (.cons (by omega) (.cons (by omega) .nil)))
theorem aJQ {l:List Int} (hl:gV l) (h:l.length≤4000):gV (fr l):=((aP2 h).append hl).append (s4_bytes (aNT _))
theorem wF (l:List Int):(fr l).length=l.length+7:=by simp [fr,hd,s4]<;>omega
theorem s4a {s:Int} (h:0≤s∧s<4294967296):[conv .u8 (aA .u32 s 24),conv .u8 (aA .u32 s 16),conv .u8 (aA .u32 s 8),conv .u8 s]=s4 s:=by
 have e1:=aRU s 24 (by decide)
 have e2:=aRU s 16 (by decide)
 have e3:=aRU s 8 (by decide)
 simp only[Int.cast_ofNat_Int] at e1 e2 e3
 rw[e1,e2,e3,aEK,aEK,aEK,aEK,s4,show (s / 2 ^ 24 % 256:Int)=s / 16777216 by omega,show (s / 2 ^ 16 % 256:Int)=s / 65536 % 256 by omega,show (s / 2 ^ 8 % 256:Int)=s / 256 % 256 by omega]
theorem hda {l:List Int} (h:l.length≤4000):[1,conv .u8 (aA .i64 (nI l.length) 8),conv .u8 (nI l.length)]=hd l:=by
 have e1:=ishr64 (nI l.length) 8 (by decide)
 simp only[Int.cast_ofNat_Int] at e1
 rw[e1,aEM,aEK,aEK,hd,show ((l.length:Int) / 2 ^ 8 % 256:Int)=l.length / 256 by omega]
theorem frame_ok {l:List Int} (hl:gV l) (h:l.length≤4000):uO l=some (fr l,0)∧True:=by
 have hb:=(aP2 h).append hl
 have e:(hd l++l).length=l.length+3:=by simp [hd]<;>omega
 have e2:((hd l++l)++s4 (zM (hd l++l))).length=l.length+7:=by rw[← wF];rfl
 constructor
 · rw[uO]
   simp only[hda h]
   repeat (first|refine ip (by first|with_reducible rfl | assumption | (simp (disch:=omega) only[ws,wl,wb,hd]<;>omega)|omega) ?_|refine jn (by first|with_reducible rfl | assumption | (simp (disch:=omega) only[ws,wl,wb,hd]<;>omega)|omega) ?_|refine(bnd (sum_ok hb (by omega))).trans ?_)
   rw[s4a (aNT _)]
   repeat (first|refine ip (by first|with_reducible rfl | assumption | (simp (disch:=omega) only[ws,wl,wb,e,e2,hd,s4]<;>omega)|omega) ?_|refine jn (by first|with_reducible rfl | assumption | (simp (disch:=omega) only[ws,wl,wb,e,e2,hd,s4]<;>omega)|omega) ?_)
   rfl
 · trivial
def first (b:List Int):List Int × Int × Int :=
 match b with
 | []=>([],0,7)
 | b0::b1::b2::r =>
  if b0=1∧b1*256+b2≤4000∧b1*256+b2+4≤r.length then
   if (r.drop (b1*256+b2).toNat).take 4=s4 (zM (b0::b1::b2::r.take (b1*256+b2).toNat)) then (r.take (b1*256+b2).toNat,b1*256+b2+7,0) else ([],0,5)
  else ([],0,4)
 | _=>([],0,4)

theorem take4 {d:List Int} (h:4≤d.length):∃y0 y1 y2 y3 t,d=y0::y1::y2::y3::t:=by
 match d,h with
 | y0::y1::y2::y3::t,_=>exact⟨_,_,_,_,_,rfl⟩

theorem gN (l:List Int) (h:l.length≤1000000):iQ l=some ():=by
 rw[iQ,lJ]
 repeat (first|refine ip0 ?_|refine jn0 ?_)
 rfl

theorem first_ok {b:List Int} (hb:gV b) (hl:b.length≤900000):uN b=some (first b):=by
 rw[uN]
 match b,hb,hl with
 | [],hb,hl =>
  repeat (first|refine ip0 ?_|refine jn0 ?_)
  rfl
 | [b0],hb,hl =>
  by_cases h0:b0=1
  · repeat (first|refine ip0 ?_|refine jn0 ?_|refine(bnd (show ([b0]:List Int)[0]? = some b0 from rfl)).trans ?_)
    rfl
  · repeat (first|refine ip0 ?_|refine jn0 ?_|refine(bnd (show ([b0]:List Int)[0]? = some b0 from rfl)).trans ?_)
    rfl
 | [b0,b1],hb,hl =>
  by_cases h0:b0=1
  · repeat (first|refine ip0 ?_|refine jn0 ?_|refine(bnd (show ([b0,b1]:List Int)[0]? = some b0 from rfl)).trans ?_)
    rfl
  · repeat (first|refine ip0 ?_|refine jn0 ?_|refine(bnd (show ([b0,b1]:List Int)[0]? = some b0 from rfl)).trans ?_)
    rfl
 | b0::b1::b2::r,hb,hl =>
  have k1:=hb b1 (by simp)
  have k2:=hb b2 (by simp)
  obtain⟨n,hn⟩:∃n:Nat,b1*256+b2=(n:Int):=⟨(b1*256+b2).toNat,by omega⟩
  have sh:=ishl64 b1 8 (by decide) (by omega)
  simp only[Int.cast_ofNat_Int] at sh
  have e3:aH .i64 (aH .i64 3 (gL .i64 (conv .i64 b1) 8)) (conv .i64 b2)=((n+3:Nat):Int):=by
   rw[xY (by omega),xY (by omega),sh,qW (by omega : -9223372036854775808≤(3:Int)+b1*2 ^ 8∧(3:Int)+b1*2 ^ 8≤9223372036854775807),qW (by omega)];omega
  simp only[List.length_cons] at hl
  by_cases h0:b0=1
  rotate_left
  · have hf:first (b0::b1::b2::r)=([],0,4):=by rw[first,if_neg (by omega)]
    rw[hf]
    repeat (first|refine ip0 ?_|refine jn0 ?_|refine(bnd (show (b0::b1::b2::r)[0]? = some b0 from rfl)).trans ?_)
    rfl
  by_cases h1:n≤4000
  rotate_left
  · have hf:first (b0::b1::b2::r)=([],0,4):=by rw[first,if_neg (by omega)]
    rw[hf]
    have c1:4003<((n+3:Nat):Int):=by omega
    repeat (first|refine ip (by first|with_reducible rfl | assumption | (simp (disch:=omega) only[ws,wl,wb,e3]<;>omega)|omega) ?_|refine jn (by first|with_reducible rfl | assumption | (simp (disch:=omega) only[ws,wl,wb,e3]<;>omega)|omega) ?_|refine(bnd (show (b0::b1::b2::r)[0]? = some b0 from rfl)).trans ?_|refine(bnd (show (b0::b1::b2::r)[1]? = some b1 from rfl)).trans ?_|refine(bnd (show (b0::b1::b2::r)[2]? = some b2 from rfl)).trans ?_)
    rfl
  by_cases h2:n+4≤r.length
  rotate_left
  · have hf:first (b0::b1::b2::r)=([],0,4):=by rw[first,if_neg (by omega)]
    rw[hf]
    repeat (first|refine ip (by first|with_reducible rfl | assumption | (simp (disch:=omega) only[ws,wl,wb,e3]<;>omega)|omega) ?_|refine jn (by first|with_reducible rfl | assumption | (simp (disch:=omega) only[ws,wl,wb,e3]<;>omega)|omega) ?_|refine(bnd (show (b0::b1::b2::r)[0]? = some b0 from rfl)).trans ?_|refine(bnd (show (b0::b1::b2::r)[1]? = some b1 from rfl)).trans ?_|refine(bnd (show (b0::b1::b2::r)[2]? = some b2 from rfl)).trans ?_)
    rfl
  have hf:first (b0::b1::b2::r)=if (r.drop n).take 4=s4 (zM (b0::b1::b2::r.take n)) then (r.take n,(n:Int)+7,0) else ([],0,5):=by rw[first,if_pos (by omega),hn,Int.toNat_natCast]
  rw[hf]
  obtain⟨y0,y1,y2,y3,t,hd4⟩:=take4 (d:=r.drop n) (by simp;omega)
  have hd4':List.drop (n+3) (b0::b1::b2::r)=y0::y1::y2::y3::t:=hd4
  have htk:List.take (n+3) (b0::b1::b2::r)=b0::b1::b2::r.take n:=rfl
  have hsum:uA (b0::b1::b2::r.take n)=some (zM (b0::b1::b2::r.take n)):=sum_ok (htk▸hb.take (n+3)) (by simp;omega)
  have hbd:=aNT (b0::b1::b2::r.take n)
  generalize zM (b0::b1::b2::r.take n)=s at hsum hbd ⊢
  have q:=s4a hbd
  simp only[s4,List.cons.injEq,and_true] at q
  obtain⟨q0,q1,q2,q3⟩:=q
  repeat (first|refine ip (by first|with_reducible rfl | assumption | (simp (disch:=omega) only[ws,wl,wb,e3]<;>omega)|omega) ?_|refine jn (by first|with_reducible rfl | assumption | (simp (disch:=omega) only[ws,wl,wb,e3]<;>omega)|omega) ?_|refine(bnd (show (b0::b1::b2::r)[0]? = some b0 from rfl)).trans ?_|refine(bnd (show (b0::b1::b2::r)[1]? = some b1 from rfl)).trans ?_|refine(bnd (show (b0::b1::b2::r)[2]? = some b2 from rfl)).trans ?_)
  simp only[e3,pE,hd4',htk]
  repeat (first|refine ip0 ?_|refine jn0 ?_|refine(bnd hsum).trans ?_)
  simp only[q0,q1,q2,q3]
  rw[hd4]
  have tk:List.take 4 (y0::y1::y2::y3::t)=[y0,y1,y2,y3]:=rfl
  rw[tk,s4]
  have hlen:(b0::b1::b2::r).length=r.length+3:=rfl
  have e0:∀(p:List Int × Int × Int),p=p:=fun _=>rfl
  have hcl:∀m,iQ (List.take (n+3 - m) (List.drop m (b0::b1::b2::r)))=some ():=fun m=>gN _ (by simp;omega)
  by_cases d0:y0=s / 16777216
  rotate_left
  · refine Eq.trans ?_ (congrArg some (if_neg (by intro hh;exact d0 (List.cons.inj hh).1)).symm)
    repeat (first|refine ip (by first|with_reducible rfl | assumption | (simp (disch:=omega) only[ws,wl,wb,hlen]<;>omega)|omega) ?_|refine jn (by first|with_reducible rfl | assumption | (simp (disch:=omega) only[ws,wl,wb,hlen]<;>omega)|omega) ?_|refine(bnd (show (b0::b1::b2::r)[0]? = some b0 from rfl)).trans ?_|refine(bnd (show (b0::b1::b2::r)[1]? = some b1 from rfl)).trans ?_|refine(bnd (show (b0::b1::b2::r)[2]? = some b2 from rfl)).trans ?_|refine(bnd hsum).trans ?_|refine(bnd (show (y0::y1::y2::y3::t)[0]? = some y0 from rfl)).trans ?_|refine(bnd (show (y0::y1::y2::y3::t)[1]? = some y1 from rfl)).trans ?_|refine(bnd (show (y0::y1::y2::y3::t)[2]? = some y2 from rfl)).trans ?_|refine(bnd (show (y0::y1::y2::y3::t)[3]? = some y3 from rfl)).trans ?_)
    rfl
  by_cases d1:y1=s / 65536 % 256
  rotate_left
  · refine Eq.trans ?_ (congrArg some (if_neg (by intro hh;simp only[List.cons.injEq] at hh;exact d1 hh.2.1)).symm)
    repeat (first|refine ip (by first|with_reducible rfl | assumption | (simp (disch:=omega) only[ws,wl,wb,hlen]<;>omega)|omega) ?_|refine jn (by first|with_reducible rfl | assumption | (simp (disch:=omega) only[ws,wl,wb,hlen]<;>omega)|omega) ?_|refine(bnd (show (b0::b1::b2::r)[0]? = some b0 from rfl)).trans ?_|refine(bnd (show (b0::b1::b2::r)[1]? = some b1 from rfl)).trans ?_|refine(bnd (show (b0::b1::b2::r)[2]? = some b2 from rfl)).trans ?_|refine(bnd hsum).trans ?_|refine(bnd (show (y0::y1::y2::y3::t)[0]? = some y0 from rfl)).trans ?_|refine(bnd (show (y0::y1::y2::y3::t)[1]? = some y1 from rfl)).trans ?_|refine(bnd (show (y0::y1::y2::y3::t)[2]? = some y2 from rfl)).trans ?_|refine(bnd (show (y0::y1::y2::y3::t)[3]? = some y3 from rfl)).trans ?_)
    rfl
  by_cases d2:y2=s / 256 % 256
  rotate_left
  · refine Eq.trans ?_ (congrArg some (if_neg (by intro hh;simp only[List.cons.injEq] at hh;exact d2 hh.2.2.1)).symm)
    repeat (first|refine ip (by first|with_reducible rfl | assumption | (simp (disch:=omega) only[ws,wl,wb,hlen]<;>omega)|omega) ?_|refine jn (by first|with_reducible rfl | assumption | (simp (disch:=omega) only[ws,wl,wb,hlen]<;>omega)|omega) ?_|refine(bnd (show (b0::b1::b2::r)[0]? = some b0 from rfl)).trans ?_|refine(bnd (show (b0::b1::b2::r)[1]? = some b1 from rfl)).trans ?_|refine(bnd (show (b0::b1::b2::r)[2]? = some b2 from rfl)).trans ?_|refine(bnd hsum).trans ?_|refine(bnd (show (y0::y1::y2::y3::t)[0]? = some y0 from rfl)).trans ?_|refine(bnd (show (y0::y1::y2::y3::t)[1]? = some y1 from rfl)).trans ?_|refine(bnd (show (y0::y1::y2::y3::t)[2]? = some y2 from rfl)).trans ?_|refine(bnd (show (y0::y1::y2::y3::t)[3]? = some y3 from rfl)).trans ?_)
    rfl
  by_cases d3:y3=s % 256
  rotate_left
  · refine Eq.trans ?_ (congrArg some (if_neg (by intro hh;simp only[List.cons.injEq] at hh;exact d3 hh.2.2.2.1)).symm)
    repeat (first|refine ip (by first|with_reducible rfl | assumption | (simp (disch:=omega) only[ws,wl,wb,hlen]<;>omega)|omega) ?_|refine jn (by first|with_reducible rfl | assumption | (simp (disch:=omega) only[ws,wl,wb,hlen]<;>omega)|omega) ?_|refine(bnd (show (b0::b1::b2::r)[0]? = some b0 from rfl)).trans ?_|refine(bnd (show (b0::b1::b2::r)[1]? = some b1 from rfl)).trans ?_|refine(bnd (show (b0::b1::b2::r)[2]? = some b2 from rfl)).trans ?_|refine(bnd hsum).trans ?_|refine(bnd (show (y0::y1::y2::y3::t)[0]? = some y0 from rfl)).trans ?_|refine(bnd (show (y0::y1::y2::y3::t)[1]? = some y1 from rfl)).trans ?_|refine(bnd (show (y0::y1::y2::y3::t)[2]? = some y2 from rfl)).trans ?_|refine(bnd (show (y0::y1::y2::y3::t)[3]? = some y3 from rfl)).trans ?_)
    rfl
  refine Eq.trans ?_ (congrArg some (if_pos (by rw[d0,d1,d2,d3])).symm)
  have e4:aH .i64 ((n+3:Nat):Int) 4=(n:Int)+7:=by rw[qW (by omega)];omega
  by_cases hz:n=0
  · repeat (first|refine ip (by first|with_reducible rfl | assumption | (simp (disch:=omega) only[ws,wl,wb,hlen]<;>omega)|omega) ?_|refine jn (by first|with_reducible rfl | assumption | (simp (disch:=omega) only[ws,wl,wb,hlen]<;>omega)|omega) ?_|refine(bnd (show (b0::b1::b2::r)[0]? = some b0 from rfl)).trans ?_|refine(bnd (show (b0::b1::b2::r)[1]? = some b1 from rfl)).trans ?_|refine(bnd (show (b0::b1::b2::r)[2]? = some b2 from rfl)).trans ?_|refine(bnd hsum).trans ?_|refine(bnd (show (y0::y1::y2::y3::t)[0]? = some y0 from rfl)).trans ?_|refine(bnd (show (y0::y1::y2::y3::t)[1]? = some y1 from rfl)).trans ?_|refine(bnd (show (y0::y1::y2::y3::t)[2]? = some y2 from rfl)).trans ?_|refine(bnd (show (y0::y1::y2::y3::t)[3]? = some y3 from rfl)).trans ?_|refine(bnd (gN [] (by simp))).trans ?_)
    rw[e4,hz];rfl
  · repeat (first|refine ip (by first|with_reducible rfl | assumption | (simp (disch:=omega) only[ws,wl,wb,hlen]<;>omega)|omega) ?_|refine jn (by first|with_reducible rfl | assumption | (simp (disch:=omega) only[ws,wl,wb,hlen]<;>omega)|omega) ?_|refine(bnd (show (b0::b1::b2::r)[0]? = some b0 from rfl)).trans ?_|refine(bnd (show (b0::b1::b2::r)[1]? = some b1 from rfl)).trans ?_|refine(bnd (show (b0::b1::b2::r)[2]? = some b2 from rfl)).trans ?_|refine(bnd hsum).trans ?_|refine(bnd (show (y0::y1::y2::y3::t)[0]? = some y0 from rfl)).trans ?_|refine(bnd (show (y0::y1::y2::y3::t)[1]? = some y1 from rfl)).trans ?_|refine(bnd (show (y0::y1::y2::y3::t)[2]? = some y2 from rfl)).trans ?_|refine(bnd (show (y0::y1::y2::y3::t)[3]? = some y3 from rfl)).trans ?_|refine(bnd (hcl 3)).trans ?_)
    rw[e4];rfl
end Go.Ws
