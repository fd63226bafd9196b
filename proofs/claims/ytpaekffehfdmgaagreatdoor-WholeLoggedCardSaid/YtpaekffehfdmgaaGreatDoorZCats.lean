/-
  Frames behind one another, plainly.
  Conditions: none.
-/
import Derived.Test.YtpaekffehfdmgaaGreatDoorZAlls
set_option linter.unusedVariables false
set_option linter.unusedSimpArgs false
namespace Go.Ws
set_option linter.unusedVariables false
set_option linter.unusedSimpArgs false
set_option maxHeartbeats 1000000

theorem aTR (l:List Int):fr l=1::((l.length:Int) / 256)::((l.length:Int) % 256)::(l++s4 (zM (hd l++l))):=rfl
theorem s4_len (s:Int):(s4 s).length=4:=rfl
theorem first_fr {l:List Int} (h:l.length≤4000) (r:List Int):first (fr l++r)=(l,(l.length:Int)+7,0):=by
 have e:(l.length:Int) / 256*256+(l.length:Int) % 256=l.length:=by omega
 have e2:((l++s4 (zM (hd l++l))++r).drop l.length).take 4=s4 (zM (hd l++l)):=by
  rw[List.append_assoc,List.drop_left,List.take_left' (s4_len _)]
 have e3:(l++s4 (zM (hd l++l))++r).take l.length=l:=by rw[List.append_assoc,List.take_left]
 have e4:zM (1::((l.length:Int) / 256)::((l.length:Int) % 256)::l)=zM (hd l++l):=rfl
 rw[aTR,List.cons_append,List.cons_append,List.cons_append,first,e,if_pos (by simp [s4_len];omega),Int.toNat_natCast,e3,e2,e4,if_pos rfl]
theorem all_fr {l:List Int} (hb:gV l) (h:l.length≤4000) {r:List Int} (hr:gV r):all (fr l++r)=(l::(all r).1,l.length+7+(all r).2):=by
 have f:=first_fr h r
 have q:=all_ok ((aJQ hb h).append hr) (n:=l.length+7) (by rw[f]) (by rw[f];simp)
 rw[q,f,← wF l,List.drop_left]
theorem aVD {l:List Int} (h:l.length≤4000) (r:List Int) {k:Nat} (hk:k<l.length+7):¬(first ((fr l++r).take k)).2.2=0:=by
 rw[aTR]
 match k,hk with
 | 0,_=>simp [first]
 | 1,_=>simp [first]
 | 2,_=>simp [first]
 | k+3,hk =>
  rw[List.cons_append,List.cons_append,List.cons_append,List.take_succ_cons,List.take_succ_cons,List.take_succ_cons,first,if_neg (by rw[List.length_take];omega)]
  simp

def cat:List (List Int)→List Int
 | []=>[]
 | l::t=>fr l++cat t
def good (L:List (List Int)):Prop:=∀l∈L,gV l∧l.length≤4000
theorem good.cons {l:List Int} {t:List (List Int)} (h:good (l::t)):(gV l∧l.length≤4000)∧good t:=⟨h l (by simp),fun x hx=>h x (by simp [hx])⟩
theorem aJH:∀(a b:List (List Int)),cat (a++b)=cat a++cat b
 | [],b=>rfl
 | l::a,b=>by rw[List.cons_append,cat,aJH a b,cat,List.append_assoc]
theorem aHI:∀{L:List (List Int)},good L→gV (cat L)
 | [],_=>gV.nil
 | l::t,h=>(aJQ h.cons.1.1 (by have:=h.cons.1.2;omega)).append (aHI h.cons.2)
theorem good.take {L:List (List Int)} (h:good L) (n:Nat):good (L.take n):=fun l hl=>h l (List.mem_of_mem_take hl)
theorem all_nil:all []=([],0):=rfl
theorem aQK:∀{L:List (List Int)},good L→∀(k w:Nat),w≤L.length→(cat (L.take w)).length≤k→(w=L.length∨k<(cat (L.take (w+1))).length)→all ((cat L).take k)=(L.take w,(cat (L.take w)).length)
 | [],_,k,w,hw,_,_=>by simp [cat,all_nil]
 | l::t,h,k,0,hw,_,h2=>by
  have hk:k<l.length+7:=by
   rcases h2 with h2 | h2
   · simp at h2
   · simpa [cat,wF] using h2
  rw[cat,all_no (aVD (by have:=h.cons.1.2;omega) _ hk)]
  simp [cat]
 | l::t,h,k,w+1,hw,h1,h2=>by
  have h4000:=h.cons.1.2
  simp only[List.take_succ_cons,cat,List.length_append,wF] at h1
  have ih:=aQK h.cons.2 (k - (l.length+7)) w (by simpa using hw) (by omega) (by
   rcases h2 with h2 | h2
   · left;simpa using h2
   · right
     simp only[List.take_succ_cons,cat,List.length_append,wF] at h2
     omega)
  have et:(cat (l::t)).take k=fr l++(cat t).take (k - (l.length+7)):=by
   rw[cat,List.take_append,wF,List.take_of_length_le (by rw[wF];omega)]
  rw[et,all_fr h.cons.1.1 (by omega) ((aHI h.cons.2).take _),ih]
  simp only[List.take_succ_cons,cat,List.length_append,wF]

end Go.Ws
