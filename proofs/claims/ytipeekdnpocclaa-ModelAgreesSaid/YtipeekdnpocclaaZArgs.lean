/-
  The laws' arguments as plain data. (Printed by my own program.)
  Conditions: none.
-/
import Derived.Test.YtipeekdnpocclaaZPre
import Derived.Test.YtipeekdnpocclaaZWf
import Derived.Test.YtipeekdnpocclaaZB2
set_option linter.unusedVariables false
set_option linter.unusedSimpArgs false
namespace Go.Ws
open Go.Proofs
set_option linter.unusedSimpArgs false
set_option linter.unusedVariables false
set_option maxRecDepth 1000000
set_option maxHeartbeats 4000000

theorem aJS:∀{n:Nat} {c:List AV},kY Try.prog n 3 c→∃x,c=aO x∧w_t3 x
 | 0,_,h=>h.elim
 | n+1,c,h=>by
  have u:Try.prog.underlying 3=some (.int .i64):=by kernel_rfl
  simp only[kY,u] at h
  obtain⟨i,rfl,h⟩:=h
  exact⟨i,rfl,by simpa [w_t3,IntKind.min,IntKind.max,IntKind.signed,IntKind.bits] using h⟩
theorem argc_t5:∀{n:Nat} {c:List AV},kY Try.prog n 5 c→∃x,c=e_u8 x∧w_t5 x
 | 0,_,h=>h.elim
 | n+1,c,h=>by
  have u:Try.prog.underlying 5=some (.int .u8):=by kernel_rfl
  simp only[kY,u] at h
  obtain⟨i,rfl,h⟩:=h
  exact⟨i,rfl,by simpa [w_t5,IntKind.min,IntKind.max,IntKind.signed,IntKind.bits] using h⟩
theorem argv_t5 {n:Nat} {v:AV} (h:aAK Try.prog n 5 v):∃x,v=(.int .u8 x)∧w_t5 x:=by
 have u:Try.prog.underlying 5=some (.int .u8):=by kernel_rfl
 have h2:kY Try.prog n 5 [v]:=by simpa only[aAK,u] using h
 obtain⟨x,hx,w⟩:=argc_t5 h2
 exact⟨x,(List.cons.inj hx).1,w⟩
theorem argc_t46:∀{n:Nat} {c:List AV},kY Try.prog n 46 c→∃x,c=bW x∧w_t46 x
 | 0,_,h=>h.elim
 | n+1,c,h=>by
  have u:Try.prog.underlying 46=some (.struct (Try.prog.fieldsOf 46)):=by kernel_rfl
  have f:(Try.prog.fieldsOf 46).toList.map (fun f=>(f.offset,f.type))=[(0,3),(1,3)]:=by kernel_rfl
  have k:Try.prog.cellsOf 46=2:=by kernel_rfl
  simp only[kY,u] at h
  obtain⟨hl,hf⟩:=h
  rw[k] at hl
  have g:∀p∈[((0:Nat),(3:Nat)),((1:Nat),(3:Nat))],kY Try.prog n p.2 ((c.drop p.1).take (Try.prog.cellsOf p.2)):=by
   rw[← f];intro p hp;obtain⟨f0,m0,rfl⟩:=List.mem_map.1 hp;exact hf f0 m0
  match c,hl with
  | [a0,a1],_ =>
   have k0:Try.prog.cellsOf 3=1:=by kernel_rfl
   obtain⟨y0,q0,p0⟩:=aJS (g (0,3) (by simp))
   rw[show (Try.prog.cellsOf (0,3).2)=1 from k0] at q0;replace q0:[a0]=aO y0:=q0
   have k1:Try.prog.cellsOf 3=1:=by kernel_rfl
   obtain⟨y1,q1,p1⟩:=aJS (g (1,3) (by simp))
   rw[show (Try.prog.cellsOf (1,3).2)=1 from k1] at q1;replace q1:[a1]=aO y1:=q1
   refine⟨(y0,y1),?_,p0,p1⟩
   have q:[a0,a1]=aO y0++aO y1:=by rw[← q0,← q1];rfl
   exact q
theorem argc_t31:∀{n:Nat} {c:List AV},kY Try.prog n 31 c→∃x,c=bD x∧w_t31 x
 | 0,_,h=>h.elim
 | n+1,c,h=>by
  have u:Try.prog.underlying 31=some (.slice 46):=by kernel_rfl
  simp only[kY,u] at h
  have k:Try.prog.cellsOf 46=2:=by kernel_rfl
  obtain⟨rows,rfl,hl,hr⟩:=h
  obtain⟨L,rfl,hL⟩:=aDV bW w_t46 rows (fun row m=>argc_t46 (hr row m).2)
  exact⟨L,by rw[k];rfl,by simpa using hl,hL⟩
def aEZ (x:List (List (Int × Int))):List AV:=[(.sl 1 (List.map bD x))]
theorem argc_t48:∀{n:Nat} {c:List AV},kY Try.prog n 48 c→∃x,c=aEZ x∧w_t48 x
 | 0,_,h=>h.elim
 | n+1,c,h=>by
  have u:Try.prog.underlying 48=some (.slice 31):=by kernel_rfl
  simp only[kY,u] at h
  have k:Try.prog.cellsOf 31=1:=by kernel_rfl
  obtain⟨rows,rfl,hl,hr⟩:=h
  obtain⟨L,rfl,hL⟩:=aDV bD w_t31 rows (fun row m=>argc_t31 (hr row m).2)
  exact⟨L,by rw[k];rfl,by simpa using hl,hL⟩
theorem argv_t48 {n:Nat} {v:AV} (h:aAK Try.prog n 48 v):∃x,v=(.sl 1 (List.map bD x))∧w_t48 x:=by
 have u:Try.prog.underlying 48=some (.slice 31):=by kernel_rfl
 have h2:kY Try.prog n 48 [v]:=by simpa only[aAK,u] using h
 obtain⟨x,hx,w⟩:=argc_t48 h2
 exact⟨x,(List.cons.inj hx).1,w⟩
end Go.Ws
