/-
  The laws' arguments as plain data. (Printed by my own program.)
  Conditions: none.
-/
import Derived.Test.YtipeekdnpocclaaZPre
import Derived.Test.YtipeekdnpocclaaZWf
import Derived.Test.YtipeekdnpocclaaZB2
set_option linter.unusedVariables false
set_option linter.unusedSimpArgs false
namespace Go.Ws
open Go.Proofs
set_option linter.unusedSimpArgs false
set_option linter.unusedVariables false
set_option maxRecDepth 1000000
set_option maxHeartbeats 4000000

theorem aWG:∀{n:Nat} {c:List AV},sY Try.prog n 3 c→∃x,c=bW x∧w_t3 x
 | 0,_,h=>h.elim
 | n+1,c,h=>by
  have u:Try.prog.underlying 3=some (.int .i64):=by kernel_rfl
  simp only[sY,u] at h
  obtain⟨i,rfl,h⟩:=h
  exact⟨i,rfl,by simpa [w_t3,IntKind.min,IntKind.max,IntKind.signed,IntKind.bits] using h⟩
theorem argc_t5:∀{n:Nat} {c:List AV},sY Try.prog n 5 c→∃x,c=e_u8 x∧w_t5 x
 | 0,_,h=>h.elim
 | n+1,c,h=>by
  have u:Try.prog.underlying 5=some (.int .u8):=by kernel_rfl
  simp only[sY,u] at h
  obtain⟨i,rfl,h⟩:=h
  exact⟨i,rfl,by simpa [w_t5,IntKind.min,IntKind.max,IntKind.signed,IntKind.bits] using h⟩
theorem argc_t2:∀{n:Nat} {c:List AV},sY Try.prog n 2 c→∃x,c=bW x∧w_t2 x
 | 0,_,h=>h.elim
 | n+1,c,h=>by
  have u:Try.prog.underlying 2=some (.int .i64):=by kernel_rfl
  simp only[sY,u] at h
  obtain⟨i,rfl,h⟩:=h
  exact⟨i,rfl,by simpa [w_t2,IntKind.min,IntKind.max,IntKind.signed,IntKind.bits] using h⟩
theorem argc_t57:∀{n:Nat} {c:List AV},sY Try.prog n 57 c→∃x,c=aC x∧w_t57 x
 | 0,_,h=>h.elim
 | n+1,c,h=>by
  have u:Try.prog.underlying 57=some (.struct (Try.prog.fieldsOf 57)):=by kernel_rfl
  have f:(Try.prog.fieldsOf 57).toList.map (fun f=>(f.offset,f.type))=[(0,3),(1,3),(2,5),(3,2)]:=by kernel_rfl
  have k:Try.prog.cellsOf 57=4:=by kernel_rfl
  simp only[sY,u] at h
  obtain⟨hl,hf⟩:=h
  rw[k] at hl
  have g:∀p∈[((0:Nat),(3:Nat)),((1:Nat),(3:Nat)),((2:Nat),(5:Nat)),((3:Nat),(2:Nat))],sY Try.prog n p.2 ((c.drop p.1).take (Try.prog.cellsOf p.2)):=by
   rw[← f];intro p hp;obtain⟨f0,m0,rfl⟩:=List.mem_map.1 hp;exact hf f0 m0
  match c,hl with
  | [a0,a1,a2,a3],_ =>
   have k0:Try.prog.cellsOf 3=1:=by kernel_rfl
   obtain⟨y0,q0,p0⟩:=aWG (g (0,3) (by simp))
   rw[show (Try.prog.cellsOf (0,3).2)=1 from k0] at q0;replace q0:[a0]=bW y0:=q0
   have k1:Try.prog.cellsOf 3=1:=by kernel_rfl
   obtain⟨y1,q1,p1⟩:=aWG (g (1,3) (by simp))
   rw[show (Try.prog.cellsOf (1,3).2)=1 from k1] at q1;replace q1:[a1]=bW y1:=q1
   have k2:Try.prog.cellsOf 5=1:=by kernel_rfl
   obtain⟨y2,q2,p2⟩:=argc_t5 (g (2,5) (by simp))
   rw[show (Try.prog.cellsOf (2,5).2)=1 from k2] at q2;replace q2:[a2]=e_u8 y2:=q2
   have k3:Try.prog.cellsOf 2=1:=by kernel_rfl
   obtain⟨y3,q3,p3⟩:=argc_t2 (g (3,2) (by simp))
   rw[show (Try.prog.cellsOf (3,2).2)=1 from k3] at q3;replace q3:[a3]=bW y3:=q3
   refine⟨(y0,y1,y2,y3),?_,p0,p1,p2,p3⟩
   have q:[a0,a1,a2,a3]=bW y0++bW y1++e_u8 y2++bW y3:=by rw[← q0,← q1,← q2,← q3];rfl
   exact q
def aJH (x:List (Int × Int × Int × Int)):List AV:=[(.sl 4 (List.map aC x))]
theorem argc_t22:∀{n:Nat} {c:List AV},sY Try.prog n 22 c→∃x,c=aJH x∧w_t22 x
 | 0,_,h=>h.elim
 | n+1,c,h=>by
  have u:Try.prog.underlying 22=some (.slice 57):=by kernel_rfl
  simp only[sY,u] at h
  have k:Try.prog.cellsOf 57=4:=by kernel_rfl
  obtain⟨rows,rfl,hl,hr⟩:=h
  obtain⟨L,rfl,hL⟩:=aWA aC w_t57 rows (fun row m=>argc_t57 (hr row m).2)
  exact⟨L,by rw[k];rfl,by simpa using hl,hL⟩
theorem argv_t22 {n:Nat} {v:AV} (h:ArgV Try.prog n 22 v):∃x,v=(.sl 4 (List.map aC x))∧w_t22 x:=by
 have u:Try.prog.underlying 22=some (.slice 57):=by kernel_rfl
 have h2:sY Try.prog n 22 [v]:=by simpa only[ArgV,u] using h
 obtain⟨x,hx,w⟩:=argc_t22 h2
 exact⟨x,(List.cons.inj hx).1,w⟩
end Go.Ws
