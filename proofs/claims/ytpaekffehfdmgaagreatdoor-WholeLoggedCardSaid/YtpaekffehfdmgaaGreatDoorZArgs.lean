/-
  The laws' arguments as plain data. (Printed by my own program.)
  Conditions: none.
-/
import Derived.Test.YtpaekffehfdmgaaGreatDoorZPre
import Derived.Test.YtpaekffehfdmgaaGreatDoorZWf
import Derived.Test.YtpaekffehfdmgaaGreatDoorZB2
set_option linter.unusedVariables false
set_option linter.unusedSimpArgs false
namespace Go.Ws
open Go.Proofs
set_option linter.unusedSimpArgs false
set_option linter.unusedVariables false
set_option maxRecDepth 1000000
set_option maxHeartbeats 4000000

theorem aOU:∀{n:Nat} {c:List AV},oU Tryz.prog n 5 c→∃x,c=aJ x∧w_t5 x
 | 0,_,h=>h.elim
 | n+1,c,h=>by
  have u:Tryz.prog.underlying 5=some (.int .u8):=by kernel_rfl
  simp only[oU,u] at h
  obtain⟨i,rfl,h⟩:=h
  exact⟨i,rfl,by simpa [w_t5,IntKind.min,IntKind.max,IntKind.signed,IntKind.bits] using h⟩
theorem argc_t2:∀{n:Nat} {c:List AV},oU Tryz.prog n 2 c→∃x,c=yV x∧w_t2 x
 | 0,_,h=>h.elim
 | n+1,c,h=>by
  have u:Tryz.prog.underlying 2=some (.int .i64):=by kernel_rfl
  simp only[oU,u] at h
  obtain⟨i,rfl,h⟩:=h
  exact⟨i,rfl,by simpa [w_t2,IntKind.min,IntKind.max,IntKind.signed,IntKind.bits] using h⟩
def e_b (x:Bool):List AV:=[(.bool x)]
theorem argc_t4:∀{n:Nat} {c:List AV},oU Tryz.prog n 4 c→∃x,c=e_b x∧w_t4 x
 | 0,_,h=>h.elim
 | n+1,c,h=>by
  have u:Tryz.prog.underlying 4=some (.bool):=by kernel_rfl
  simp only[oU,u] at h
  obtain⟨i,rfl⟩:=h
  exact⟨i,rfl,trivial⟩
theorem argc_t31:∀{n:Nat} {c:List AV},oU Tryz.prog n 31 c→∃x,c=fH x∧w_t31 x
 | 0,_,h=>h.elim
 | n+1,c,h=>by
  have u:Tryz.prog.underlying 31=some (.struct (Tryz.prog.fieldsOf 31)):=by kernel_rfl
  have f:(Tryz.prog.fieldsOf 31).toList.map (fun f=>(f.offset,f.type))=[(0,5),(1,5),(2,5),(3,2),(4,4)]:=by kernel_rfl
  have k:Tryz.prog.cellsOf 31=5:=by kernel_rfl
  simp only[oU,u] at h
  obtain⟨hl,hf⟩:=h
  rw[k] at hl
  have g:∀p∈[((0:Nat),(5:Nat)),((1:Nat),(5:Nat)),((2:Nat),(5:Nat)),((3:Nat),(2:Nat)),((4:Nat),(4:Nat))],oU Tryz.prog n p.2 ((c.drop p.1).take (Tryz.prog.cellsOf p.2)):=by
   rw[← f];intro p hp;obtain⟨f0,m0,rfl⟩:=List.mem_map.1 hp;exact hf f0 m0
  match c,hl with
  | [a0,a1,a2,a3,a4],_ =>
   have k0:Tryz.prog.cellsOf 5=1:=by kernel_rfl
   obtain⟨y0,q0,p0⟩:=aOU (g (0,5) (by simp))
   rw[show (Tryz.prog.cellsOf (0,5).2)=1 from k0] at q0;replace q0:[a0]=aJ y0:=q0
   have k1:Tryz.prog.cellsOf 5=1:=by kernel_rfl
   obtain⟨y1,q1,p1⟩:=aOU (g (1,5) (by simp))
   rw[show (Tryz.prog.cellsOf (1,5).2)=1 from k1] at q1;replace q1:[a1]=aJ y1:=q1
   have k2:Tryz.prog.cellsOf 5=1:=by kernel_rfl
   obtain⟨y2,q2,p2⟩:=aOU (g (2,5) (by simp))
   rw[show (Tryz.prog.cellsOf (2,5).2)=1 from k2] at q2;replace q2:[a2]=aJ y2:=q2
   have k3:Tryz.prog.cellsOf 2=1:=by kernel_rfl
   obtain⟨y3,q3,p3⟩:=argc_t2 (g (3,2) (by simp))
   rw[show (Tryz.prog.cellsOf (3,2).2)=1 from k3] at q3;replace q3:[a3]=yV y3:=q3
   have k4:Tryz.prog.cellsOf 4=1:=by kernel_rfl
   obtain⟨y4,q4,p4⟩:=argc_t4 (g (4,4) (by simp))
   rw[show (Tryz.prog.cellsOf (4,4).2)=1 from k4] at q4;replace q4:[a4]=e_b y4:=q4
   refine⟨(y0,y1,y2,y3,y4),?_,p0,p1,p2,p3,p4⟩
   have q:[a0,a1,a2,a3,a4]=aJ y0++aJ y1++aJ y2++yV y3++e_b y4:=by rw[← q0,← q1,← q2,← q3,← q4];rfl
   exact q
def aJ5 (x:List (Int × Int × Int × Int × Bool)):List AV:=[(.sl 5 (List.map fH x))]
theorem argc_t22:∀{n:Nat} {c:List AV},oU Tryz.prog n 22 c→∃x,c=aJ5 x∧w_t22 x
 | 0,_,h=>h.elim
 | n+1,c,h=>by
  have u:Tryz.prog.underlying 22=some (.slice 31):=by kernel_rfl
  simp only[oU,u] at h
  have k:Tryz.prog.cellsOf 31=5:=by kernel_rfl
  obtain⟨rows,rfl,hl,hr⟩:=h
  obtain⟨L,rfl,hL⟩:=aTL fH w_t31 rows (fun row m=>argc_t31 (hr row m).2)
  exact⟨L,by rw[k];rfl,by simpa using hl,hL⟩
theorem argv_t22 {n:Nat} {v:AV} (h:aIL Tryz.prog n 22 v):∃x,v=(.sl 5 (List.map fH x))∧w_t22 x:=by
 have u:Tryz.prog.underlying 22=some (.slice 31):=by kernel_rfl
 have h2:oU Tryz.prog n 22 [v]:=by simpa only[aIL,u] using h
 obtain⟨x,hx,w⟩:=argc_t22 h2
 exact⟨x,(List.cons.inj hx).1,w⟩
def e_u16 (x:Int):List AV:=[(.int .u16 x)]
theorem argc_t23:∀{n:Nat} {c:List AV},oU Tryz.prog n 23 c→∃x,c=e_u16 x∧w_t23 x
 | 0,_,h=>h.elim
 | n+1,c,h=>by
  have u:Tryz.prog.underlying 23=some (.int .u16):=by kernel_rfl
  simp only[oU,u] at h
  obtain⟨i,rfl,h⟩:=h
  exact⟨i,rfl,by simpa [w_t23,IntKind.min,IntKind.max,IntKind.signed,IntKind.bits] using h⟩
theorem argv_t23 {n:Nat} {v:AV} (h:aIL Tryz.prog n 23 v):∃x,v=(.int .u16 x)∧w_t23 x:=by
 have u:Tryz.prog.underlying 23=some (.int .u16):=by kernel_rfl
 have h2:oU Tryz.prog n 23 [v]:=by simpa only[aIL,u] using h
 obtain⟨x,hx,w⟩:=argc_t23 h2
 exact⟨x,(List.cons.inj hx).1,w⟩
end Go.Ws
