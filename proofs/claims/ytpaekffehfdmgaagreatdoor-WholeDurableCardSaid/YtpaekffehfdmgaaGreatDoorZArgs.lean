/-
  The laws' arguments as plain data. (Printed by my own program.)
  Conditions: none.
-/
import Derived.Test.YtpaekffehfdmgaaGreatDoorZPre
import Derived.Test.YtpaekffehfdmgaaGreatDoorZWf
import Derived.Test.YtpaekffehfdmgaaGreatDoorZB2
set_option linter.unusedVariables false
set_option linter.unusedSimpArgs false
namespace Go.Ws
open Go.Proofs
set_option linter.unusedSimpArgs false
set_option linter.unusedVariables false
set_option maxRecDepth 1000000
set_option maxHeartbeats 4000000

theorem argc_t23:∀{n:Nat} {c:List AV},lJ Tryz.prog n 23 c→∃x,c=b7 x∧aFE x
 | 0,_,h=>h.elim
 | n+1,c,h=>by
  have u:Tryz.prog.underlying 23=some (.int .u16):=by kernel_rfl
  simp only[lJ,u] at h
  obtain⟨i,rfl,h⟩:=h
  exact⟨i,rfl,by simpa [aFE,IntKind.min,IntKind.max,IntKind.signed,IntKind.bits] using h⟩
def e_Lu16E (x:List Int):List AV:=[(.sl 1 (List.map b7 x))]
theorem argc_t54:∀{n:Nat} {c:List AV},lJ Tryz.prog n 54 c→∃x,c=e_Lu16E x∧w_t54 x
 | 0,_,h=>h.elim
 | n+1,c,h=>by
  have u:Tryz.prog.underlying 54=some (.slice 23):=by kernel_rfl
  simp only[lJ,u] at h
  have k:Tryz.prog.cellsOf 23=1:=by kernel_rfl
  obtain⟨rows,rfl,hl,hr⟩:=h
  obtain⟨L,rfl,hL⟩:=aHH b7 aFE rows (fun row m=>argc_t23 (hr row m).2)
  exact⟨L,by rw[k];rfl,by simpa using hl,hL⟩
theorem argv_t54 {n:Nat} {v:AV} (h:aB7 Tryz.prog n 54 v):∃x,v=(.sl 1 (List.map b7 x))∧w_t54 x:=by
 have u:Tryz.prog.underlying 54=some (.slice 23):=by kernel_rfl
 have h2:lJ Tryz.prog n 54 [v]:=by simpa only[aB7,u] using h
 obtain⟨x,hx,w⟩:=argc_t54 h2
 exact⟨x,(List.cons.inj hx).1,w⟩
theorem argc_t5:∀{n:Nat} {c:List AV},lJ Tryz.prog n 5 c→∃x,c=aN x∧w_t5 x
 | 0,_,h=>h.elim
 | n+1,c,h=>by
  have u:Tryz.prog.underlying 5=some (.int .u8):=by kernel_rfl
  simp only[lJ,u] at h
  obtain⟨i,rfl,h⟩:=h
  exact⟨i,rfl,by simpa [w_t5,IntKind.min,IntKind.max,IntKind.signed,IntKind.bits] using h⟩
theorem argc_t27:∀{n:Nat} {c:List AV},lJ Tryz.prog n 27 c→∃x,c=fT x∧w_t27 x
 | 0,_,h=>h.elim
 | n+1,c,h=>by
  have u:Tryz.prog.underlying 27=some (.slice 5):=by kernel_rfl
  simp only[lJ,u] at h
  have k:Tryz.prog.cellsOf 5=1:=by kernel_rfl
  obtain⟨rows,rfl,hl,hr⟩:=h
  obtain⟨L,rfl,hL⟩:=aHH aN w_t5 rows (fun row m=>argc_t5 (hr row m).2)
  exact⟨L,by rw[k];rfl,by simpa using hl,hL⟩
theorem argv_t27 {n:Nat} {v:AV} (h:aB7 Tryz.prog n 27 v):∃x,v=(.sl 1 (List.map aN x))∧w_t27 x:=by
 have u:Tryz.prog.underlying 27=some (.slice 5):=by kernel_rfl
 have h2:lJ Tryz.prog n 27 [v]:=by simpa only[aB7,u] using h
 obtain⟨x,hx,w⟩:=argc_t27 h2
 exact⟨x,(List.cons.inj hx).1,w⟩
end Go.Ws
