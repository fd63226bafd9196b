/-
  A site whose parts are all decided: its numbers are the model's.
  Conditions: none.
-/
import Derived.Test.YtipeekdnpocclaaZModelL
set_option linter.unusedVariables false
set_option linter.unusedSimpArgs false
namespace Go.Ws.L10
open L7 L8 L9
set_option linter.unusedVariables false
set_option linter.unusedSimpArgs false
set_option maxHeartbeats 1000000
theorem aVH {V:Type}:∀{M:List (Int × V)},(M.map (·.1)).Nodup→∀x∈M,bD M x.1=some x.2
 | [],_,x,hx=>by cases hx
 | (k,v)::M,h,x,hx=>by
  rw[List.map_cons,List.nodup_cons] at h
  simp only[bD]
  rcases List.mem_cons.1 hx with rfl | hx
  · rw[if_pos rfl]
  · rw[if_neg (fun e=>h.1 (by rw[← e];exact List.mem_map.2 ⟨x,hx,rfl⟩)),aVH h.2 x hx]
theorem rt_out {p:Pt} (h:PtOk p):(p.1=3→p.2.2.2=1∨p.2.2.2=2)∧(p.1≠3→p.2.2.2=0):=by
 obtain⟨⟨_,_,_,q⟩,_⟩:=h
 rcases q with⟨h1,h2⟩ | ⟨h1,h2,_⟩
 · exact⟨fun _=>h2,fun h=>absurd h1 h⟩
 · exact⟨fun h=>absurd h h1,fun _=>h2⟩
end Go.Ws.L10
