/-
  A site whose parts are all decided: its numbers are the model's.
  Conditions: none.
-/
import Derived.Test.YtipeekdnpocclaaZModelL
set_option linter.unusedVariables false
set_option linter.unusedSimpArgs false
namespace Go.Ws.L10
open L7 L8 L9
set_option linter.unusedVariables false
set_option linter.unusedSimpArgs false
set_option maxHeartbeats 1000000
theorem aO6 {V:Type}:∀{M:List (Int × V)},(M.map (·.1)).Nodup→∀x∈M,bC M x.1=some x.2
 | [],_,x,hx=>by cases hx
 | (k,v)::M,h,x,hx=>by
  rw[List.map_cons,List.nodup_cons] at h
  simp only[bC]
  rcases List.mem_cons.1 hx with rfl | hx
  · rw[if_pos rfl]
  · rw[if_neg (fun e=>h.1 (by rw[← e];exact List.mem_map.2 ⟨x,hx,rfl⟩)),aO6 h.2 x hx]
theorem rt_out {p:Pt} (h:PtOk p):(p.1=3→p.2.2.2=1∨p.2.2.2=2)∧(p.1≠3→p.2.2.2=0):=by
 obtain⟨⟨_,_,_,q⟩,_⟩:=h
 rcases q with⟨h1,h2⟩ | ⟨h1,h2,_⟩
 · exact⟨fun _=>h2,fun h=>absurd h1 h⟩
 · exact⟨fun h=>absurd h h1,fun _=>h2⟩
theorem sum_done {s:St} {N:Nat} (I:Inv s N) (G:Lg s) (hd:∀t p,bC s.M t=some p→p.1=3) {k:Int} (h0:0≤k) (h1:k<64):aA4 s.L k=aA4 (ofL (aAZ s.G)) k:=by
 rw[aGO I.led,aGO (aDM _),aPQ _ _ h0 h1,I.sum k h0 h1]
 unfold nC
 refine wH ?_
 have e:=G.sum (fun t=>isO (kK [] s.G) t 1) k
 unfold aAZ
 rw[e]
 have ee:aA5 s.M=aE0 (fun x=>oU x.2) s.M:=rfl
 rw[ee]
 refine aH4 fun x hx=>?_
 have hg:=aO6 I.nd x hx
 have h3:=hd _ _ hg
 have ho:=G.out _ _ hg
 rw[if_pos h3] at ho
 have ho':bC (kK [] s.G) x.1=some x.2.2.2.2:=ho
 rw[isO_t ho']
 have hop:=aPT x.2.2.1 k
 rcases (rt_out (I.pt _ _ hg).1).1 h3 with hw | hw
 · rw[hw,if_pos (by rfl)]
   have:oU x.2=x.2.2.1:=by unfold oU eff;rw[hw,if_pos rfl]
   rw[this]
 · rw[hw,if_neg (by simp [eqI])]
   rw[mS]
   unfold oU eff
   rw[hw,if_neg (by decide)]
   by_cases hc:x.2.2.2.1=true
   · rw[if_neg (by omega),if_pos ⟨h3,hc⟩,gG];omega
   · rw[if_neg (by omega),if_neg (fun h=>hc h.2),mS]
end Go.Ws.L10
