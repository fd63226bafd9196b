/-
  A site whose parts are all decided: its numbers are the model's.
  Conditions: none.
-/
import Derived.Test.YtipeekdnpocclaaZModelL
set_option linter.unusedVariables false
set_option linter.unusedSimpArgs false
namespace Go.Ws.L10
open L7 L8 L9
set_option linter.unusedVariables false
set_option linter.unusedSimpArgs false
set_option maxHeartbeats 1000000
theorem aND {V:Type}:∀{M:List (Int × V)},(M.map (·.1)).Nodup→∀x∈M,bD M x.1=some x.2
 | [],_,x,hx=>by cases hx
 | (k,v)::M,h,x,hx=>by
  rw[List.map_cons,List.nodup_cons] at h
  simp only[bD]
  rcases List.mem_cons.1 hx with rfl | hx
  · rw[if_pos rfl]
  · rw[if_neg (fun e=>h.1 (by rw[← e];exact List.mem_map.2 ⟨x,hx,rfl⟩)),aND h.2 x hx]
theorem rt_out {p:Pt} (h:PtOk p):(p.1=3→p.2.2.2=1∨p.2.2.2=2)∧(p.1≠3→p.2.2.2=0):=by
 obtain⟨⟨_,_,_,q⟩,_⟩:=h
 rcases q with⟨h1,h2⟩ | ⟨h1,h2,_⟩
 · exact⟨fun _=>h2,fun h=>absurd h1 h⟩
 · exact⟨fun h=>absurd h h1,fun _=>h2⟩
theorem sum_done {s:St} {N:Nat} (I:Inv s N) (G:Lg s) (hd:∀t p,bD s.M t=some p→p.1=3) {k:Int} (h0:0≤k) (h1:k<64):zP s.L k=zP (ofL (aCQ s.G)) k:=by
 rw[aEX I.led,aEX (aB2 _),aNU _ _ h0 h1,I.sum k h0 h1]
 unfold mG
 refine uV ?_
 have e:=G.sum (fun t=>isO (lJ [] s.G) t 1) k
 unfold aCQ
 rw[e]
 have ee:zQ s.M=aDE (fun x=>nV x.2) s.M:=rfl
 rw[ee]
 refine aGE fun x hx=>?_
 have hg:=aND I.nd x hx
 have h3:=hd _ _ hg
 have ho:=G.out _ _ hg
 rw[if_pos h3] at ho
 have ho':bD (lJ [] s.G) x.1=some x.2.2.2.2:=ho
 rw[isO_t ho']
 have hop:=aNX x.2.2.1 k
 rcases (rt_out (I.pt _ _ hg).1).1 h3 with hw | hw
 · rw[hw,if_pos (by rfl)]
   have:nV x.2=x.2.2.1:=by unfold nV eff;rw[hw,if_pos rfl]
   rw[this]
 · rw[hw,if_neg (by simp [eqI])]
   rw[lV]
   unfold nV eff
   rw[hw,if_neg (by decide)]
   by_cases hc:x.2.2.2.1=true
   · rw[if_neg (by omega),if_pos ⟨h3,hc⟩,f7];omega
   · rw[if_neg (by omega),if_neg (fun h=>hc h.2),lV]
end Go.Ws.L10
