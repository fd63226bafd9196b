/-
  maps.Clone of the sides' map: a new map with the same entries.
  Conditions: none.
-/
import Derived.Shelf.SlMaps.Clone
import Derived.WalkKit
import Derived.Test.YtpaekffehfdmgaaGreatDoorProg
import Derived.Test.YtpaekffehfdmgaaGreatDoorZB2
set_option linter.unusedVariables false
set_option linter.unusedSimpArgs false
namespace Go.Proofs
open Go.Shelf Go.RowKit Go.Maps
set_option linter.unusedVariables false
set_option linter.unusedSimpArgs false

set_option maxRecDepth 100000 in
set_option maxHeartbeats 2000000 in
theorem Tryz.clone_in (b:Nat) (es:Array MapEntry) (clock:Nat) (w:World) (hb:w.heap[b]? = some (.map es clock)) :
 Calls Tryz.prog 41 #[.map (some b)] w fun e w'=>e = .returned (.map (some w.heap.size))∧w'=w.alloc (.map es clock):=by
 have hq:=fun w=>run_eql_map_nil_sl (P:=Tryz.prog) w 106 _ _ (some b) Tryz.underlying106
 go_enter Tryz.func41,Tryz.ntmps41
 go_wp2
 rw[run_callFunc_extern Tryz.func61 (by kernel_rfl) (by kernel_rfl) (by kernel_rfl) (e:=Extern.MapsClone.clone) (by kernel_rfl),run_maps_clone_sl w 106 hb]
 simp only[Result.andThen]
 rw[Oper.upon_value]
 go_wp2
 rw[run_typeAssert_map_sl _ 106 20 _ _ _ Tryz.underlying106]
 simp only[Result.andThen]
 rw[Oper.upon_value]
 go_wp2
 go_ret
 exact⟨rfl,rfl⟩
end Go.Proofs

namespace Go.Ws
open Go.Proofs
set_option linter.unusedVariables false

theorem aKN (es:List (AV × AV × Nat)) (cl:Nat) (hr:∀e∈es,e.1.refs=[]∧e.2.1.refs=[]):Tri Tryz.prog 41 [.mp 0] [.map es cl] (.mp 1) [.map es cl,.map es cl]:=by
 refine⟨enters_of Tryz.func41 (by kernel_rfl) rfl,by simp,fun σ π w cargs R hv=>?_⟩
 obtain⟨u,r,rfl,hu,hr'⟩:=hv.tail
 obtain rfl:r=[]:=by
  have:=hr'.1
  simpa using this
 cases hu with
 | mp _ l hl =>
  have hB:=R.blk 0 (.map es cl) rfl
  obtain⟨l',C,q1,q2,q3,q4,q5⟩:=hB
  rw[hl] at q1
  cases q1
  have hlt:=R.lt 0 0 l hl
  refine(Tryz.clone_in l.blk C cl w q2).mono ?_
  rintro e w' ⟨rfl,rfl⟩
  obtain⟨σ',hσ'⟩:∃σ':Sig,σ'=fun b g=>if b=1∧g=0 then some ⟨w.heap.size,0⟩ else σ b g:=⟨_,rfl⟩
  have h10:σ' 1 0=some ⟨w.heap.size,0⟩:=by rw[hσ'];simp
  have hold:∀b g,b≠1→σ' b g=σ b g:=fun b g hb=>by rw[hσ'];simp [hb]
  have hn1:∀g,σ 1 g=none:=fun g=>R.non 1 rfl g
  have sub:∀b g x,σ b g=some x→σ' b g=some x:=fun b g x h=>by
   rw[hold b g (fun e=>by subst e;rw[hn1] at h;cases h)];exact h
  have back:∀b g x,σ' b g=some x→(b=1∧x=⟨w.heap.size,0⟩)∨σ b g=some x:=fun b g x h=>by
   rw[hσ'] at h
   simp only at h
   split at h
   · rename_i hc
     cases h
     exact .inl ⟨hc.1,rfl⟩
   · exact .inr h
  have E:Ext σ π w σ' π (w.alloc (.map C cl)):=⟨sub,fun _ _ h=>h,fun B o h=>by
   have:=R.prot B o h
   simp only[World.cell?]
   rw[dC w _ this],fun b g x C e fr hx hC=>⟨C,fr,(dC w _ (R.lt b g x hx)).trans hC,rfl⟩,fun B o C k hp hC=>(dC w _ (R.prot B o hp)).trans hC⟩
  refine⟨_,σ',π,rfl,.mp _ ⟨w.heap.size,0⟩ h10,E,⟨by simp,rfl,rfl,rfl,fun B hB _=>dC w _ hB,fun b g x hx=>?_,fun B o h=>.inl h⟩,⟨fun b x hx=>?_,fun b hb g=>?_,fun b g b' g' x x' hx hx' he=>?_,fun b g x hx=>?_,fun B o h=>?_⟩⟩
  · rcases back b g x hx with⟨_,rfl⟩ | h
    · exact .inl (Nat.le_refl _)
    · exact .inr ⟨b,g,x,h,rfl⟩
  · match b,hx with
    | 0,hx =>
     cases hx
     exact BR.mono E (x:=.map es cl) (R.blk 0 _ rfl) (fun g=>hold 0 g (by decide)) (fun g x h=>dC w _ (R.lt 0 g x h)) (fun _ _ _ _ h=>h)
    | 1,hx =>
     cases hx
     refine⟨⟨w.heap.size,0⟩,C,h10,World.alloc_heap_new w _,q3,fun o ho=>?_,fun i k v born e hi he=>?_⟩
     · have:=R.prot _ _ ho
       simp at this
     · obtain⟨a1,a2,a3,a4,a5⟩:=q5 i k v born e hi he
       exact⟨a1.mono E,a2.mono E,a3,a4,a5⟩
    | b+2,hx=>simp at hx
  · match b,hb with
    | 0,hb=>simp at hb
    | 1,hb=>simp at hb
    | b+2,_=>rw[hold _ _ (by omega)];exact R.non _ rfl g
  · rcases back b g x hx with⟨rfl,rfl⟩ | h<;>rcases back b' g' x' hx' with⟨rfl,rfl⟩ | h'
    · rfl
    · have:=R.lt _ _ _ h';simp at he;omega
    · have:=R.lt _ _ _ h;simp at he;omega
    · exact R.inj _ _ _ _ _ _ h h' he
  · rcases back b g x hx with⟨_,rfl⟩ | h
    · simp
    · have:=R.lt _ _ _ h;simp;omega
  · have:=R.prot _ _ h;simp;omega
end Go.Ws
