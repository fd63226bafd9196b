/-
  sum.Sum, as the abstract machine takes it.
  Conditions: none.
-/
import Derived.Test.YtpaekffehfdmgaaGreatDoorZSum
import Derived.Test.YtpaekffehfdmgaaGreatDoorZB2
set_option linter.unusedVariables false
set_option linter.unusedSimpArgs false
namespace Go.Ws
open Go.RowKit Go.Shelf Go.Proofs
set_option linter.unusedVariables false
set_option linter.unusedSimpArgs false

theorem aM7:aIN []=1:=by simp [aIN,sumV,aA7];decide

theorem sum_tri {x:List Int} {r:Int} (h:sumP x=some r):Tri Proofs.Tryz.prog 57 [.sl 1 (List.map aN x)] [] (.int .u32 r) []:=by
 unfold sumP at h
 have hl:x.length≤140737488351232∧∀y∈x,0≤y∧y<256:=Classical.byContradiction fun hh=>by rw[if_neg hh] at h;cases h
 rw[if_pos hl] at h
 obtain⟨hl,hr⟩:=hl
 cases h
 refine⟨enters_of Proofs.Tryz.func57 (by kernel_rfl) rfl,by simp,?_⟩
 intro σ π w cargs R hv
 obtain⟨u,hu,hvu⟩:=hv.at_ (i:=0) rfl
 have hsz:=hv.1
 obtain rfl:cargs = #[u]:=by
  apply Array.ext
  · simpa using hsz
  · intro i h1 h2
    have:i=0:=by simp at h2;omega
    subst this
    rw[Array.getElem?_eq_some_iff] at hu
    obtain⟨_,hu⟩:=hu
    simpa using hu
 have zero:∀a c,x=[]→u = .slice a 0 c→Calls Proofs.Tryz.prog 57 #[u] w (Ret σ π w (.int .u32 (aIN x)) []):=by
  rintro a c rfl rfl
  refine(callsIn_wide (n:=4)).1 ((Proofs.Tryz.sum_in0 a c w).mono ?_)
  rintro e w' ⟨rfl,hb⟩
  rw[aM7]
  exact⟨_,σ,π,rfl,.int _ _,pK R hb⟩
 by_cases hx:x=[]
 · subst hx
   simp only[List.map_nil] at hvu
   obtain⟨a,c,rfl⟩:∃a c,u = .slice a 0 c:=by
    cases hvu with
    | sl0 sz a c h0=>exact⟨a,c,rfl⟩
    | sl sz rows B o c u hf hl hc hv=>exact⟨_,_,rfl⟩
   exact zero a c rfl rfl
 · generalize hrows:List.map aN x=rows at hvu
   have hlen:rows.length=x.length:=by rw[← hrows];simp
   have h2:∀j,j<rows.length→rows[j]? = some [.int .u8 (x.getD j 0)]∧0≤x.getD j 0∧x.getD j 0<256:=by
    intro j hj
    have hj':j<x.length:=by omega
    have:=hr _ (List.getElem_mem hj')
    refine⟨by rw[← hrows];simp [hj',aN],?_⟩
    simpa [hj'] using this
   cases hvu with
   | sl0 sz a c h0=>simp at hrows;exact absurd hrows hx
   | sl sz rows B o c y hf hlc hcell hvx =>
    have hpos:0<x.length:=List.length_pos_iff.2 hx
    have hB:B<w.heap.size:=R.prot _ _ (hcell 0 0 _ _ (h2 0 (by omega)).1 rfl).2
    have:=Proofs.Tryz.sum_in B o rows.length c (fun j=>if j<rows.length then x.getD j 0 else 0) (fun j=>by
     by_cases hj:j<rows.length
     · simpa [hj] using (h2 j hj).2
     · simp [hj]) hlc (by omega) w hB (fun j hj=>by
     have hc1:=(hcell j 0 _ _ (h2 j hj).1 rfl).1
     have hc2:=hvx j 0 _ _ (h2 j hj).1 rfl
     generalize y j 0=z at hc1 hc2
     cases hc2
     simpa [hj] using hc1)
    refine(callsIn_wide (n:=4)).1 (this.mono ?_)
    rintro e w' ⟨rfl,hb⟩
    refine⟨_,σ,π,rfl,?_,pK R hb⟩
    have he:(fun j=>if j<rows.length then x.getD j 0 else 0)=fun j=>x.getD j 0:=by
     funext j
     by_cases hj:j<rows.length
     · simp [hj]
     · rw[if_neg hj]
       simp [List.getElem?_eq_none (show x.length≤j by omega)]
    rw[he,aIN,hlen]
    exact .int _ _
end Go.Ws
