/-
  part.opposites, as the abstract machine takes it.
  Conditions: none.
-/
import Derived.Test.YtipeekdnpocclaaZOpp
import Derived.Test.YtipeekdnpocclaaZOppDef
import Derived.Test.YtipeekdnpocclaaZB2
set_option linter.unusedVariables false
set_option linter.unusedSimpArgs false
namespace Go.Ws
open Go.RowKit Go.Shelf Go.Proofs
set_option linter.unusedVariables false
set_option linter.unusedSimpArgs false

theorem aGT (f g:Nat→Int):∀(l:List Nat) (i j:Nat),l[i]? = some j→(Proofs.Try.oppC f g l)[i*2]? = some (.int .u8 (f j))∧(Proofs.Try.oppC f g l)[i*2+1]? = some (.int .i64 (ineg .i64 (g j)))
 | [],i,j,h=>by simp at h
 | a::l,0,j,h=>by
  simp at h;subst h
  refine⟨rfl,?_⟩
  show some (Value.int .i64 (Go.RowKit.wrap64 (-(g a))))=_
  rw[show ineg .i64 (g a)=Go.RowKit.wrap64 (-(g a)) by unfold ineg;rw[Int.zero_sub];simp [IntKind.wrap,IntKind.bits,IntKind.signed,Go.RowKit.wrap64]<;>omega]
 | a::l,i+1,j,h=>by
  have:=aGT f g l i j (by simpa using h)
  rw[show (i+1)*2=i*2+1+1 by omega]
  exact this

theorem opp_tri {x r:List (Int × Int)} (h:oppP x=some r):Tri Proofs.Try.prog 76 [.sl 2 (List.map aA x)] [] (.ref 2 0 0 0 r.length .virt) [.arr 2 (List.map aA r) 0 0 false]:=by
 unfold oppP at h
 have hl:x.length*16≤140737488355328:=Classical.byContradiction fun hh=>by rw[if_neg hh] at h;cases h
 rw[if_pos hl] at h
 obtain rfl:=Option.some.inj h
 refine⟨enters_of Proofs.Try.func76 (by kernel_rfl) rfl,by simp,?_⟩
 intro σ π w cargs R hv
 obtain⟨u,hu,hvu⟩:=hv.at_ (i:=0) rfl
 have hsz:=hv.1
 obtain rfl:cargs = #[u]:=by
  apply Array.ext
  · simpa using hsz
  · intro i h1 h2
    have:i=0:=by simp at h2;omega
    subst this
    rw[Array.getElem?_eq_some_iff] at hu
    obtain⟨_,hu⟩:=hu
    simpa using hu
 have hflat:∀y:List (Int × Int),dW 2 (List.map aA y):=by
  intro y row hr
  obtain⟨d,_,rfl⟩:=List.mem_map.1 hr
  exact⟨rfl,fun v hv=>by simp [aA] at hv;rcases hv with rfl | rfl<;>trivial⟩
 have fin:∀(w':World) (v:Value) (f g:Nat→Int) (hfg:∀j (hj:j<x.length),x[j]=(f j,g j)),w'.ownsRow w.heap.size 72 2 v x.length (Proofs.Try.oppC f g (Proofs.Try.down x.length x.length))→Below w.heap.size w w' →
  Ret σ π w (.ref 2 0 0 0 (oppL x).length .virt) [.arr 2 (List.map aA (oppL x)) 0 0 false] (.returned v) w':=by
  intro w' v f g hfg hown hb
  have hlen:(oppL x).length=x.length:=by simp [oppL]
  rw[hlen]
  obtain⟨σ',h1,h2⟩:=done_row R hb (by decide) (hflat (oppL x)) (by simp [hlen]) hown (fun r q row a hrow hq=>by
   rw[List.getElem?_map] at hrow
   obtain⟨d,hd,rfl⟩:=Option.map_eq_some_iff.1 hrow
   have hr:r<x.length:=by rw[← hlen];exact(List.getElem?_eq_some_iff.1 hd).1
   have hdn:(Proofs.Try.down x.length x.length)[r]? = some (x.length - 1 - r):=by
    simp [Proofs.Try.down,hr]
   obtain⟨c1,c2⟩:=aGT f g _ r _ hdn
   have hx:=hfg (x.length - 1 - r) (by omega)
   have hdd:d=(f (x.length - 1 - r),ineg .i64 (g (x.length - 1 - r))):=by
    have:(oppL x)[r]? = some (f (x.length - 1 - r),ineg .i64 (g (x.length - 1 - r))):=by
     simp only[oppL,List.getElem?_map,List.getElem?_reverse hr,List.getElem?_eq_getElem (show x.length - 1 - r<x.length by omega),hx,Option.map_some]
    rw[this] at hd
    exact(Option.some.inj hd).symm
   subst hdd
   match q,hq with
   | 0,hq=>simp [aA] at hq;subst hq;exact⟨_,c1,fun _ _ _=>.int _ _⟩
   | 1,hq=>simp [aA] at hq;subst hq;exact⟨_,c2,fun _ _ _=>.int _ _⟩
   | q+2,hq=>simp [aA] at hq)
  exact⟨v,σ',π,rfl,h1,h2⟩
 have zero:∀a c,x=[]→u = .slice a 0 c→Calls Proofs.Try.prog 76 #[u] w (Ret σ π w (.ref 2 0 0 0 (oppL x).length .virt) [.arr 2 (List.map aA (oppL x)) 0 0 false]):=by
  rintro a c rfl rfl
  refine(callsIn_wide (n:=4)).1 ((Proofs.Try.opp_in0 a c w).mono ?_)
  rintro e w' ⟨v,rfl,ho,hb⟩
  exact fin w' v (fun _=>0) (fun _=>0) (fun j hj=>by simp at hj) ho hb
 by_cases hx:x=[]
 · subst hx
   simp only[List.map_nil] at hvu
   obtain⟨a,c,rfl⟩:∃a c,u = .slice a 0 c:=by
    cases hvu with
    | sl0 sz a c h0=>exact⟨a,c,rfl⟩
    | sl sz rows B o c u hf hl hc hv=>exact⟨_,_,rfl⟩
   exact zero a c rfl rfl
 · generalize hrows:List.map aA x=rows at hvu
   have hlen:rows.length=x.length:=by rw[← hrows];simp
   have h2:∀j (hj:j<x.length),rows[j]? = some [.int .u8 x[j].1,.int .i64 x[j].2]:=by
    intro j hj
    rw[← hrows];simp [hj,aA]
   cases hvu with
   | sl0 sz a c h0=>simp at hrows;exact absurd hrows hx
   | sl sz rows B o c y hf hlc hcell hvx =>
    have hpos:0<x.length:=List.length_pos_iff.2 hx
    have hB:B<w.heap.size:=R.prot _ _ (hcell 0 0 _ _ (h2 0 hpos) rfl).2
    have:=Proofs.Try.opp_in B o rows.length c (fun j=>if h:j<x.length then x[j].1 else 0) (fun j=>if h:j<x.length then x[j].2 else 0) hlc (by omega) w hB (fun j hj=>by
     have hj':j<x.length:=by omega
     have k1:=(hcell j 0 _ _ (h2 j hj') rfl).1
     have v1:=hvx j 0 _ _ (h2 j hj') rfl
     have k2:=(hcell j 1 _ _ (h2 j hj') rfl).1
     have v2:=hvx j 1 _ _ (h2 j hj') rfl
     generalize y j 0=z at k1 v1
     generalize y j 1=z2 at k2 v2
     cases v1
     cases v2
     exact⟨by simpa [hj'] using k1,by simpa [hj'] using k2⟩)
    refine(callsIn_wide (n:=4)).1 (this.mono ?_)
    rintro e w' ⟨v,rfl,ho,hb⟩
    rw[hlen] at ho
    exact fin w' v _ _ (fun j hj=>by simp [hj]) ho hb
end Go.Ws
