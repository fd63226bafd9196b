/-
  The law of a range over the iterator over the cells.
  Conditions: none.
-/
import Derived.Test.YtpaekffehfdmgaaGreatDoorZItA
set_option linter.unusedVariables false
set_option linter.unusedSimpArgs false
namespace Go.Proofs
open Go.RowKit Go.Shelf
set_option linter.unusedVariables false
set_option linter.unusedSimpArgs false

theorem Tryz.range_law {g:Operand} {ps:Array Tmp} {assign body:Code} {Q:Exit→Act→World→Prop} {a:Act} {w:World} {gf bH:Nat} {lb:Array Value} (hg:a.eval g = .func (.func gf) #[] lb)
 (eg:∀args w,(callFunc gf args).run Tryz.prog w = .ok (.enter gf args) w) {encs:Fin 3→Array Value} (hseq:Tryz.SeqO bH gf lb encs w) (hps:∀x,(encs x).size=ps.size) (hbH:bH<w.heap.size)
 (I:List (Fin 3)→World→Prop) (hI:OwnFrom w.heap.size I) (h0:I [] w) (Ax:Nat→Fin 3→Act→World→Prop) (hAx:∀z x a',OwnFrom w.heap.size (fun (_:Unit) W=>Ax z x a' W))
 (hassign:∀(l:Nat) (pre:List (Fin 3)) (x:Fin 3) (W:World) (K:Act→World→Prop),w.heap.size≤l→I pre W→(∀a' W',Tryz.But bH bH W W'→I pre W'→Ax W.heap.size x a' W'→K a' W') →
  assign.wpIn (Fence.wide.inRound l) 3 Tryz.prog (Exit.then K (fun _ _ _=>False)) { tmps:=(ps.zip (encs x)).foldl (fun t (p,v)=>t.setIfInBounds p v) a.tmps,defers:=[] } W)
 (hbody:∀(l z:Nat) (pre:List (Fin 3)) (x:Fin 3) (a':Act) (W:World),w.heap.size≤l→w.heap.size≤z→z≤W.heap.size→I pre W→Ax z x a' W→pre.length<3 →
  body.wpIn (Fence.wide.inRound l) 3 Tryz.prog (fun e a3 W3=>e = .normal∧(W.heap.size≤W3.heap.size∧∀i,i<z→i≠bH→W3.heap[i]? = W.heap[i]?)∧I (pre++[x]) W3) a' W)
 (hdone:∀(D:Nat) (W:World),w.heap.size≤D→I [0,1,2] W→W.heap[D]? = some (.deferred (some []))→Q .normal { a with defers:={ target:=.collected D,args:=#[] }::a.defers } W) :
 (Code.rangeFunc g ps assign body).wpIn Fence.wide 5 Tryz.prog Q a w:=by
 refine wpIn_rangeFunc ?_
 intro fn hfn
 show _
 obtain⟨rec,hrec⟩:∃rec:LoopState→Option Code→Loop,rec=fun st pe=>{ state:=st,pending:=pe,fn,tmps:=a.tmps,params:=ps,assign,body,defers:=w.heap.size }:=⟨_,rfl⟩
 obtain⟨W1,hW1⟩:∃W1,(w.alloc (.deferred (some []))).alloc (.loop (rec .ready none))=W1:=⟨_,rfl⟩
 have hs1:W1.heap.size=w.heap.size+2:=by rw[← hW1];simp
 have hL1:W1.heap[w.heap.size+1]? = some (.loop (rec .ready none)):=by
  rw[← hW1];have:=World.alloc_heap_new (w.alloc (.deferred (some []))) (.loop (rec .ready none));rwa [World.size_alloc] at this
 have hK1:W1.heap[w.heap.size]? = some (.deferred (some [])):=by
  rw[← hW1];exact(Below.heap_alloc _ _ _ (by simp)).trans (World.alloc_heap_new w _)
 have hI1:I [] W1:=by rw[← hW1];exact hI.alloc _ (hI.alloc _ h0)
 have hb1:Below w.heap.size w W1:=by
  rw[← hW1];exact((Below.refl _ w).alloc (Nat.le_refl _) _).alloc (by simp) _
 refine⟨w.heap.size+1,[{ target:=.collected w.heap.size,args:=#[] }],W1,{ target:=.fn (.func gf) lb,args:=#[.func (.yield (w.heap.size+1)) #[] #[]] },W1,gf,
  #[.func (.yield (w.heap.size+1)) #[] #[]]++lb,W1,?_,?_,?_,?_,fun _=>by omega,?_⟩
 · rw[← hW1,hrec];exact run_enterLoop_outer _ _ _ _ _
 · simp only[resolve,hg]
   simp [go_sem]
 · intro f' hf';trivial
 · simp [invoke,go_sem,eg]
 · refine(hseq (w.heap.size+1)
    (fun pre W=>I pre W∧W.heap[w.heap.size+1]? = some (.loop (rec .ready none))∧W.heap[w.heap.size]? = some (.deferred (some [])))
    W1 hb1 (by omega) (by omega)
    (fun s A B row hs hg' hr=>⟨hI s A B row hs.1 hg' (fun r e=>⟨by have:=(hr r e).1;omega,(hr r e).2⟩),
     (hg'.block _ (Array.getElem?_eq_some_iff.1 hs.2.1).1 (fun e=>by have:=(hr _ e.symm).1;omega)).trans hs.2.1,
     (hg'.block _ (Array.getElem?_eq_some_iff.1 hs.2.2).1 (fun e=>by have:=(hr _ e.symm).1;omega)).trans hs.2.2⟩)
    ?_ ⟨hI1,hL1,hK1⟩).mono ?_
   · rintro pre x W ⟨hi,hl,hk⟩ hlen
     have hlt:w.heap.size+1<W.heap.size:=(Array.getElem?_eq_some_iff.1 hl).1
     have hy:=run_yield (P:=Tryz.prog) (args:=encs x) hl (by rw[hrec];exact hps x)
     rw[hrec] at hy
     refine⟨fn,_,assign,body,hy,roundIn_of_wpIn hfn (hassign _ pre x W _ (by omega) hi ?_)⟩
     clear hy
     intro a' Wa hbt hia hax
     have hla:=hbt.size
     have hl1:Wa.heap[w.heap.size+1]? = some (.loop (rec .ready none)):=(hbt.same _ hlt (by omega) (by omega)).trans hl
     have hk1:Wa.heap[w.heap.size]? = some (.deferred (some [])):=(hbt.same _ (by omega) (by omega) (by omega)).trans hk
     have hbr:=run_beginRound (P:=Tryz.prog) hl1 (by rw[hrec])
     obtain⟨Wb,hWb⟩:∃Wb,Wa.putObj (w.heap.size+1) (.loop { rec .ready none with state:=.busy })=Wb:=⟨_,rfl⟩
     have hbr':(Instr.beginRound (w.heap.size+1)).run Tryz.prog Wa = .ok () Wb:=by rw[← hWb];exact hbr
     refine⟨Wb,hbr',?_⟩
     have hl2:Wb.heap[w.heap.size+1]? = some (.loop { rec .ready none with state:=.busy }):=by rw[← hWb];exact World.putObj_heap_same (by omega)
     have ho2:∀k,k≠w.heap.size+1→Wb.heap[k]? = Wa.heap[k]?:=fun k hk=>by rw[← hWb];exact World.putObj_heap_other hk
     have hk2:Wb.heap[w.heap.size]? = some (.deferred (some [])):=(ho2 _ (by omega)).trans hk1
     have hz2:Wb.heap.size=Wa.heap.size:=by rw[← hWb];simp
     have hib:I pre Wb:=by rw[← hWb];exact hI.putObj _ hia (by omega) hl1 rfl
     have hab:Ax W.heap.size x a' Wb:=by rw[← hWb];exact(hAx _ x a').putObj (s:=()) _ hax (by omega) hl1 rfl
     clear hbr hWb
     refine wpIn_mono (hbody _ W.heap.size pre x a' _ (by omega) (by omega) (by omega) hib hab hlen) ?_
     rintro e a3 W3 ⟨rfl,⟨hz3,hb3⟩,hi3⟩
     have hl3:=(hb3 (w.heap.size+1) (by omega) (by omega)).trans hl2
     have hk3:=(hb3 w.heap.size (by omega) (by omega)).trans hk2
     have hend:=run_endRound (P:=Tryz.prog) none hl3
     have hrec2:(.loop { { rec .ready none with state:=.busy } with state:=if (none:Option Code).isNone then .ready else .done,pending:=none }:Obj) = .loop (rec .ready none):=by rw[hrec];rfl
     rw[hrec2] at hend
     refine⟨_,_,hend,rfl,⟨hI.putObj _ hi3 (by omega) hl3 rfl,World.putObj_heap_same (by omega),(World.putObj_heap_other (by omega)).trans hk3⟩,⟨by simp;omega,fun k hk4 h5 h6=>?_⟩⟩
     rw[World.putObj_heap_other h6,hb3 k (by omega) h5,ho2 k h6,hbt.same k hk4 h5 h5]
   · rintro e W2 ⟨⟨v,rfl⟩,hi,hl,hk⟩
     exact⟨none,_,by have:=run_endLoop (P:=Tryz.prog) hl (by rw[hrec];simp);rw[hrec] at this;exact this,hdone _ _ (Nat.le_refl _) (hI.putObj _ hi (by omega) hl rfl) ((World.putObj_heap_other (by omega)).trans hk)⟩
end Go.Proofs
