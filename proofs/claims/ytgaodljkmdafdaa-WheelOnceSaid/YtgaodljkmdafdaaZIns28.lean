/-
  slices.Insert of one element: its law.
  Conditions: none.
-/
import Derived.Test.YtgaodljkmdafdaaZInsW28
import Derived.Test.YtgaodljkmdafdaaZB2
import Derived.KernelRfl
import Derived.Laws.Externs
set_option linter.unusedVariables false
set_option linter.unusedSimpArgs false
namespace Go.Ws
open Go.RowKit Go.Shelf Go.Proofs
set_option linter.unusedVariables false
set_option linter.unusedSimpArgs false

theorem insw28:InsWalk Proofs.Try.prog 28 37 26 26 3 2 where
 A:=Proofs.Try.insA28
 C:=Proofs.Try.insC28
 B:=Proofs.Try.insB28
 O:=fun w vb vc B o lb cb kA kB tA tB hne hsa hsb hk hfa hfe=>by
  rw[run_callFunc_extern Proofs.Try.func37 (by kernel_rfl) (by kernel_rfl) (by kernel_rfl) (e:=Extern.SlicesOverlaps.overlaps #[26,26] #[4]) (by kernel_rfl),
   Lib.run_overlaps_apart w 26 4 64 Proofs.Try.underlying26 2 (fun w=>by
    have h:(Proofs.Try.prog.info? 64).map (fun i=>i.size)=some 2:=by kernel_rfl
    obtain⟨i,hi,hs⟩:=Option.map_eq_some_iff.1 h
    rw[← hs];exact ti_size hi w) ⟨vb,0,none⟩ ⟨B,o,none⟩ 1 vc lb cb hne tA tB kA kB hsa hsb hk hfa hfe]
  rfl
 en:=enters_of Proofs.Try.func28 (by kernel_rfl) rfl

theorem ins_ok28 {α:Type} (E:α→List AV) {x1:Int} {x2 x3 r:List α} (h:insP 16 x1 x2 x3=some r) {flg fl2:Fl} {g wg g2 wg2:Nat} {ro2:Bool} (hfw:flg.whole=true) :
 Tri Proofs.Try.prog 28 [.ref 2 0 g 0 x2.length flg,.int .i64 x1,.ref 2 1 g2 0 x3.length fl2] [.arr 2 (List.map E x2) g wg false,.arr 2 (List.map E x3) g2 wg2 ro2]
  (.ref 2 0 (g+1) 0 r.length .full) [.arr 2 (List.map E r) (g+1) (g+1) false,.arr 2 (List.map E x3) g2 wg2 ro2] :=
 ins_enc (te:=64) insw28 (by kernel_rfl) (by kernel_rfl) (by kernel_rfl) (by kernel_rfl) (by decide) (by decide) (by decide) E h hfw
end Go.Ws
