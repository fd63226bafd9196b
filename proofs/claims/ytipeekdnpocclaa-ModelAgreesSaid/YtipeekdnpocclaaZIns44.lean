/-
  slices.Insert of one element: its law.
  Conditions: none.
-/
import Derived.Test.YtipeekdnpocclaaZInsW44
import Derived.Test.YtipeekdnpocclaaZB2
import Derived.KernelRfl
import Derived.Laws.Externs
set_option linter.unusedVariables false
set_option linter.unusedSimpArgs false
namespace Go.Ws
open Go.RowKit Go.Shelf Go.Proofs
set_option linter.unusedVariables false
set_option linter.unusedSimpArgs false

theorem insw44:InsWalk Proofs.Try.prog 44 54 35 34 3 2 where
 A:=Proofs.Try.insA44
 C:=Proofs.Try.insC44
 B:=Proofs.Try.insB44
 O:=fun w vb vc B o lb cb kA kB tA tB hne hsa hsb hk hfa hfe=>by
  rw[run_callFunc_extern Proofs.Try.func54 (by kernel_rfl) (by kernel_rfl) (by kernel_rfl) (e:=Extern.SlicesOverlaps.overlaps #[34,34] #[4]) (by kernel_rfl),
   Lib.run_overlaps_apart w 34 4 72 Proofs.Try.underlying34 2 (fun w=>by
    have h:(Proofs.Try.prog.info? 72).map (fun i=>i.size)=some 2:=by kernel_rfl
    obtain⟨i,hi,hs⟩:=Option.map_eq_some_iff.1 h
    rw[← hs];exact fZ hi w) ⟨vb,0,none⟩ ⟨B,o,none⟩ 1 vc lb cb hne tA tB kA kB hsa hsb hk hfa hfe]
  rfl
 en:=enters_of Proofs.Try.func44 (by kernel_rfl) rfl

theorem ins_ok44 {α:Type} (E:α→List AV) {x1:Int} {x2 x3 r:List α} (h:insP 16 x1 x2 x3=some r) {flg fl2:Fl} {g wg g2 wg2:Nat} {ro2:Bool} (hfw:flg.whole=true) :
 Tri Proofs.Try.prog 44 [.ref 2 0 g 0 x2.length flg,.int .i64 x1,.ref 2 1 g2 0 x3.length fl2] [.arr 2 (List.map E x2) g wg false,.arr 2 (List.map E x3) g2 wg2 ro2]
  (.ref 2 0 (g+1) 0 r.length .full) [.arr 2 (List.map E r) (g+1) (g+1) false,.arr 2 (List.map E x3) g2 wg2 ro2] :=
 aJL (te:=72) insw44 (by kernel_rfl) (by kernel_rfl) (by kernel_rfl) (by kernel_rfl) (by decide) (by decide) (by decide) E h hfw
end Go.Ws
