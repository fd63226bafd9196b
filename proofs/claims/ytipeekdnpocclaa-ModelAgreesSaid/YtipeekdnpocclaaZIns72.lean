/-
  slices.Insert of one element: its law.
  Conditions: none.
-/
import Derived.Test.YtipeekdnpocclaaZInsW72
import Derived.Test.YtipeekdnpocclaaZB2
import Derived.KernelRfl
import Derived.Laws.Externs
set_option linter.unusedVariables false
set_option linter.unusedSimpArgs false
namespace Go.Ws
open Go.RowKit Go.Shelf Go.Proofs
set_option linter.unusedVariables false
set_option linter.unusedSimpArgs false

theorem insw72:InsWalk Proofs.Try.prog 72 89 79 78 3 3 where
 A:=Proofs.Try.insA72
 C:=Proofs.Try.insC72
 B:=Proofs.Try.insB72
 O:=fun w vb vc B o lb cb kA kB tA tB hne hsa hsb hk hfa hfe=>by
  rw[run_callFunc_extern Proofs.Try.func89 (by kernel_rfl) (by kernel_rfl) (by kernel_rfl) (e:=Extern.SlicesOverlaps.overlaps #[78,78] #[4]) (by kernel_rfl),
   Lib.run_overlaps_apart w 78 4 124 Proofs.Try.underlying78 3 (fun w=>by
    have h:(Proofs.Try.prog.info? 124).map (fun i=>i.size)=some 3:=by kernel_rfl
    obtain⟨i,hi,hs⟩:=Option.map_eq_some_iff.1 h
    rw[← hs];exact fZ hi w) ⟨vb,0,none⟩ ⟨B,o,none⟩ 1 vc lb cb hne tA tB kA kB hsa hsb hk hfa hfe]
  rfl
 en:=enters_of Proofs.Try.func72 (by kernel_rfl) rfl

theorem ins_ok72 {α:Type} (E:α→List AV) {x1:Int} {x2 x3 r:List α} (h:insP 24 x1 x2 x3=some r) {flg fl2:Fl} {g wg g2 wg2:Nat} {ro2:Bool} (hfw:flg.whole=true) :
 Tri Proofs.Try.prog 72 [.ref 3 0 g 0 x2.length flg,.int .i64 x1,.ref 3 1 g2 0 x3.length fl2] [.arr 3 (List.map E x2) g wg false,.arr 3 (List.map E x3) g2 wg2 ro2]
  (.ref 3 0 (g+1) 0 r.length .full) [.arr 3 (List.map E r) (g+1) (g+1) false,.arr 3 (List.map E x3) g2 wg2 ro2] :=
 aJL (te:=124) insw72 (by kernel_rfl) (by kernel_rfl) (by kernel_rfl) (by kernel_rfl) (by decide) (by decide) (by decide) E h hfw
end Go.Ws
