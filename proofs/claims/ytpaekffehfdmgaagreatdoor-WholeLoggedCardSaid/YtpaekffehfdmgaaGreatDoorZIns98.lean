/-
  slices.Insert of one element: its law.
  Conditions: none.
-/
import Derived.Test.YtpaekffehfdmgaaGreatDoorZInsW98
import Derived.Test.YtpaekffehfdmgaaGreatDoorZB2
import Derived.KernelRfl
import Derived.Laws.Externs
set_option linter.unusedVariables false
set_option linter.unusedSimpArgs false
namespace Go.Ws
open Go.RowKit Go.Shelf Go.Proofs
set_option linter.unusedVariables false
set_option linter.unusedSimpArgs false

theorem insw98:InsWalk Proofs.Tryz.prog 98 130 83 82 3 2 where
 A:=Proofs.Tryz.insA98
 C:=Proofs.Tryz.insC98
 B:=Proofs.Tryz.insB98
 O:=fun w vb vc B o lb cb kA kB tA tB hne hsa hsb hk hfa hfe=>by
  rw[run_callFunc_extern Proofs.Tryz.func130 (by kernel_rfl) (by kernel_rfl) (by kernel_rfl) (e:=Extern.SlicesOverlaps.overlaps #[82,82] #[4]) (by kernel_rfl),
   Lib.run_overlaps_apart w 82 4 137 Proofs.Tryz.underlying82 2 (fun w=>by
    have h:(Proofs.Tryz.prog.info? 137).map (fun i=>i.size)=some 2:=by kernel_rfl
    obtain⟨i,hi,hs⟩:=Option.map_eq_some_iff.1 h
    rw[← hs];exact jI hi w) ⟨vb,0,none⟩ ⟨B,o,none⟩ 1 vc lb cb hne tA tB kA kB hsa hsb hk hfa hfe]
  rfl
 en:=enters_of Proofs.Tryz.func98 (by kernel_rfl) rfl

theorem ins_ok98 {α:Type} (E:α→List AV) {x1:Int} {x2 x3 r:List α} (h:aIQ 16 x1 x2 x3=some r) {flg fl2:Fl} {g wg g2 wg2:Nat} {ro2:Bool} (hfw:flg.whole=true) :
 Tri Proofs.Tryz.prog 98 [.ref 2 0 g 0 x2.length flg,.int .i64 x1,.ref 2 1 g2 0 x3.length fl2] [.arr 2 (List.map E x2) g wg false,.arr 2 (List.map E x3) g2 wg2 ro2]
  (.ref 2 0 (g+1) 0 r.length .full) [.arr 2 (List.map E r) (g+1) (g+1) false,.arr 2 (List.map E x3) g2 wg2 ro2] :=
 aS0 (te:=137) insw98 (by kernel_rfl) (by kernel_rfl) (by kernel_rfl) (by kernel_rfl) (by decide) (by decide) (by decide) E h hfw
end Go.Ws
