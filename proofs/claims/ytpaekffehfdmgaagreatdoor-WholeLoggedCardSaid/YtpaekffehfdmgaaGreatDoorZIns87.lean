/-
  slices.Insert of one element: its law.
  Conditions: none.
-/
import Derived.Test.YtpaekffehfdmgaaGreatDoorZInsW87
import Derived.Test.YtpaekffehfdmgaaGreatDoorZB2
import Derived.KernelRfl
import Derived.Laws.Externs
set_option linter.unusedVariables false
set_option linter.unusedSimpArgs false
namespace Go.Ws
open Go.RowKit Go.Shelf Go.Proofs
set_option linter.unusedVariables false
set_option linter.unusedSimpArgs false

theorem insw87:InsWalk Proofs.Tryz.prog 87 124 85 84 3 3 where
 A:=Proofs.Tryz.insA87
 C:=Proofs.Tryz.insC87
 B:=Proofs.Tryz.insB87
 O:=fun w vb vc B o lb cb kA kB tA tB hne hsa hsb hk hfa hfe=>by
  rw[run_callFunc_extern Proofs.Tryz.func124 (by kernel_rfl) (by kernel_rfl) (by kernel_rfl) (e:=Extern.SlicesOverlaps.overlaps #[84,84] #[4]) (by kernel_rfl),
   Lib.run_overlaps_apart w 84 4 165 Proofs.Tryz.underlying84 3 (fun w=>by
    have h:(Proofs.Tryz.prog.info? 165).map (fun i=>i.size)=some 3:=by kernel_rfl
    obtain⟨i,hi,hs⟩:=Option.map_eq_some_iff.1 h
    rw[← hs];exact jI hi w) ⟨vb,0,none⟩ ⟨B,o,none⟩ 1 vc lb cb hne tA tB kA kB hsa hsb hk hfa hfe]
  rfl
 en:=enters_of Proofs.Tryz.func87 (by kernel_rfl) rfl

theorem ins_ok87 {α:Type} (E:α→List AV) {x1:Int} {x2 x3 r:List α} (h:aIQ 24 x1 x2 x3=some r) {flg fl2:Fl} {g wg g2 wg2:Nat} {ro2:Bool} (hfw:flg.whole=true) :
 Tri Proofs.Tryz.prog 87 [.ref 3 0 g 0 x2.length flg,.int .i64 x1,.ref 3 1 g2 0 x3.length fl2] [.arr 3 (List.map E x2) g wg false,.arr 3 (List.map E x3) g2 wg2 ro2]
  (.ref 3 0 (g+1) 0 r.length .full) [.arr 3 (List.map E r) (g+1) (g+1) false,.arr 3 (List.map E x3) g2 wg2 ro2] :=
 aS0 (te:=165) insw87 (by kernel_rfl) (by kernel_rfl) (by kernel_rfl) (by kernel_rfl) (by decide) (by decide) (by decide) E h hfw
end Go.Ws
