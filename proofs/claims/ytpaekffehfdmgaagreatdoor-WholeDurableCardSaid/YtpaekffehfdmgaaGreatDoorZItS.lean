/-
  slices.AppendSeq, slices.Collect of the three keys.
  Conditions: none.
-/
import Derived.Test.YtpaekffehfdmgaaGreatDoorZItK
import Derived.RangeFuncBox
import Derived.Maps.AppendAt
set_option linter.unusedVariables false
set_option linter.unusedSimpArgs false
namespace Go.Proofs
open Go.RowKit Go.Shelf
set_option linter.unusedVariables false
set_option linter.unusedSimpArgs false

attribute [local go_sem] Oper.semAt_some

theorem Tryz.info5:(Tryz.prog.info? 5).map (fun i=>(i.zero,i.size,i.bytes))=some (some (.int .u8 0),1,1):=by kernel_rfl

theorem Tryz.enters68:∀args w,(callFunc 68 args).run Tryz.prog w = .ok (.enter 68 args) w:=enters_of Tryz.func68 (by kernel_rfl) rfl

set_option maxRecDepth 100000 in
set_option maxHeartbeats 2000000 in
theorem Tryz.append_in (Bm M:Nat) (es:Array MapEntry) (hes:Tryz.Ent3 es) (w:World) (hM:M<w.heap.size) (hBl:Bm<w.heap.size) (hBm:w.cell? ⟨Bm,0,none⟩=some (.map (some M))) (hm:w.heap[M]? = some (.map es 3)) :
 CallsIn Fence.wide 4 Tryz.prog 79 #[.slice none 0 0,.func (.func 68) #[] #[.pointer (some ⟨Bm,0,none⟩)]] w fun e W'=>∃(v:Value) (ss:List Int),e = .returned v∧ss.Perm [0,1,2] ∧
  W'.ownsRow w.heap.size 5 1 v ss.length (ss.map (Value.int .u8))∧Below w.heap.size w W':=by
 obtain⟨i0,hi,hz0,hz1,hz2⟩:=info_parts Tryz.info5
 refine callsIn_of_wp_marks Tryz.func79 rfl trivial ?_ rfl
 simp only[Tryz.ntmps79,List.size_toArray,List.length_cons,List.length_nil,Nat.reduceAdd,Nat.reduceSub,Array.replicate_succ,Array.replicate_zero,List.push_toArray,List.append_toArray,List.nil_append,List.cons_append]
 gi_wp2
 have bO:=Boxed.new w 27 (.slice none 0 0)
 have hB0:Below w.heap.size w (w.alloc (.cells #[.slice none 0 0] 27)):=(Below.refl _ w).alloc (Nat.le_refl _) _
 refine wpIn_rangeFunc_ownF rfl (by omega) (gf:=68) (lb:=#[.pointer (some ⟨Bm,0,none⟩)]) rfl trivial Tryz.enters68
  (Tryz.keys_stops Bm M w.heap.size es hes (w.alloc (.cells #[.slice none 0 0] 27)) (by simp;omega) (by simp) hM ((hB0.cell (p:=⟨Bm,0,none⟩) hBl).trans hBm) ((hB0.block M hM).trans hm))
  (fun h k=>Tryz.Kp_t h k) (Tryz.Kp_b (by simp)) (Below.refl _ _) (fun _=>rfl)
  (fun (pre:List Int) W=>(∃v,Boxed W w.heap.size 27 v∧W.ownsRow w.heap.size 5 1 v pre.length (pre.map (Value.int .u8))∧True)∧Below w.heap.size w W)
  (fun _ _ _=>False)
  (OwnFrom.and (Own.from (holdsRow_own w.heap.size w.heap.size 27 5 1 (fun (pre:List Int)=>pre.length) (fun (pre:List Int)=>pre.map (Value.int .u8)) (fun _ _=>True)) _) (ownFrom_below (Nat.le_refl _) (by simp)))
  (fun _ _ _ _ _ hs _ _=>hs)
  ⟨⟨_,bO,World.ownsRow_nil _ _ _ _,trivial⟩,hB0⟩
  (fun x=>{ tmps:=#[.slice none 0 0,.func (.func 68) #[] #[.pointer (some ⟨Bm,0,none⟩)],.pointer (some ⟨w.heap.size,0,none⟩),undef,.slice none 0 0,.int .u8 x,.func (.func 68) #[] #[.pointer (some ⟨Bm,0,none⟩)],.int .u8 x,undef,undef,undef,undef,undef],defers:=[] }) ?assign ?body ?done ?stop
 case assign =>
  intro l x W K hK
  gi_wp2
  exact hK
 case body =>
  rintro l pre x W ⟨⟨v,hv,hrow,_⟩,hB⟩ hlt
  have hc:=hv.cell
  gi_wp2_with (gi_at_builtin;refine wpListIn_append_own _ rfl _ _ 27 rfl w.heap.size 5 i0 (.int .u8 0) 1 1 Tryz.underlying27 hi hz0 hz1 hz2 rfl (by decide) _ _ _ rfl (hrow.alloc _) ⟨W.heap.size,0,none⟩ 1 1 [.int .u8 x] rfl rfl (cell_one_new _ _ _) (by simp [Value.oneCell']) (by unfold maxLen;omega) (by omega) (by have:=hB.size;simp;omega) ?_;intro v' w1 hown' hgrow _;obtain⟨g',cap',rfl⟩:=ownsRow_succ hown';obtain⟨hv1,hv2,hr2,hk2,hb2⟩:=hv.appended (by decide) hrow hB.size (Nat.le_refl _) hown' hgrow;have hc1:=hv1.cell;have hf1:=hv1.frozen)
  exact⟨hk2,⟨hk2.walks,hb2⟩,⟨_,hv2,by simpa using hr2,trivial⟩,hB.trans hb2⟩
 case done =>
  rintro D ys W hD hS ⟨⟨v,hv,hrow,_⟩,hB⟩ hK
  have hc:=hv.cell
  gi_wp2
  refine⟨by simp,.inl ⟨_,_,rfl,run_takeDeferred hK,?_⟩⟩
  exact⟨_,results_tmp rfl _ _ _,v,ys,rfl,hS,ownsRow_putObj hrow _ hK rfl,hB.trans (belowK_b (w:=w) (Nat.le_refl _) W D _ _ (by simp at hD;omega) hK rfl rfl)⟩
 case stop =>
  rintro D c pre W _ _ h _
  exact h.elim

set_option maxHeartbeats 1000000 in
theorem Tryz.collect_in (Bm M:Nat) (es:Array MapEntry) (hes:Tryz.Ent3 es) (w:World) (hM:M<w.heap.size) (hBl:Bm<w.heap.size) (hBm:w.cell? ⟨Bm,0,none⟩=some (.map (some M))) (hm:w.heap[M]? = some (.map es 3)) :
 CallsIn Fence.wide 5 Tryz.prog 66 #[.func (.func 68) #[] #[.pointer (some ⟨Bm,0,none⟩)]] w fun e W'=>∃(v:Value) (ss:List Int),e = .returned v∧ss.Perm [0,1,2] ∧
  W'.ownsRow w.heap.size 5 1 v ss.length (ss.map (Value.int .u8))∧Below w.heap.size w W':=by
 refine callsIn_of_wp Tryz.func66 rfl trivial ?_ rfl
 simp only[Tryz.ntmps66,List.size_toArray,List.length_cons,List.length_nil,Nat.reduceAdd,Nat.reduceSub,Array.replicate_succ,Array.replicate_zero,List.push_toArray,List.append_toArray,List.nil_append,List.cons_append]
 have hF79:Fence.wide.fn 79:=trivial
 gi_wp2_with (gi_at_call 79;refine(Tryz.append_in Bm M es hes w hM hBl hBm hm).mono ?_;rintro e w' ⟨v,ss,rfl,h1,h2,h3⟩)
 go_ret
 exact⟨_,_,rfl,h1,h2,h3⟩
end Go.Proofs
