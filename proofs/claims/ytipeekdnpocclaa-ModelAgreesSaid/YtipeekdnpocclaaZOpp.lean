/-
  part.opposites: what it computes.
  Conditions: none.
-/
import Derived.Test.YtipeekdnpocclaaZBack
import Derived.Deep.RegionHeld
import Derived.Test.YtipeekdnpocclaaZB2
set_option linter.unusedVariables false
set_option linter.unusedSimpArgs false
namespace Go.Proofs
open Go.RowKit Go.Shelf
set_option linter.unusedVariables false
set_option linter.unusedSimpArgs false

attribute [local go_sem] Oper.semAt_some

theorem Try.infoD:(Try.prog.info? 72).map (fun i=>(i.zero,i.size,i.bytes))=some (some (.agg #[.int .u8 0,.int .i64 0]),2,16):=by kernel_rfl

def Try.oppC (f g:Nat→Int):List Nat→List Value
 | []=>[]
 | j::l=>.int .u8 (f j) :: .int .i64 (Go.RowKit.wrap64 (-(g j)))::Try.oppC f g l
theorem Try.oppC_snoc (f g:Nat→Int):∀(l:List Nat) (j:Nat),Try.oppC f g (l++[j])=Try.oppC f g l++[.int .u8 (f j),.int .i64 (Go.RowKit.wrap64 (-(g j)))]
 | [],j=>rfl
 | a::l,j=>by simp [Try.oppC,Try.oppC_snoc f g l j]

theorem Try.two_new (W:World) (a b:Value) (t:TypeId):∀(j:Nat) (u:Value),[a,b][j]? = some u→(W.alloc (.cells #[a,b] t)).cell? ((⟨W.heap.size,0,none⟩:Addr).add j)=some u:=by
 intro j u hj
 have h:=World.alloc_heap_new W (.cells #[a,b] t)
 match j,hj with
 | 0,hj =>
  simp at hj;subst hj
  show (W.alloc (.cells #[a,b] t)).cell? ⟨W.heap.size,0,none⟩=_
  unfold World.cell?
  rw[h];rfl
 | 1,hj =>
  simp at hj;subst hj
  show (W.alloc (.cells #[a,b] t)).cell? ⟨W.heap.size,1,none⟩=_
  unfold World.cell?
  rw[h];rfl
 | j+2,hj=>simp at hj

abbrev Try.boxD (n₀:Nat) (f g:Nat→Int) (x:Nat) (d:Nat) (W:World):Prop:=n₀≤d∧W.heap[d]? = some (.cells #[.int .u8 (f x),.int .i64 (g x)] 72 (0,0))

set_option maxRecDepth 100000 in
set_option maxHeartbeats 4000000 in
theorem Try.opp_in (B o L cap:Nat) (f g:Nat→Int) (hL:L≤cap) (hreach:L*16≤140737488355328) (w:World) (hB:B<w.heap.size)
 (hc:∀j,j<L→w.cell? ⟨B,o+j*2,none⟩=some (.int .u8 (f j))∧w.cell? ⟨B,o+j*2+1,none⟩=some (.int .i64 (g j))) :
 CallsIn Fence.wide 4 Try.prog 76 #[.slice (some ⟨B,o,none⟩) L cap] w fun e W'=>∃v,e = .returned v∧W'.ownsRow w.heap.size 72 2 v L (Try.oppC f g (Try.down L L))∧Below w.heap.size w W':=by
 obtain⟨i0,hi,hz0,hz1,hz2⟩:=info_parts Try.infoD
 refine callsIn_of_wp_marks Try.func76 rfl trivial ?_ rfl
 simp only[Try.ntmps76,List.size_toArray,List.length_cons,List.length_nil,Nat.reduceAdd,Nat.reduceSub,Array.replicate_succ,Array.replicate_zero,List.push_toArray,List.append_toArray,List.nil_append,List.cons_append]
 gi_wp2_with (refine⟨trivial,?_⟩;refine(Try.back_in _ _ _ _ _).mono ?_;rintro e w' ⟨rfl,rfl⟩)
 have bO:=Boxed.new w 34 (.slice none 0 0)
 have bS:=Boxed.new (w.alloc (.cells #[.slice none 0 0] 34)) 34 (.slice (some ⟨B,o,none⟩) L cap)
 rw[World.size_alloc] at bS
 have hB0:Below w.heap.size w ((w.alloc (.cells #[.slice none 0 0] 34)).alloc (.cells #[.slice (some ⟨B,o,none⟩) L cap] 34)):=((Below.refl _ w).alloc (Nat.le_refl _) _).alloc (by simp) _
 refine wpIn_rangeFunc_ownH rfl (by omega) (gf:=102) (lb:=#[.pointer (some ⟨w.heap.size+1,0,none⟩)]) rfl trivial (enters_of Try.func102 (by kernel_rfl) rfl)
  (Try.back_stops (w.heap.size+1) B o L cap w.heap.size hB f g hL (by omega) _ (by simp;omega) bS (fun j hj=>⟨(hB0.cell (p:=⟨B,o+j*2,none⟩) hB).trans (hc j hj).1,(hB0.cell (p:=⟨B,o+j*2+1,none⟩) hB).trans (hc j hj).2⟩))
  (fun h k=>Try.keepsD_t h k) ?kb (Below.refl _ _) (fun _=>rfl)
  (fun pre W=>(∃v,Boxed W w.heap.size 34 v∧W.ownsRow w.heap.size 72 2 v pre.length (Try.oppC f g pre)∧True)∧Below w.heap.size w W∧Boxed W (w.heap.size+1) 34 (.slice (some ⟨B,o,none⟩) L cap))
  (fun _ _ _=>False)
  (OwnFrom.and (Own.from (holdsRow_own w.heap.size w.heap.size 34 72 2 (fun pre=>pre.length) (fun pre=>Try.oppC f g pre) (fun _ _=>True)) _) (OwnFrom.and (ownFrom_below (Nat.le_refl _) (by simp;omega)) (Own.from (boxed_own (w.heap.size+1) 34 (fun _=>.slice (some ⟨B,o,none⟩) L cap)) _)))
  (fun _ _ _ _ _ hs _ _=>hs)
  ⟨⟨_,bO.alloc _,World.ownsRow_nil _ _ _ _,trivial⟩,hB0,bS⟩
  (fun x a' W=>∃d,Try.boxD w.heap.size f g x d W∧a'={ tmps:=#[.slice (some ⟨B,o,none⟩) L cap,undef,.slice none 0 0,.pointer (some ⟨w.heap.size,0,none⟩),undef,.pointer (some ⟨d,0,none⟩),.slice (some ⟨B,o,none⟩) L cap,.func (.func 102) #[] #[.pointer (some ⟨w.heap.size+1,0,none⟩)],.int .i64 x,.agg #[.int .u8 (f x),.int .i64 (g x)],undef,undef,undef,undef,undef,undef,undef,undef,undef,undef],defers:=[] })
  ?ax ?assign ?body ?done ?stop
 case kb =>
  intro W l o' o'' hl hk hnc hnw
  refine⟨belowK_b (by simp;omega) W l o' o'' hl hk hnc hnw,fun h=>h.kept (grownBy_putObj' W l o'') (fun e=>?_)⟩
  cases e
  rw[show W.heap[_]? = _ from h] at hk
  cases hk
  cases hnc
 case ax =>
  rintro x a' s W W' row ⟨d,⟨hd,hbx⟩,rfl⟩ hg hr
  refine⟨d,⟨hd,(hg.block d (Array.getElem?_eq_some_iff.1 hbx).1 ?_).trans hbx⟩,rfl⟩
  rintro rfl
  obtain⟨-,o',ho',hn⟩:=hr d rfl
  rw[hbx] at ho';cases ho';cases hn
 case assign =>
  rintro l pre x W K ⟨⟨v,hv,hrow,-⟩,hB1,hS1⟩ hK
  gi_wp2
  refine hK _ _ ((KeepsOthers.alloc W _).from _) ⟨(Below.refl _ W).alloc hB1.size _,fun h=>h.alloc _⟩ ⟨⟨v,hv.alloc _,hrow.alloc _,trivial⟩,hB1.alloc hB1.size _,hS1.alloc _⟩ ⟨W.heap.size,⟨hB1.size,World.alloc_heap_new W _⟩,rfl⟩
 case body =>
  rintro l pre x a' W hl - ⟨⟨v,hv,hrow,-⟩,hB1,hS1⟩ ⟨d,⟨hd,hbx⟩,rfl⟩ hlt
  have hcO:=hv.cell
  have hd0:W.cell? ⟨d,0,none⟩=some (.int .u8 (f x)):=by simp [World.cell?,hbx]
  have hd1:W.cell? ⟨d,1,none⟩=some (.int .i64 (g x)):=by simp [World.cell?,hbx]
  gi_wp2_with (gi_at_builtin;go_loud (refine wpListIn_append_own _ rfl _ _ 34 rfl w.heap.size 72 i0 (.agg #[.int .u8 0,.int .i64 0]) 2 16 Try.underlying34 hi hz0 hz1 hz2 rfl (by decide) _ _ _ rfl (hrow.alloc _) ⟨W.heap.size,0,none⟩ 1 1 [.int .u8 (f x),.int .i64 (Go.RowKit.wrap64 (-(g x)))] rfl rfl (Try.two_new _ _ _ _) (by simp [Value.oneCell']) (by unfold maxLen;omega) (by omega) (by have:=hB1.size;simp;omega) ?_;intro v' w1 hown' hgrow _;obtain⟨g',cap',rfl⟩:=ownsRow_succ hown';obtain⟨hv1,hv2,hr2,hk2,hb2⟩:=hv.appended (by decide) hrow hB1.size (Nat.le_refl _) hown' hgrow;have hc1:=hv1.cell;have hf1:=hv1.frozen))
  have hS2:=((hS1.alloc _).kept hgrow (hS1.not_row (by decide) hrow)).other (B':=w.heap.size) (by omega) (.slice (some ⟨g',0,none⟩) (pre.length+1) cap')
  exact⟨hk2.from _,⟨hb2,fun _=>hS2⟩,⟨⟨_,hv2,by rw[Try.oppC_snoc];simpa using hr2,trivial⟩,hB1.trans hb2,hS2⟩⟩
 case done =>
  rintro D ys W hD rfl ⟨⟨v,hv,hrow,-⟩,hB1,hS1⟩ hK
  have hcO:=hv.cell
  gi_wp2
  have hll:(Try.down L L).length=L:=by simp [Try.down]
  rw[hll] at hrow
  refine⟨by simp,.inl ⟨_,_,rfl,run_takeDeferred hK,?_⟩⟩
  exact⟨_,results_tmp rfl _ _ _,v,rfl,ownsRow_putObj hrow _ hK rfl,hB1.trans (belowK_b (w:=w) (Nat.le_refl _) W D _ _ (by simp at hD;omega) hK rfl rfl)⟩
 case stop =>
  rintro D c pre W _ _ h _
  exact h.elim
set_option maxRecDepth 100000 in
set_option maxHeartbeats 4000000 in
theorem Try.opp_in0 (a:Option Addr) (cap:Nat) (w:World) :
 CallsIn Fence.wide 4 Try.prog 76 #[.slice a 0 cap] w fun e W'=>∃v,e = .returned v∧W'.ownsRow w.heap.size 72 2 v 0 []∧Below w.heap.size w W':=by
 refine callsIn_of_wp_marks Try.func76 rfl trivial ?_ rfl
 simp only[Try.ntmps76,List.size_toArray,List.length_cons,List.length_nil,Nat.reduceAdd,Nat.reduceSub,Array.replicate_succ,Array.replicate_zero,List.push_toArray,List.append_toArray,List.nil_append,List.cons_append]
 gi_wp2_with (refine⟨trivial,?_⟩;refine(Try.back_in _ _ _ _ _).mono ?_;rintro e w' ⟨rfl,rfl⟩)
 have bO:=Boxed.new w 34 (.slice none 0 0)
 have bS:=Boxed.new (w.alloc (.cells #[.slice none 0 0] 34)) 34 (.slice a 0 cap)
 rw[World.size_alloc] at bS
 have hB0:Below w.heap.size w ((w.alloc (.cells #[.slice none 0 0] 34)).alloc (.cells #[.slice a 0 cap] 34)):=((Below.refl _ w).alloc (Nat.le_refl _) _).alloc (by simp) _
 refine wpIn_rangeFunc_ownH rfl (by omega) (gf:=102) (lb:=#[.pointer (some ⟨w.heap.size+1,0,none⟩)]) rfl trivial (enters_of Try.func102 (by kernel_rfl) rfl)
  (Try.back_stops0 w.heap.size (w.heap.size+1) cap (.slice a 0 cap) a _ bS)
  (fun h k=>Try.keepsD_t h k) ?kb (Below.refl _ _) (fun _=>rfl)
  (fun pre W=>Boxed W w.heap.size 34 (.slice none 0 0)∧Below w.heap.size w W)
  (fun _ _ _=>False)
  (OwnFrom.and (Own.from (boxed_own w.heap.size 34 (fun _=>.slice none 0 0)) _) (ownFrom_below (Nat.le_refl _) (by simp;omega)))
  (fun _ _ _ _ _ hs _ _=>hs)
  ⟨bO.alloc _,hB0⟩
  (fun x a' W=>True)
  (fun _ _ _ _ _ _ _ _ _=>trivial) ?assign ?body ?done ?stop
 case kb =>
  intro W l o' o'' hl hk hnc hnw
  refine⟨belowK_b (by simp;omega) W l o' o'' hl hk hnc hnw,fun h=>h.kept (grownBy_putObj' W l o'') (fun e=>?_)⟩
  cases e
  rw[show W.heap[_]? = _ from h] at hk
  cases hk
  cases hnc
 case assign =>
  rintro l pre x W K ⟨hv,hB1⟩ hK
  gi_wp2
  exact hK _ _ ((KeepsOthers.alloc W _).from _) ⟨(Below.refl _ W).alloc hB1.size _,fun h=>h.alloc _⟩ ⟨hv.alloc _,hB1.alloc hB1.size _⟩ trivial
 case body =>
  rintro l pre x a' W hl - - - hlt
  exact absurd hlt (Nat.not_lt_zero _)
 case done =>
  rintro D ys W hD rfl ⟨hv,hB1⟩ hK
  have hcO:=hv.cell
  gi_wp2
  refine⟨by simp,.inl ⟨_,_,rfl,run_takeDeferred hK,?_⟩⟩
  exact⟨_,results_tmp rfl _ _ _,_,rfl,World.ownsRow_nil _ _ _ _,hB1.trans (belowK_b (w:=w) (Nat.le_refl _) W D _ _ (by simp at hD;omega) hK rfl rfl)⟩
 case stop =>
  rintro D c pre W _ _ h _
  exact h.elim
end Go.Proofs
