/-
  sum.Sum: what it computes.
  Conditions: none.
-/
import Derived.Test.YtpaekffehfdmgaaGreatDoorZChunk
import Derived.Test.YtpaekffehfdmgaaGreatDoorZSumDef
import Derived.Deep.RegionHeld
set_option linter.unusedVariables false
set_option linter.unusedSimpArgs false
namespace Go.Proofs
open Go.RowKit Go.Shelf
set_option linter.unusedVariables false
set_option linter.unusedSimpArgs false

attribute [local go_sem] Oper.semAt_some

theorem Tryz.keepsBoxes_s {Bs Bn b:Nat} {W:World} {v:Value} (h1:b≠Bs) (h2:b≠Bn):Tryz.keepsBoxes Bs Bn W (W.setCell ⟨b,0,none⟩ v) :=
 ⟨World.cell?_setCell_far _ _ _ _ h1,World.cell?_setCell_far _ _ _ _ h2⟩

abbrev Tryz.two (n:Nat) (p:Int × Int) (W:World):Prop:=Boxed W n 127 (.int .u32 p.1)∧Boxed W (n+1) 127 (.int .u32 p.2)

set_option maxRecDepth 100000 in
set_option maxHeartbeats 4000000 in
theorem Tryz.sum_in (B o L cap:Nat) (f:Nat→Int) (hf:∀j,0≤f j∧f j<256) (hL:L≤cap) (hreach:L≤140737488351232) (w:World) (hB:B<w.heap.size)
 (hc:∀j,j<L→w.cell? ⟨B,o+j,none⟩=some (.int .u8 (f j))) :
 CallsIn Fence.wide 4 Tryz.prog 57 #[.slice (some ⟨B,o,none⟩) L cap] w fun e W'=>e = .returned (.int .u32 (Ws.sumV f L))∧Below w.heap.size w W':=by
 have hmx:Tryz.prog.follows .mixedOrders=true:=by kernel_rfl
 refine callsIn_of_wp_marks Tryz.func57 rfl trivial ?_ rfl
 simp only[Tryz.ntmps57,List.size_toArray,List.length_cons,List.length_nil,Nat.reduceAdd,Nat.reduceSub,Array.replicate_succ,Array.replicate_zero,List.push_toArray,List.append_toArray,List.nil_append,List.cons_append]
 gi_wp2_with (refine⟨trivial,?_⟩;refine(Tryz.chunk_in _ _ _ _ _).mono ?_;rintro e w' ⟨rfl,rfl⟩)
 have b1:=Boxed.new w 127 (.int .u32 1)
 have b2:=Boxed.new (w.alloc (.cells #[.int .u32 1] 127)) 127 (.int .u32 0)
 rw[World.size_alloc] at b2
 have b3:=Boxed.new ((w.alloc (.cells #[.int .u32 1] 127)).alloc (.cells #[.int .u32 0] 127)) 27 (.slice (some ⟨B,o,none⟩) L cap)
 simp only[World.size_alloc] at b3
 have b4:=Boxed.new (((w.alloc (.cells #[.int .u32 1] 127)).alloc (.cells #[.int .u32 0] 127)).alloc (.cells #[.slice (some ⟨B,o,none⟩) L cap] 27)) 3 (.int .i64 3000)
 simp only[World.size_alloc] at b4
 have hB0:Below w.heap.size w ((((w.alloc (.cells #[.int .u32 1] 127)).alloc (.cells #[.int .u32 0] 127)).alloc (.cells #[.slice (some ⟨B,o,none⟩) L cap] 27)).alloc (.cells #[.int .i64 3000] 3)) :=
  ((((Below.refl _ w).alloc (Nat.le_refl _) _).alloc (by simp) _).alloc (by simp;omega) _).alloc (by simp;omega) _
 refine wpIn_rangeFunc_ownF rfl (by omega) (gf:=109) (lb:=#[.pointer (some ⟨w.heap.size+1+1,0,none⟩),.pointer (some ⟨w.heap.size+1+1+1,0,none⟩)]) rfl trivial (enters_of Tryz.func109 (by kernel_rfl) rfl)
  (Tryz.chunk_stops (w.heap.size+1+1) (w.heap.size+1+1+1) B o L cap hL hreach _ (by simp) (by simp) (b3.alloc _).cell b4.cell)
  (fun h k=>Tryz.keepsBoxes_t h k) (Tryz.keepsBoxes_b (by simp) (by simp)) (Below.refl _ _) (fun _=>rfl)
  (fun pre W=>Tryz.two w.heap.size (Ws.aA7 f L pre) W∧Below w.heap.size w W)
  (fun _ _ _=>False)
  (OwnFrom.and (Own.from (fun s A B row hs hg hr=>⟨boxed_own _ _ (fun s=>Value.int .u32 (Ws.aA7 f L s).1) s A B row hs.1 hg hr,boxed_own _ _ (fun s=>Value.int .u32 (Ws.aA7 f L s).2) s A B row hs.2 hg hr⟩) _) (ownFrom_below (Nat.le_refl _) (by simp;omega)))
  (fun _ _ _ _ _ hs _ _=>hs)
  ⟨⟨((b1.alloc _).alloc _).alloc _,(b2.alloc _).alloc _⟩,hB0⟩
  (fun x=>{ tmps:=#[.slice (some ⟨B,o,none⟩) L cap,undef,.int .u32 0,.pointer (some ⟨w.heap.size,0,none⟩),.pointer (some ⟨w.heap.size+1,0,none⟩),.slice (some ⟨B,o+x*3000,none⟩) (min 3000 (L - x*3000)) (min 3000 (L - x*3000)),undef,undef,.slice (some ⟨B,o,none⟩) L cap,.func (.func 109) #[] #[.pointer (some ⟨w.heap.size+1+1,0,none⟩),.pointer (some ⟨w.heap.size+1+1+1,0,none⟩)],.slice (some ⟨B,o+x*3000,none⟩) (min 3000 (L - x*3000)) (min 3000 (L - x*3000)),undef,undef,undef,undef,undef,undef,undef,undef,undef,undef,undef,undef,undef,undef,undef,undef,undef,undef,undef,undef,undef,undef],defers:=[] }) ?assign ?body ?done ?stop
 case assign =>
  intro l x W K hK
  gi_wp2
  exact hK
 case body =>
  rintro l pre x W ⟨⟨hx,hy⟩,hB⟩ _
  obtain⟨m,hm⟩:∃m,min 3000 (L - x*3000)=m:=⟨_,rfl⟩
  obtain⟨p,hp⟩:∃p,Ws.aA7 f L pre=p:=⟨_,rfl⟩
  rw[hp] at hx hy
  simp only[hm]
  gi_wp2
  gi_loopw [13] (fun i wr=>∃k:Nat,k≤m∧i = .int .i64 k∧Tryz.two w.heap.size (Ws.sumJ (fun j=>f (x*3000+j)) p k) wr∧Below w.heap.size w wr∧KeepsOthers W wr∧Tryz.keepsBoxes (w.heap.size+1+1) (w.heap.size+1+1+1) W wr)
   (fun i _=>m - (intOf i).toNat)
  case atStart=>exact⟨0,Nat.zero_le _,rfl,⟨hx,hy⟩,hB,KeepsOthers.refl _,rfl,rfl⟩
  case round =>
   obtain⟨k,hk,rfl,⟨hx1,hy1⟩,hB1,hK1,hb1⟩:=hrel
   obtain⟨q,hq⟩:∃q,Ws.sumJ (fun j=>f (x*3000+j)) p k=q:=⟨_,rfl⟩
   rw[hq] at hx1 hy1
   have hxc:=hx1.cell
   have hxf:=hx1.frozen
   have hyc:=hy1.cell
   have hyf:=hy1.frozen
   by_cases hlt:k<m
   · have hcell:wr.cell? ⟨B,o+x*3000+k,none⟩=some (.int .u8 (f (x*3000+k))):=(hB1.cell (p:=⟨B,o+x*3000+k,none⟩) ‹B<w.heap.size›).trans (by rw[Nat.add_assoc];exact hc _ (by omega))
     gi_wp2
     refine⟨⟨k+1,by omega,rfl,?_,(hB1.setCell (p:=⟨w.heap.size,0,none⟩) (Nat.le_refl _) _).setCell (p:=⟨w.heap.size+1,0,none⟩) (by simp) _,(hK1.trans (KeepsOthers.setCell _ _ _)).trans (KeepsOthers.setCell _ _ _),?_⟩,by simp [intOf];omega⟩
     · rw[Ws.sumJ,hq]
       exact⟨(hx1.set _).other (by omega) _,(hy1.other (by omega) _).set _⟩
     · exact Tryz.keepsBoxes_t hb1 (Tryz.keepsBoxes_t (Tryz.keepsBoxes_s (by omega) (by omega)) (Tryz.keepsBoxes_s (by omega) (by omega)))
   · obtain rfl:k=m:=by omega
     gi_wp2
     gi_region_o
     all_goals gi_wp2
     all_goals (try go_bits)
     all_goals refine⟨?_,?_,?_,?_⟩
     all_goals first
      | exact((hK1.trans (KeepsOthers.setCell _ _ _)).trans (KeepsOthers.setCell _ _ _)).trans (KeepsOthers.drew _)
      | exact Tryz.keepsBoxes_t hb1 (Tryz.keepsBoxes_t (Tryz.keepsBoxes_s (by omega) (by omega)) (Tryz.keepsBoxes_s (by omega) (by omega)))
      | exact Tryz.keepsBoxes_t hb1 (Tryz.keepsBoxes_t (Tryz.keepsBoxes_s (by omega) (by omega)) (Tryz.keepsBoxes_s (by omega) (by omega)))
      | exact Below.drew ((hB1.setCell (p:=⟨w.heap.size,0,none⟩) (Nat.le_refl _) _).setCell (p:=⟨w.heap.size+1,0,none⟩) (by simp) _)
      | exact Below.drew ((hB1.setCell (p:=⟨w.heap.size+1,0,none⟩) (by simp) _).setCell (p:=⟨w.heap.size,0,none⟩) (Nat.le_refl _) _)
      | (rw[Ws.aGF,hp,Ws.sumT,hm,hq];exact⟨(hx1.set _).other (by omega) _,(hy1.other (by omega) _).set _⟩)
      | (rw[Ws.aGF,hp,Ws.sumT,hm,hq];exact⟨(hx1.other (by omega) _).set _,(hy1.set _).other (by omega) _⟩)
 case done =>
  rintro D ys W hD rfl ⟨⟨hx,hy⟩,hB⟩ hK
  have hxc:=hx.cell
  have hyc:=hy.cell
  gi_wp2
  refine⟨by simp,.inl ⟨_,_,rfl,run_takeDeferred hK,?_⟩⟩
  exact⟨_,results_tmp rfl _ _ _,rfl,hB.trans (belowK_b (w:=w) (Nat.le_refl _) W D _ _ (by simp at hD;omega) hK rfl rfl)⟩
 case stop =>
  rintro D c pre W _ _ h _
  exact h.elim
set_option maxRecDepth 100000 in
set_option maxHeartbeats 4000000 in
theorem Tryz.sum_in0 (a:Option Addr) (cap:Nat) (w:World) :
 CallsIn Fence.wide 4 Tryz.prog 57 #[.slice a 0 cap] w fun e W'=>e = .returned (.int .u32 1)∧Below w.heap.size w W':=by
 have hmx:Tryz.prog.follows .mixedOrders=true:=by kernel_rfl
 refine callsIn_of_wp_marks Tryz.func57 rfl trivial ?_ rfl
 simp only[Tryz.ntmps57,List.size_toArray,List.length_cons,List.length_nil,Nat.reduceAdd,Nat.reduceSub,Array.replicate_succ,Array.replicate_zero,List.push_toArray,List.append_toArray,List.nil_append,List.cons_append]
 gi_wp2_with (refine⟨trivial,?_⟩;refine(Tryz.chunk_in _ _ _ _ _).mono ?_;rintro e w' ⟨rfl,rfl⟩)
 have b1:=Boxed.new w 127 (.int .u32 1)
 have b2:=Boxed.new (w.alloc (.cells #[.int .u32 1] 127)) 127 (.int .u32 0)
 rw[World.size_alloc] at b2
 have b3:=Boxed.new ((w.alloc (.cells #[.int .u32 1] 127)).alloc (.cells #[.int .u32 0] 127)) 27 (.slice a 0 cap)
 simp only[World.size_alloc] at b3
 have b4:=Boxed.new (((w.alloc (.cells #[.int .u32 1] 127)).alloc (.cells #[.int .u32 0] 127)).alloc (.cells #[.slice a 0 cap] 27)) 3 (.int .i64 3000)
 simp only[World.size_alloc] at b4
 have hB0:Below w.heap.size w ((((w.alloc (.cells #[.int .u32 1] 127)).alloc (.cells #[.int .u32 0] 127)).alloc (.cells #[.slice a 0 cap] 27)).alloc (.cells #[.int .i64 3000] 3)) :=
  ((((Below.refl _ w).alloc (Nat.le_refl _) _).alloc (by simp) _).alloc (by simp;omega) _).alloc (by simp;omega) _
 refine wpIn_rangeFunc_ownF rfl (by omega) (gf:=109) (lb:=#[.pointer (some ⟨w.heap.size+1+1,0,none⟩),.pointer (some ⟨w.heap.size+1+1+1,0,none⟩)]) rfl trivial (enters_of Tryz.func109 (by kernel_rfl) rfl)
  (Tryz.chunk_stops0 (w.heap.size+1+1) (w.heap.size+1+1+1) cap a _ (by simp) (b3.alloc _).cell)
  (fun h k=>Tryz.keepsBoxes_t h k) (Tryz.keepsBoxes_b (by simp) (by simp)) (Below.refl _ _) (fun _=>rfl)
  (fun pre W=>Tryz.two w.heap.size (Ws.aA7 (fun _=>0) 0 pre) W∧Below w.heap.size w W)
  (fun _ _ _=>False)
  (OwnFrom.and (Own.from (fun s A B row hs hg hr=>⟨boxed_own _ _ (fun s=>Value.int .u32 (Ws.aA7 (fun _=>0) 0 s).1) s A B row hs.1 hg hr,boxed_own _ _ (fun s=>Value.int .u32 (Ws.aA7 (fun _=>0) 0 s).2) s A B row hs.2 hg hr⟩) _) (ownFrom_below (Nat.le_refl _) (by simp;omega)))
  (fun _ _ _ _ _ hs _ _=>hs)
  ⟨⟨((b1.alloc _).alloc _).alloc _,(b2.alloc _).alloc _⟩,hB0⟩
  (fun x=>{ tmps:=#[.slice a 0 cap,undef,.int .u32 0,.pointer (some ⟨w.heap.size,0,none⟩),.pointer (some ⟨w.heap.size+1,0,none⟩),.slice none 0 0,undef,undef,.slice a 0 cap,.func (.func 109) #[] #[.pointer (some ⟨w.heap.size+1+1,0,none⟩),.pointer (some ⟨w.heap.size+1+1+1,0,none⟩)],.slice none 0 0,undef,undef,undef,undef,undef,undef,undef,undef,undef,undef,undef,undef,undef,undef,undef,undef,undef,undef,undef,undef,undef,undef],defers:=[] }) ?assign ?body ?done ?stop
 case assign =>
  intro l x W K hK
  gi_wp2
  exact hK
 case body =>
  rintro l pre x W _ h
  exact absurd h (Nat.not_lt_zero _)
 case done =>
  rintro D ys W hD rfl ⟨⟨hx,hy⟩,hB⟩ hK
  have hxc:=hx.cell
  have hyc:=hy.cell
  gi_wp2
  refine⟨by simp,.inl ⟨_,_,rfl,run_takeDeferred hK,?_⟩⟩
  exact⟨_,results_tmp rfl _ _ _,rfl,hB.trans (belowK_b (w:=w) (Nat.le_refl _) W D _ _ (by simp at hD;omega) hK rfl rfl)⟩
 case stop =>
  rintro D c pre W _ _ h _
  exact h.elim
end Go.Proofs
