/-
  wheel_Right: what the machine makes of it. (Printed by my own program.)
  Conditions: none.
-/
import Derived.Test.YtgaodljkmdafdaaZPre
import Derived.Test.YtgaodljkmdafdaaZPure
import Derived.Test.YtgaodljkmdafdaaZW27
set_option linter.unusedVariables false
set_option linter.unusedSimpArgs false
namespace Go.Ws
open Go.Proofs
set_option linter.unusedSimpArgs false
set_option linter.unusedVariables false
set_option maxRecDepth 1000000
set_option maxHeartbeats 4000000
noncomputable def X20:Ctx:=⟨Try.f20,[],true⟩
noncomputable def L20_0:Code:=at_ Try.f20 [1,1,1,0,1,4,5]
def S20_0 (x1:Int) (x2:Ty1) (v20001_1:Int) (v20001_2:List (Int × Unit)):St:=⟨mkT 71 [(1,(.hp 0 0)),(3,(.mp 1)),(24,(.sl 2 (List.map e_i64_i64 x2))),(25,(.int .i64 (nI x2.length))),(26,(.int .i64 v20001_1))],[(.row [(.int .i64 x1),(.sl 2 (List.map e_i64_i64 x2))]),(.map (encM .i64 (fun y=>AV.agg (e_unit y)) v20001_2) v20001_2.length)]⟩
def E20_0_0:St:=⟨mkT 71 [],[]⟩
def O20_0 (x1:Int) (x2:Ty1) (y:(Sum (Unit) (Bool))):GX:=match y with
 | .inl y=>.st (.exit 0) (E20_0_0)
 | .inr y=>.fin (.bool y) []
theorem ok_wheel_Right_l0 (x1:Int) (x2:Ty1) (y:(Sum (Unit) (Bool))):∀(k:Nat) (v20001_1:Int) (v20001_2:List (Int × Unit)),wheel_Right_l0 k x1 x2 v20001_1 v20001_2=some y→LT Try.prog X20 L20_0 (S20_0 x1 x2 v20001_1 v20001_2) (O20_0 x1 x2 y)
 | 0,v20001_1,v20001_2,h=>by cases h
 | k+1,v20001_1,v20001_2,h=>by
  rw[wheel_Right_l0] at h
  by_cases cL0:ltI v20001_1 (nI x2.length)=true
  · rw[if_pos cL0] at h
    by_cases cL1:inI v20001_1 x2.length=true
    · rw[if_pos cL1] at h
      obtain⟨v20000_1,eL2,h⟩:=bsm h
      let u1:List Ans:=[dt,.n x2.length,.row [(.int .i64 v20000_1.1),(.int .i64 v20000_1.2)]]
      let w2:List Prf:=[⟨(cells_map (e:=e_i64_i64) eL2 2 0 2 (by decide))⟩,⟨cL1⟩,⟨(len_map e_i64_i64 x2)⟩,⟨cL0⟩]
      by_cases cL3:mHas v20001_2 v20000_1.1=true
      · rw[if_pos cL3] at h
        obtain⟨v20000_2,eL4,h⟩:=bsm h
        obtain rfl:=osi h
        show LT _ _ _ _ (.fin (.bool false) [])
        exact LT.done mixed (hs:=⟨[],[],false,[],[]⟩) (es:=none) (u1++[.opt (some (.agg [])),dt,dt,dt,dt,dt,dt,dt,dt,dt,dt,dt,dt,dt,dt,dt,dt]) ([⟨rT⟩,⟨rT⟩,⟨rT⟩,⟨rT⟩,⟨rT⟩,⟨rT⟩,⟨rT⟩,⟨rT⟩,⟨rT⟩,⟨rT⟩,⟨rT⟩,⟨rT⟩,⟨rT⟩,⟨rT⟩,⟨rT⟩,⟨rT⟩,⟨(look_some .i64 (fun y=>AV.agg (e_unit y)) eL4)⟩]++w2) (by kernel_rfl) (fun s h=>by cases h)
      rw[if_neg cL3] at h;replace cL3:=eqf cL3
      let u3:List Ans:=u1++[.opt none,df,df,df,df,df,df]
      let w4:List Prf:=[⟨rF⟩,⟨rF⟩,⟨rF⟩,⟨rF⟩,⟨rF⟩,⟨rF⟩,⟨(look_none .i64 (fun y=>AV.agg (e_unit y)) cL3)⟩]++w2
      by_cases cL4:ltI x1 v20000_1.2=true
      · rw[if_pos cL4] at h
        let w6:List Prf:=[⟨(nF cL4)⟩,⟨(nF cL4)⟩,⟨(nF cL4)⟩,⟨(nF cL4)⟩]++w4
        by_cases cL5:ltI 1099511627776 v20000_1.2=true
        · rw[if_pos cL5] at h
          obtain rfl:=osi h
          show LT _ _ _ _ (.fin (.bool false) [])
          exact LT.done mixed (hs:=⟨[],[],false,[],[]⟩) (es:=none) (u3++[df,df,df,df,dt,dt,dt,dt,dt,dt]) ([⟨rT⟩,⟨cL5⟩,⟨cL5⟩,⟨cL5⟩,⟨cL5⟩,⟨cL5⟩]++w6) (by kernel_rfl) (fun s h=>by cases h)
        rw[if_neg cL5] at h;replace cL5:=eqf cL5
        by_cases cL6:ltI 0 v20001_1=true
        · rw[if_pos cL6] at h
          by_cases cL7:inI (isub .i64 v20001_1 1) x2.length=true
          · rw[if_pos cL7] at h
            obtain⟨v20000_2,eL8,h⟩:=bsm h
            obtain⟨v20000_3,eL9,h⟩:=bsm h
            let u9:List Ans:=u3++[df,df,df,df,df,df,df,dt,dt,dt,dt,dt,.n x2.length,dt,.row [(.int .i64 v20000_2.1),(.int .i64 v20000_2.2)],dt,dt,.call ⟨true,[]⟩ (.int .i64 v20000_3) [],dt,df,dt,df]
            let w10:List Prf:=[⟨cL5⟩,⟨cL6⟩,⟨cL5⟩,⟨cL6⟩,⟨(ok_wheel_order k v20000_2.1 v20000_2.2 v20000_1.1 v20000_1.2 _ eL9)⟩,⟨cL6⟩,⟨cL6⟩,⟨(cells_map (e:=e_i64_i64) eL8 2 0 2 (by decide))⟩,⟨cL6⟩,⟨cL7⟩,⟨(len_map e_i64_i64 x2)⟩,⟨cL6⟩,⟨cL6⟩,⟨cL6⟩,⟨cL6⟩,⟨cL6⟩,⟨cL5⟩,⟨cL5⟩,⟨cL5⟩]++w6
            by_cases cL10:ltI v20000_3 0=true
            · rw[if_pos cL10] at h
              exact LT.next mixed (hs:=⟨[(1,[]),(3,[]),(24,[]),(25,[]),(26,[])],[⟨.tmp 1,[],none⟩,⟨.tmp 3,[],none⟩],false,[],[]⟩) (es:=none) (u9++[df,.ents (encM .i64 (fun y=>AV.agg (e_unit y)) (mPut v20001_2 v20000_1.1 ())) (mPut v20001_2 v20000_1.1 ()).length]) ([⟨(put_enc .i64 (fun y=>AV.agg (e_unit y)) v20001_2 v20000_1.1 ())⟩,⟨(nF cL10)⟩]++w10) (by kernel_rfl) (ok_wheel_Right_l0 x1 x2 y k (iadd .i64 v20001_1 1) (mPut v20001_2 v20000_1.1 ()) h)
            rw[if_neg cL10] at h;replace cL10:=eqf cL10
            obtain rfl:=osi h
            show LT _ _ _ _ (.fin (.bool false) [])
            exact LT.done mixed (hs:=⟨[],[],false,[],[]⟩) (es:=none) (u9++[dt]) ([⟨(nT cL10)⟩]++w10) (by kernel_rfl) (fun s h=>by cases h)
          rw[if_neg cL7] at h;replace cL7:=eqf cL7
          cases h
        rw[if_neg cL6] at h;replace cL6:=eqf cL6
        exact LT.next mixed (hs:=⟨[(1,[]),(3,[]),(24,[]),(25,[]),(26,[])],[⟨.tmp 1,[],none⟩,⟨.tmp 3,[],none⟩],false,[],[]⟩) (es:=none) (u3++[df,df,df,df,df,df,df,df,df,df,df,df,df,df,df,df,df,df,df,df,.ents (encM .i64 (fun y=>AV.agg (e_unit y)) (mPut v20001_2 v20000_1.1 ())) (mPut v20001_2 v20000_1.1 ()).length]) ([⟨(put_enc .i64 (fun y=>AV.agg (e_unit y)) v20001_2 v20000_1.1 ())⟩,⟨rF⟩,⟨cL5⟩,⟨cL6⟩,⟨cL5⟩,⟨cL6⟩,⟨cL6⟩,⟨cL6⟩,⟨cL6⟩,⟨cL6⟩,⟨cL6⟩,⟨cL6⟩,⟨cL6⟩,⟨cL6⟩,⟨cL5⟩,⟨cL5⟩,⟨cL5⟩]++w6) (by kernel_rfl) (ok_wheel_Right_l0 x1 x2 y k (iadd .i64 v20001_1 1) (mPut v20001_2 v20000_1.1 ()) h)
      rw[if_neg cL4] at h;replace cL4:=eqf cL4
      obtain rfl:=osi h
      show LT _ _ _ _ (.fin (.bool false) [])
      exact LT.done mixed (hs:=⟨[],[],false,[],[]⟩) (es:=none) (u3++[dt,dt,dt,dt,dt,dt,dt,dt,dt,dt]) ([⟨rT⟩,⟨rT⟩,⟨rT⟩,⟨rT⟩,⟨rT⟩,⟨rT⟩,⟨(nT cL4)⟩,⟨(nT cL4)⟩,⟨(nT cL4)⟩,⟨(nT cL4)⟩]++w4) (by kernel_rfl) (fun s h=>by cases h)
    rw[if_neg cL1] at h;replace cL1:=eqf cL1
    cases h
  rw[if_neg cL0] at h;replace cL0:=eqf cL0
  obtain rfl:=osi h
  show LT _ _ _ _ (.st (.exit 0) (E20_0_0))
  exact LT.done mixed (hs:=⟨[],[],false,[],[]⟩) (es:=(some ⟨[],[],false,[],[]⟩)) [df] [⟨cL0⟩] (by kernel_rfl) (fun s h=>by cases h)
theorem ok_wheel_Right (k:Nat) (x1:Int) (x2:Ty1) (r:Bool) (h:wheel_Right k x1 x2=some r):Tri Try.prog 20 [(.agg [(.int .i64 x1),(.sl 2 (List.map e_i64_i64 x2))])] [] (.bool r) []:=by
 unfold wheel_Right at h
 by_cases c0:ltI x1 0=true
 · rw[if_pos c0] at h
   obtain rfl:=osi h
   exact Tri.of (x:=X20) mixed facts20 [dt,dt,dt,dt,dt,dt,dt,dt,dt,dt] [⟨rT⟩,⟨rT⟩,⟨rT⟩,⟨rT⟩,⟨rT⟩,⟨rT⟩,⟨c0⟩,⟨c0⟩,⟨c0⟩,⟨c0⟩] (by kernel_rfl)
 rw[if_neg c0] at h;replace c0:=eqf c0
 by_cases c1:ltI 1099511627776 x1=true
 · rw[if_pos c1] at h
   obtain rfl:=osi h
   exact Tri.of (x:=X20) mixed facts20 [df,df,df,df,dt,dt,dt,dt,dt,dt] [⟨rT⟩,⟨c1⟩,⟨c1⟩,⟨c1⟩,⟨c1⟩,⟨c1⟩,⟨c0⟩,⟨c0⟩,⟨c0⟩,⟨c0⟩] (by kernel_rfl)
 rw[if_neg c1] at h;replace c1:=eqf c1
 let u13:List Ans:=[df,df,df,df,df,df,df,.n x2.length,df,df]
 let w14:List Prf:=[⟨c1⟩,⟨c1⟩,⟨(len_map e_i64_i64 x2)⟩,⟨c1⟩,⟨c1⟩,⟨c1⟩,⟨c0⟩,⟨c0⟩,⟨c0⟩,⟨c0⟩]
 by_cases c2:ltI 1000 (nI x2.length)=true
 · rw[if_pos c2] at h
   obtain rfl:=osi h
   exact Tri.of (x:=X20) mixed facts20 (u13++[dt]) ([⟨c2⟩]++w14) (by kernel_rfl)
 rw[if_neg c2] at h;replace c2:=eqf c2
 let u15:List Ans:=u13++[df,.n x2.length,.norm 2 ⟨[(1,[]),(3,[]),(24,[]),(25,[]),(26,[])],[⟨.tmp 1,[],none⟩,⟨.tmp 3,[],none⟩],false,[],[]⟩]
 let w16:List Prf:=[⟨(len_map e_i64_i64 x2)⟩,⟨c2⟩]++w14
 obtain⟨x3,e3,h⟩:=bsm h
 cases x3 with
 | inl x4 =>
  simp only[Sum.elim_inl] at h
  obtain rfl:=osi h
  exact Tri.of (x:=X20) mixed facts20 (u15++[.out (.st .normal (E20_0_0))]) ([⟨(LT.block (ok_wheel_Right_l0 x1 x2 _ k 0 ([]:List (Int × Unit)) e3))⟩]++w16) (by kernel_rfl)
 | inr x4 =>
  simp only[Sum.elim_inr] at h
  obtain rfl:=osi h
  exact Tri.of (x:=X20) mixed facts20 (u15++[.out (.fin (.bool x4) [])]) ([⟨(LT.blockFin (id:=0) (ok_wheel_Right_l0 x1 x2 _ k 0 ([]:List (Int × Unit)) e3))⟩]++w16) (by kernel_rfl)
end Go.Ws
