/-
  law06_WheelOnce: what the machine makes of it. (Printed by my own program.)
  Conditions: none.
-/
import Derived.Test.YtgaodljkmdafdaaZPre
import Derived.Test.YtgaodljkmdafdaaZPure
import Derived.Test.YtgaodljkmdafdaaZB2
import Derived.Test.YtgaodljkmdafdaaZW10
import Derived.Test.YtgaodljkmdafdaaZW11
import Derived.Test.YtgaodljkmdafdaaZW14
import Derived.Test.YtgaodljkmdafdaaZW16
set_option linter.unusedVariables false
set_option linter.unusedSimpArgs false
namespace Go.Ws
open Go.Proofs
set_option linter.unusedSimpArgs false
set_option linter.unusedVariables false
set_option maxRecDepth 1000000
set_option maxHeartbeats 4000000
noncomputable def X6:Ctx:=⟨Try.f6,[],true⟩
def A6_0 (v6000_2:Int × Ty1 × Int):Ans:=.call ⟨true,[]⟩ (.tup [(.agg [(.int .i64 v6000_2.1),(.sl 2 (List.map e_i64_i64 v6000_2.2.1))]),(.int .i64 v6000_2.2.2)]) []
def A6_1 (v6000_2:Int × Ty1 × (List Int) × Int):Ans:=.call ⟨true,[]⟩ (.tup [(.agg [(.int .i64 v6000_2.1),(.sl 2 (List.map e_i64_i64 v6000_2.2.1))]),(.sl 1 (List.map e_i64 v6000_2.2.2.1)),(.int .i64 v6000_2.2.2.2)]) []
def A6_2:Ans:=.norm 11 ⟨[(0,[]),(3,[]),(4,[]),(5,[]),(11,[]),(13,[]),(94,[]),(95,[]),(96,[])],[⟨.tmp 3,[],none⟩,⟨.tmp 4,[],none⟩,⟨.tmp 11,[],none⟩],false,[],[]⟩
def A6_3 (x1:List (Int × Int × Int)) (v6000_2:Int × Ty1 × (List Int) × Int) (v6000_4:(List (Option (Int × Int)))) (v6001_1:Int) (v6001_2:Int) (v6001_3:Ty1):Ans:=.outS 32 (.st .normal ⟨(mkT 138 [(0,(.sl 3 (List.map e_u8_i64_i64 x1))),(3,(.hp 0 0)),(4,(.mp 1)),(5,(.int .i64 v6001_1)),(11,(.hp 2 0))]).set 121 (.mp 1),[(.row [(.int .i64 v6001_2),(.sl 2 (List.map e_i64_i64 v6001_3))]),(.map (encH .i64 (fun y=>(e_i64 y).headD undefA) v6000_4) v6000_4.length),(.row [(.int .i64 v6000_2.1),(.sl 2 (List.map e_i64_i64 v6000_2.2.1))])]⟩)
def A6_4:Ans:=.norm 2 ⟨[(0,[]),(3,[]),(4,[]),(5,[])],[⟨.tmp 3,[(1,2)],none⟩,⟨.tmp 4,[],none⟩],false,[],[]⟩
theorem rng6_0 (x1:List (Int × Int × Int)) (x2:Int) (x3:Int) (x4:Ty1) (x5:List (Option (Int × Int))) (x6:Int) (x7:Ty1):(((hL x5).any (fun q=>!(ltI x6 q.2)))=false→Tc Try.prog X6 (at_ Try.f6 [1,1,1,1,0,1,4,5,1,0,4,1,0,1,4,1,3,1,2,1,1,0]) ⟨(mkT 138 [(0,(.sl 3 (List.map e_u8_i64_i64 x1))),(3,(.hp 0 0)),(4,(.mp 1)),(5,(.int .i64 x2)),(11,(.hp 2 0))]),[(.row [(.int .i64 x3),(.sl 2 (List.map e_i64_i64 x4))]),(.map (encH .i64 (fun y=>(e_i64 y).headD undefA) x5) x5.length),(.row [(.int .i64 x6),(.sl 2 (List.map e_i64_i64 x7))])]⟩ (.st .normal ⟨(mkT 138 [(0,(.sl 3 (List.map e_u8_i64_i64 x1))),(3,(.hp 0 0)),(4,(.mp 1)),(5,(.int .i64 x2)),(11,(.hp 2 0))]).set 121 (.mp 1),[(.row [(.int .i64 x3),(.sl 2 (List.map e_i64_i64 x4))]),(.map (encH .i64 (fun y=>(e_i64 y).headD undefA) x5) x5.length),(.row [(.int .i64 x6),(.sl 2 (List.map e_i64_i64 x7))])]⟩))∧(((hL x5).any (fun q=>!(ltI x6 q.2)))=true→Tc Try.prog X6 (at_ Try.f6 [1,1,1,1,0,1,4,5,1,0,4,1,0,1,4,1,3,1,2,1,1,0]) ⟨(mkT 138 [(0,(.sl 3 (List.map e_u8_i64_i64 x1))),(3,(.hp 0 0)),(4,(.mp 1)),(5,(.int .i64 x2)),(11,(.hp 2 0))]),[(.row [(.int .i64 x3),(.sl 2 (List.map e_i64_i64 x4))]),(.map (encH .i64 (fun y=>(e_i64 y).headD undefA) x5) x5.length),(.row [(.int .i64 x6),(.sl 2 (List.map e_i64_i64 x7))])]⟩ (.fin (.bool false) [])):=by
 rw[show (at_ Try.f6 [1,1,1,1,0,1,4,5,1,0,4,1,0,1,4,1,3,1,2,1,1,0])=rangeC 32 121 4 59 (opAt (at_ Try.f6 [1,1,1,1,0,1,4,5,1,0,4,1,0,1,4,1,3,1,2,1,1,0,0]) 0).type (opAt (at_ Try.f6 [1,1,1,1,0,1,4,5,1,0,4,1,0,1,4,1,3,1,2,1,1,0,0]) 1).type (opAt (at_ Try.f6 [1,1,1,1,0,1,4,5,1,0,4,1,0,1,4,1,3,1,2,1,1,0,0]) 0).pos (opAt (at_ Try.f6 [1,1,1,1,0,1,4,5,1,0,4,1,0,1,4,1,3,1,2,1,1,0,0]) 1).pos (opAt (at_ Try.f6 [1,1,1,1,0,1,4,5,1,0,4,1,0,1,4,1,3,1,2,1,1,0,0]) 0).after (opAt (at_ Try.f6 [1,1,1,1,0,1,4,5,1,0,4,1,0,1,4,1,3,1,2,1,1,0,0]) 1).after 122 123 124 125 5 6 33 34 (opAt (at_ Try.f6 [1,1,1,1,0,1,4,5,1,0,4,1,0,1,4,1,3,1,2,1,1,0,1,4,5,0]) 0).type (opAt (at_ Try.f6 [1,1,1,1,0,1,4,5,1,0,4,1,0,1,4,1,3,1,2,1,1,0,1,4,5,0]) 1).type (opAt (at_ Try.f6 [1,1,1,1,0,1,4,5,1,0,4,1,0,1,4,1,3,1,2,1,1,0,1,4,5,1,1,4,0]) 0).type (opAt (at_ Try.f6 [1,1,1,1,0,1,4,5,1,0,4,1,0,1,4,1,3,1,2,1,1,0,1,4,5,0]) 0).pos (opAt (at_ Try.f6 [1,1,1,1,0,1,4,5,1,0,4,1,0,1,4,1,3,1,2,1,1,0,1,4,5,0]) 1).pos (opAt (at_ Try.f6 [1,1,1,1,0,1,4,5,1,0,4,1,0,1,4,1,3,1,2,1,1,0,1,4,5,1,1,4,0]) 0).pos (opAt (at_ Try.f6 [1,1,1,1,0,1,4,5,1,0,4,1,0,1,4,1,3,1,2,1,1,0,1,4,5,0]) 0).after (opAt (at_ Try.f6 [1,1,1,1,0,1,4,5,1,0,4,1,0,1,4,1,3,1,2,1,1,0,1,4,5,0]) 1).after (opAt (at_ Try.f6 [1,1,1,1,0,1,4,5,1,0,4,1,0,1,4,1,3,1,2,1,1,0,1,4,5,1,1,4,0]) 0).after (opsT (at_ Try.f6 [1,1,1,1,0,1,4,5,1,0,4,1,0,1,4,1,3,1,2,1,1,0,1,4,5,1,1,4,0])) (at_ Try.f6 [1,1,1,1,0,1,4,5,1,0,4,1,0,1,4,1,3,1,2,1,1,0,1,4,5,1,1,4,1]) from by kernel_rfl]
 exact range_scan (fun q=>ltI x6 q.2) rfl (by decide) (by decide) (by decide) (kt:=3) (et:=2) (by kernel_rfl) rfl (Nat.lt_of_lt_of_eq (by decide:121<138) (by kernel_rfl)) ⟨rfl,rfl,rfl,rfl⟩ rfl
  (fun q p c0=>⟨⟨(mkT 138 [(0,(.sl 3 (List.map e_u8_i64_i64 x1))),(3,(.hp 0 0)),(4,(.mp 1)),(5,(.int .i64 x2)),(11,(.hp 2 0)),(19,(.int .i64 q.2)),(121,(.mp 1)),(122,(.raw p)),(123,(.tup [(.bool true),(.int .i64 q.1),(.int .i64 q.2)])),(124,(.bool true)),(125,(.tup [(.int .i64 q.1),(.int .i64 q.2)])),(126,(.int .i64 q.2))]),[(.row [(.int .i64 x3),(.sl 2 (List.map e_i64_i64 x4))]),(.map (encH .i64 (fun y=>(e_i64 y).headD undefA) x5) x5.length),(.row [(.int .i64 x6),(.sl 2 (List.map e_i64_i64 x7))])]⟩,⟨(mkT 138 [(0,(.sl 3 (List.map e_u8_i64_i64 x1))),(3,(.hp 0 0)),(4,(.mp 1)),(5,(.int .i64 x2)),(11,(.hp 2 0)),(19,(.int .i64 q.2)),(121,(.mp 1)),(122,(.raw p)),(123,(.tup [(.bool true),(.int .i64 q.1),(.int .i64 q.2)])),(124,(.bool true)),(125,(.tup [(.int .i64 q.1),(.int .i64 q.2)])),(126,(.int .i64 q.2)),(127,(.int .i64 q.2)),(128,(.hp 2 0)),(129,(.int .i64 x6)),(130,(.bool (!ltI x6 q.2)))]),[(.row [(.int .i64 x3),(.sl 2 (List.map e_i64_i64 x4))]),(.map (encH .i64 (fun y=>(e_i64 y).headD undefA) x5) x5.length),(.row [(.int .i64 x6),(.sl 2 (List.map e_i64_i64 x7))])]⟩,by kernel_rfl,Tc.code mixed [.d false] [⟨(nF c0)⟩] (by kernel_rfl),rfl,less_of (by kernel_rfl) (by kernel_rfl)⟩)
  (fun q p c0=>⟨⟨(mkT 138 [(0,(.sl 3 (List.map e_u8_i64_i64 x1))),(3,(.hp 0 0)),(4,(.mp 1)),(5,(.int .i64 x2)),(11,(.hp 2 0)),(19,(.int .i64 q.2)),(121,(.mp 1)),(122,(.raw p)),(123,(.tup [(.bool true),(.int .i64 q.1),(.int .i64 q.2)])),(124,(.bool true)),(125,(.tup [(.int .i64 q.1),(.int .i64 q.2)])),(126,(.int .i64 q.2))]),[(.row [(.int .i64 x3),(.sl 2 (List.map e_i64_i64 x4))]),(.map (encH .i64 (fun y=>(e_i64 y).headD undefA) x5) x5.length),(.row [(.int .i64 x6),(.sl 2 (List.map e_i64_i64 x7))])]⟩,[(.row [(.int .i64 x3),(.sl 2 (List.map e_i64_i64 x4))]),(.map (encH .i64 (fun y=>(e_i64 y).headD undefA) x5) x5.length),(.row [(.int .i64 x6),(.sl 2 (List.map e_i64_i64 x7))])],by kernel_rfl,Tc.code mixed [.d true] [⟨(nT c0)⟩] (by kernel_rfl)⟩)
noncomputable def L6_1:Code:=at_ Try.f6 [1,1,1,1,0,1,4,5,1,0,4,1,0,1,4,1,3,1,2,1,0,1,4,5]
def S6_1 (x1:List (Int × Int × Int)) (v6000_2:Int × Ty1 × (List Int) × Int) (v6001_1:Int) (v6001_2:Int) (v6001_3:Ty1) (v6011_1:Int) (v6011_2:List (Option (Int × Int))):St:=⟨mkT 138 [(0,(.sl 3 (List.map e_u8_i64_i64 x1))),(3,(.hp 0 0)),(4,(.mp 1)),(5,(.int .i64 v6001_1)),(11,(.hp 2 0)),(13,(.int .i64 v6000_2.2.2.2)),(94,(.sl 1 (List.map e_i64 v6000_2.2.2.1))),(95,(.int .i64 (nI v6000_2.2.2.1.length))),(96,(.int .i64 v6011_1))],[(.row [(.int .i64 v6001_2),(.sl 2 (List.map e_i64_i64 v6001_3))]),(.map (encH .i64 (fun y=>(e_i64 y).headD undefA) v6011_2) v6011_2.length),(.row [(.int .i64 v6000_2.1),(.sl 2 (List.map e_i64_i64 v6000_2.2.1))])]⟩
def E6_1_3 (x1:List (Int × Int × Int)) (v6000_2:Int × Ty1 × (List Int) × Int) (v6001_1:Int) (v6001_2:Int) (v6001_3:Ty1) (v6012_1:List (Option (Int × Int))):St:=⟨mkT 138 [(0,(.sl 3 (List.map e_u8_i64_i64 x1))),(3,(.hp 0 0)),(4,(.mp 1)),(5,(.int .i64 v6001_1)),(11,(.hp 2 0))],[(.row [(.int .i64 v6001_2),(.sl 2 (List.map e_i64_i64 v6001_3))]),(.map (encH .i64 (fun y=>(e_i64 y).headD undefA) v6012_1) v6012_1.length),(.row [(.int .i64 v6000_2.1),(.sl 2 (List.map e_i64_i64 v6000_2.2.1))])]⟩
def O6_1 (x1:List (Int × Int × Int)) (v6000_2:Int × Ty1 × (List Int) × Int) (v6001_1:Int) (v6001_2:Int) (v6001_3:Ty1) (y:(Sum ((List (Option (Int × Int)))) (Bool))):GX:=match y with
 | .inl y=>.st (.exit 3) (E6_1_3 x1 v6000_2 v6001_1 v6001_2 v6001_3 y)
 | .inr y=>.fin (.bool y) []
noncomputable def L6_0:Code:=at_ Try.f6 [1,1,1,1,0,1,4,5]
def S6_0 (x1:List (Int × Int × Int)) (v6001_1:Int) (v6001_2:Int) (v6001_3:Ty1) (v6001_4:List (Option (Int × Int))):St:=⟨mkT 138 [(0,(.sl 3 (List.map e_u8_i64_i64 x1))),(3,(.hp 0 0)),(4,(.mp 1)),(5,(.int .i64 v6001_1))],[(.row [(.int .i64 v6001_2),(.sl 2 (List.map e_i64_i64 v6001_3))]),(.map (encH .i64 (fun y=>(e_i64 y).headD undefA) v6001_4) v6001_4.length)]⟩
def E6_0_0:St:=⟨mkT 138 [],[]⟩
def O6_0 (x1:List (Int × Int × Int)) (y:(Sum (Unit) (Bool))):GX:=match y with
 | .inl y=>.st (.exit 0) (E6_0_0)
 | .inr y=>.fin (.bool y) []
theorem ok_law06_WheelOnce_l1 (x1:List (Int × Int × Int)) (v6000_2:Int × Ty1 × (List Int) × Int) (v6001_1:Int) (v6001_2:Int) (v6001_3:Ty1) (y:(Sum ((List (Option (Int × Int)))) (Bool))):∀(k:Nat) (v6011_1:Int) (v6011_2:List (Option (Int × Int))),law06_WheelOnce_l1 k x1 v6000_2 v6001_1 v6001_2 v6001_3 v6011_1 v6011_2=some y→LT Try.prog X6 L6_1 (S6_1 x1 v6000_2 v6001_1 v6001_2 v6001_3 v6011_1 v6011_2) (O6_1 x1 v6000_2 v6001_1 v6001_2 v6001_3 y)
 | 0,v6011_1,v6011_2,h=>by cases h
 | k+1,v6011_1,v6011_2,h=>by
  rw[law06_WheelOnce_l1] at h
  by_cases cL0:ltI v6011_1 (nI v6000_2.2.2.1.length)=true
  · rw[if_pos cL0] at h
    by_cases cL1:inI v6011_1 v6000_2.2.2.1.length=true
    · rw[if_pos cL1] at h
      obtain⟨v6010_1,eL2,h⟩:=bsm h
      let u1:List Ans:=[dt,.n v6000_2.2.2.1.length,.row [(.int .i64 v6010_1)]]
      let w2:List Prf:=[⟨(cells_map (e:=e_i64) eL2 1 0 1 (by decide))⟩,⟨cL1⟩,⟨(len_map e_i64 v6000_2.2.2.1)⟩,⟨cL0⟩]
      by_cases cL3:mHas (hL v6011_2) v6010_1=true
      · rw[if_pos cL3] at h
        obtain⟨v6010_2,eL4,h⟩:=bsm h
        let u3:List Ans:=u1++[.opt (some (.int .i64 v6010_2)),df,df,df,df,df]
        let w4:List Prf:=[⟨(nF rfl)⟩,⟨(nF rfl)⟩,⟨(nF rfl)⟩,⟨(nF rfl)⟩,⟨(nF rfl)⟩,⟨(look_someH .i64 (fun y=>(e_i64 y).headD undefA) eL4)⟩]++w2
        by_cases cL5:ltI v6000_2.1 v6010_2=true
        · rw[if_pos cL5] at h
          obtain rfl:=osi h
          show LT _ _ _ _ (.fin (.bool false) [])
          exact LT.done mixed (hs:=⟨[],[],false,[],[]⟩) (es:=none) (u3++[dt,dt,dt,dt]) ([⟨rT⟩,⟨cL5⟩,⟨cL5⟩,⟨cL5⟩]++w4) (by kernel_rfl) (fun s h=>by cases h)
        rw[if_neg cL5] at h;replace cL5:=eqf cL5
        by_cases cL6:eqI v6000_2.2.2.2 0=true
        · rw[if_pos cL6] at h
          exact LT.next mixed (hs:=⟨[(0,[]),(3,[]),(4,[]),(5,[]),(11,[]),(13,[]),(94,[]),(95,[]),(96,[])],[⟨.tmp 3,[],none⟩,⟨.tmp 4,[],none⟩,⟨.tmp 11,[],none⟩],false,[],[]⟩) (es:=none) (u3++[df,df,df,df,.ents (encH .i64 (fun y=>(e_i64 y).headD undefA) (hDel v6011_2 v6010_1)) (hDel v6011_2 v6010_1).length]) ([⟨(del_encH .i64 (fun y=>(e_i64 y).headD undefA) v6011_2 v6010_1)⟩,⟨(nF cL6)⟩,⟨cL5⟩,⟨cL5⟩,⟨cL5⟩]++w4) (by kernel_rfl) (ok_law06_WheelOnce_l1 x1 v6000_2 v6001_1 v6001_2 v6001_3 y k (iadd .i64 v6011_1 1) (hDel v6011_2 v6010_1) h)
        rw[if_neg cL6] at h;replace cL6:=eqf cL6
        obtain rfl:=osi h
        show LT _ _ _ _ (.fin (.bool false) [])
        exact LT.done mixed (hs:=⟨[],[],false,[],[]⟩) (es:=none) (u3++[df,df,df,dt]) ([⟨(nT cL6)⟩,⟨cL5⟩,⟨cL5⟩,⟨cL5⟩]++w4) (by kernel_rfl) (fun s h=>by cases h)
      rw[if_neg cL3] at h;replace cL3:=eqf cL3
      obtain rfl:=osi h
      show LT _ _ _ _ (.fin (.bool false) [])
      exact LT.done mixed (hs:=⟨[],[],false,[],[]⟩) (es:=none) (u1++[.opt none,dt,dt,dt,dt,dt,dt,dt,dt,dt]) ([⟨rT⟩,⟨rT⟩,⟨rT⟩,⟨rT⟩,⟨(nT rfl)⟩,⟨(nT rfl)⟩,⟨(nT rfl)⟩,⟨(nT rfl)⟩,⟨(nT rfl)⟩,⟨(look_noneH .i64 (fun y=>(e_i64 y).headD undefA) cL3)⟩]++w2) (by kernel_rfl) (fun s h=>by cases h)
    rw[if_neg cL1] at h;replace cL1:=eqf cL1
    cases h
  rw[if_neg cL0] at h;replace cL0:=eqf cL0
  obtain rfl:=osi h
  show LT _ _ _ _ (.st (.exit 3) (E6_1_3 x1 v6000_2 v6001_1 v6001_2 v6001_3 v6011_2))
  exact LT.done mixed (hs:=⟨[],[],false,[],[]⟩) (es:=(some ⟨[(0,[]),(3,[]),(4,[]),(5,[]),(11,[])],[⟨.tmp 3,[],none⟩,⟨.tmp 4,[],none⟩,⟨.tmp 11,[],none⟩],false,[],[]⟩)) [df] [⟨cL0⟩] (by kernel_rfl) (fun s h=>by cases h)
theorem ok_law06_WheelOnce_l0 (x1:List (Int × Int × Int)) (y:(Sum (Unit) (Bool))):∀(k:Nat) (v6001_1:Int) (v6001_2:Int) (v6001_3:Ty1) (v6001_4:List (Option (Int × Int))),law06_WheelOnce_l0 k x1 v6001_1 v6001_2 v6001_3 v6001_4=some y→LT Try.prog X6 L6_0 (S6_0 x1 v6001_1 v6001_2 v6001_3 v6001_4) (O6_0 x1 y)
 | 0,v6001_1,v6001_2,v6001_3,v6001_4,h=>by cases h
 | k+1,v6001_1,v6001_2,v6001_3,v6001_4,h=>by
  rw[law06_WheelOnce_l0] at h
  by_cases cL0:ltI v6001_1 (nI x1.length)=true
  · rw[if_pos cL0] at h
    let w10:List Prf:=[⟨cL0⟩,⟨cL0⟩,⟨cL0⟩,⟨(len_map e_u8_i64_i64 x1)⟩]
    by_cases cL1:ltI v6001_1 100=true
    · rw[if_pos cL1] at h
      by_cases cL2:inI v6001_1 x1.length=true
      · rw[if_pos cL2] at h
        obtain⟨v6000_1,eL3,h⟩:=bsm h
        let u11:List Ans:=[.n x1.length,dt,dt,dt,dt,.n x1.length,.row [(.int .u8 v6000_1.1),(.int .i64 v6000_1.2.1),(.int .i64 v6000_1.2.2)],df]
        let w12:List Prf:=[⟨(rfl:eqI 5 0=false)⟩,⟨(cells_map (e:=e_u8_i64_i64) eL3 3 0 3 (by decide))⟩,⟨cL2⟩,⟨(len_map e_u8_i64_i64 x1)⟩,⟨cL1⟩]++w10
        by_cases cL4:eqI (irem .u8 v6000_1.1 5) 2=true
        · rw[if_pos cL4] at h
          obtain⟨v6000_2,eL5,h⟩:=bsm h
          let w14:List Prf:=[⟨(ok_wheel_Stop k v6001_2 v6001_3 v6000_1.2.1 _ eL5)⟩,⟨cL4⟩]++w12
          by_cases cL6:mHas (hL v6001_4) v6000_1.2.1=true
          · rw[if_pos cL6] at h
            obtain⟨v6000_3,eL7,h⟩:=bsm h
            let u15:List Ans:=u11++[dt,(A6_0 v6000_2),.opt (some (.int .i64 v6000_3))]
            let w16:List Prf:=[⟨(look_someH .i64 (fun y=>(e_i64 y).headD undefA) eL7)⟩]++w14
            by_cases cL8:eqB true (eqI v6000_2.2.2 0)=true
            · rw[if_pos cL8] at h
              let u17:List Ans:=u15++[df,.ents (encH .i64 (fun y=>(e_i64 y).headD undefA) (hDel v6001_4 v6000_1.2.1)) (hDel v6001_4 v6000_1.2.1).length,.n (hL (hDel v6001_4 v6000_1.2.1)).length,.n v6000_2.2.1.length]
              let w18:List Prf:=[⟨(len_map e_i64_i64 v6000_2.2.1)⟩,⟨(encH_length .i64 (fun y=>(e_i64 y).headD undefA) (hDel v6001_4 v6000_1.2.1))⟩,⟨(del_encH .i64 (fun y=>(e_i64 y).headD undefA) v6001_4 v6000_1.2.1)⟩,⟨(nF cL8)⟩]++w16
              by_cases cL9:eqI (nI (hL (hDel v6001_4 v6000_1.2.1)).length) (nI v6000_2.2.1.length)=true
              · rw[if_pos cL9] at h
                exact LT.next mixed (hs:=⟨[(0,[]),(3,[]),(4,[]),(5,[])],[⟨.tmp 3,[],none⟩,⟨.tmp 4,[],none⟩],false,[],[]⟩) (es:=none) (u17++[df]) ([⟨(nF cL9)⟩]++w18) (by kernel_rfl) (ok_law06_WheelOnce_l0 x1 y k (iadd .i64 v6001_1 1) v6000_2.1 v6000_2.2.1 (hDel v6001_4 v6000_1.2.1) h)
              rw[if_neg cL9] at h;replace cL9:=eqf cL9
              obtain rfl:=osi h
              show LT _ _ _ _ (.fin (.bool false) [])
              exact LT.done mixed (hs:=⟨[],[],false,[],[]⟩) (es:=none) (u17++[dt]) ([⟨(nT cL9)⟩]++w18) (by kernel_rfl) (fun s h=>by cases h)
            rw[if_neg cL8] at h;replace cL8:=eqf cL8
            obtain rfl:=osi h
            show LT _ _ _ _ (.fin (.bool false) [])
            exact LT.done mixed (hs:=⟨[],[],false,[],[]⟩) (es:=none) (u15++[dt]) ([⟨(nT cL8)⟩]++w16) (by kernel_rfl) (fun s h=>by cases h)
          rw[if_neg cL6] at h;replace cL6:=eqf cL6
          let u19:List Ans:=u11++[dt,(A6_0 v6000_2),.opt none]
          let w20:List Prf:=[⟨(look_noneH .i64 (fun y=>(e_i64 y).headD undefA) cL6)⟩]++w14
          by_cases cL7:eqB false (eqI v6000_2.2.2 0)=true
          · rw[if_pos cL7] at h
            let u21:List Ans:=u19++[df,.ents (encH .i64 (fun y=>(e_i64 y).headD undefA) (hDel v6001_4 v6000_1.2.1)) (hDel v6001_4 v6000_1.2.1).length,.n (hL (hDel v6001_4 v6000_1.2.1)).length,.n v6000_2.2.1.length]
            let w22:List Prf:=[⟨(len_map e_i64_i64 v6000_2.2.1)⟩,⟨(encH_length .i64 (fun y=>(e_i64 y).headD undefA) (hDel v6001_4 v6000_1.2.1))⟩,⟨(del_encH .i64 (fun y=>(e_i64 y).headD undefA) v6001_4 v6000_1.2.1)⟩,⟨(nF cL7)⟩]++w20
            by_cases cL8:eqI (nI (hL (hDel v6001_4 v6000_1.2.1)).length) (nI v6000_2.2.1.length)=true
            · rw[if_pos cL8] at h
              exact LT.next mixed (hs:=⟨[(0,[]),(3,[]),(4,[]),(5,[])],[⟨.tmp 3,[],none⟩,⟨.tmp 4,[],none⟩],false,[],[]⟩) (es:=none) (u21++[df]) ([⟨(nF cL8)⟩]++w22) (by kernel_rfl) (ok_law06_WheelOnce_l0 x1 y k (iadd .i64 v6001_1 1) v6000_2.1 v6000_2.2.1 (hDel v6001_4 v6000_1.2.1) h)
            rw[if_neg cL8] at h;replace cL8:=eqf cL8
            obtain rfl:=osi h
            show LT _ _ _ _ (.fin (.bool false) [])
            exact LT.done mixed (hs:=⟨[],[],false,[],[]⟩) (es:=none) (u21++[dt]) ([⟨(nT cL8)⟩]++w22) (by kernel_rfl) (fun s h=>by cases h)
          rw[if_neg cL7] at h;replace cL7:=eqf cL7
          obtain rfl:=osi h
          show LT _ _ _ _ (.fin (.bool false) [])
          exact LT.done mixed (hs:=⟨[],[],false,[],[]⟩) (es:=none) (u19++[dt]) ([⟨(nT cL7)⟩]++w20) (by kernel_rfl) (fun s h=>by cases h)
        rw[if_neg cL4] at h;replace cL4:=eqf cL4
        by_cases cL5:eqI (irem .u8 v6000_1.1 5) 3=true
        · rw[if_pos cL5] at h
          obtain⟨v6000_2,eL6,h⟩:=bsm h
          let u25:List Ans:=u11++[df,dt,dt,(A6_1 v6000_2),.n v6000_2.2.2.1.length,A6_2]
          let w26:List Prf:=[⟨(len_map e_i64 v6000_2.2.2.1)⟩,⟨(ok_wheel_Tick k v6001_2 v6001_3 v6000_1.2.2 _ eL6)⟩,⟨cL5⟩,⟨cL5⟩,⟨cL4⟩]++w12
          obtain⟨v6000_3,eL7,h⟩:=bsm h
          cases v6000_3 with
          | inl v6000_4 =>
           simp only[Sum.elim_inl] at h
           let w28:List Prf:=[⟨(LT.block (ok_law06_WheelOnce_l1 x1 v6000_2 v6001_1 v6001_2 v6001_3 _ k 0 v6001_4 eL7))⟩]++w26
           by_cases cL9:((hL v6000_4).any (fun q=>!(ltI v6000_2.1 q.2)))=true
           · rw[if_pos cL9] at h
             obtain rfl:=osi h
             show LT _ _ _ _ (.fin (.bool false) [])
             exact LT.done mixed (hs:=⟨[],[],false,[],[]⟩) (es:=none) (u25++[.out (.st .normal (E6_1_3 x1 v6000_2 v6001_1 v6001_2 v6001_3 v6000_4)),.outS 32 (.fin (.bool false) [])]) ([⟨((rng6_0 x1 v6001_1 v6001_2 v6001_3 v6000_4 v6000_2.1 v6000_2.2.1).2 cL9)⟩]++w28) (by kernel_rfl) (fun s h=>by cases h)
           rw[if_neg cL9] at h;replace cL9:=eqf cL9
           let u29:List Ans:=u25++[.out (.st .normal (E6_1_3 x1 v6000_2 v6001_1 v6001_2 v6001_3 v6000_4)),(A6_3 x1 v6000_2 v6000_4 v6001_1 v6001_2 v6001_3),.n (hL v6000_4).length,.n v6000_2.2.1.length]
           let w30:List Prf:=[⟨(len_map e_i64_i64 v6000_2.2.1)⟩,⟨(encH_length .i64 (fun y=>(e_i64 y).headD undefA) v6000_4)⟩,⟨((rng6_0 x1 v6001_1 v6001_2 v6001_3 v6000_4 v6000_2.1 v6000_2.2.1).1 cL9)⟩]++w28
           by_cases cL10:eqI (nI (hL v6000_4).length) (nI v6000_2.2.1.length)=true
           · rw[if_pos cL10] at h
             exact LT.next mixed (hs:=⟨[(0,[]),(3,[]),(4,[]),(5,[])],[⟨.tmp 3,[],none⟩,⟨.tmp 4,[],none⟩],false,[],[]⟩) (es:=none) (u29++[df]) ([⟨(nF cL10)⟩]++w30) (by kernel_rfl) (ok_law06_WheelOnce_l0 x1 y k (iadd .i64 v6001_1 1) v6000_2.1 v6000_2.2.1 v6000_4 h)
           rw[if_neg cL10] at h;replace cL10:=eqf cL10
           obtain rfl:=osi h
           show LT _ _ _ _ (.fin (.bool false) [])
           exact LT.done mixed (hs:=⟨[],[],false,[],[]⟩) (es:=none) (u29++[dt]) ([⟨(nT cL10)⟩]++w30) (by kernel_rfl) (fun s h=>by cases h)
          | inr v6000_4 =>
           simp only[Sum.elim_inr] at h
           obtain rfl:=osi h
           show LT _ _ _ _ (.fin (.bool v6000_4) [])
           exact LT.done mixed (hs:=⟨[],[],false,[],[]⟩) (es:=none) (u25++[.out (.fin (.bool v6000_4) [])]) ([⟨(LT.blockFin (id:=3) (ok_law06_WheelOnce_l1 x1 v6000_2 v6001_1 v6001_2 v6001_3 _ k 0 v6001_4 eL7))⟩]++w26) (by kernel_rfl) (fun s h=>by cases h)
        rw[if_neg cL5] at h;replace cL5:=eqf cL5
        by_cases cL6:eqI (irem .u8 v6000_1.1 5) 4=true
        · rw[if_pos cL6] at h
          obtain⟨v6000_2,eL7,h⟩:=bsm h
          let u33:List Ans:=u11++[df,df,dt,(A6_1 v6000_2),.n v6000_2.2.2.1.length,A6_2]
          let w34:List Prf:=[⟨(len_map e_i64 v6000_2.2.2.1)⟩,⟨(ok_wheel_Tick k v6001_2 v6001_3 v6000_1.2.2 _ eL7)⟩,⟨cL6⟩,⟨cL5⟩,⟨cL4⟩]++w12
          obtain⟨v6000_3,eL8,h⟩:=bsm h
          cases v6000_3 with
          | inl v6000_4 =>
           simp only[Sum.elim_inl] at h
           let w36:List Prf:=[⟨(LT.block (ok_law06_WheelOnce_l1 x1 v6000_2 v6001_1 v6001_2 v6001_3 _ k 0 v6001_4 eL8))⟩]++w34
           by_cases cL10:((hL v6000_4).any (fun q=>!(ltI v6000_2.1 q.2)))=true
           · rw[if_pos cL10] at h
             obtain rfl:=osi h
             show LT _ _ _ _ (.fin (.bool false) [])
             exact LT.done mixed (hs:=⟨[],[],false,[],[]⟩) (es:=none) (u33++[.out (.st .normal (E6_1_3 x1 v6000_2 v6001_1 v6001_2 v6001_3 v6000_4)),.outS 32 (.fin (.bool false) [])]) ([⟨((rng6_0 x1 v6001_1 v6001_2 v6001_3 v6000_4 v6000_2.1 v6000_2.2.1).2 cL10)⟩]++w36) (by kernel_rfl) (fun s h=>by cases h)
           rw[if_neg cL10] at h;replace cL10:=eqf cL10
           let u37:List Ans:=u33++[.out (.st .normal (E6_1_3 x1 v6000_2 v6001_1 v6001_2 v6001_3 v6000_4)),(A6_3 x1 v6000_2 v6000_4 v6001_1 v6001_2 v6001_3),.n (hL v6000_4).length,.n v6000_2.2.1.length]
           let w38:List Prf:=[⟨(len_map e_i64_i64 v6000_2.2.1)⟩,⟨(encH_length .i64 (fun y=>(e_i64 y).headD undefA) v6000_4)⟩,⟨((rng6_0 x1 v6001_1 v6001_2 v6001_3 v6000_4 v6000_2.1 v6000_2.2.1).1 cL10)⟩]++w36
           by_cases cL11:eqI (nI (hL v6000_4).length) (nI v6000_2.2.1.length)=true
           · rw[if_pos cL11] at h
             exact LT.next mixed (hs:=⟨[(0,[]),(3,[]),(4,[]),(5,[])],[⟨.tmp 3,[],none⟩,⟨.tmp 4,[],none⟩],false,[],[]⟩) (es:=none) (u37++[df]) ([⟨(nF cL11)⟩]++w38) (by kernel_rfl) (ok_law06_WheelOnce_l0 x1 y k (iadd .i64 v6001_1 1) v6000_2.1 v6000_2.2.1 v6000_4 h)
           rw[if_neg cL11] at h;replace cL11:=eqf cL11
           obtain rfl:=osi h
           show LT _ _ _ _ (.fin (.bool false) [])
           exact LT.done mixed (hs:=⟨[],[],false,[],[]⟩) (es:=none) (u37++[dt]) ([⟨(nT cL11)⟩]++w38) (by kernel_rfl) (fun s h=>by cases h)
          | inr v6000_4 =>
           simp only[Sum.elim_inr] at h
           obtain rfl:=osi h
           show LT _ _ _ _ (.fin (.bool v6000_4) [])
           exact LT.done mixed (hs:=⟨[],[],false,[],[]⟩) (es:=none) (u33++[.out (.fin (.bool v6000_4) [])]) ([⟨(LT.blockFin (id:=3) (ok_law06_WheelOnce_l1 x1 v6000_2 v6001_1 v6001_2 v6001_3 _ k 0 v6001_4 eL8))⟩]++w34) (by kernel_rfl) (fun s h=>by cases h)
        rw[if_neg cL6] at h;replace cL6:=eqf cL6
        obtain⟨v6000_2,eL7,h⟩:=bsm h
        let u39:List Ans:=u11++[df,df,df,(A6_0 v6000_2)]
        let w40:List Prf:=[⟨(ok_wheel_Set k v6001_2 v6001_3 v6000_1.2.1 v6000_1.2.2 _ eL7)⟩,⟨cL6⟩,⟨cL5⟩,⟨cL4⟩]++w12
        by_cases cL8:eqI v6000_2.2.2 0=true
        · rw[if_pos cL8] at h
          let u41:List Ans:=u39++[dt,.ents (encH .i64 (fun y=>(e_i64 y).headD undefA) (hPut v6001_4 v6000_1.2.1 v6000_1.2.2)) (hPut v6001_4 v6000_1.2.1 v6000_1.2.2).length,.n (hL (hPut v6001_4 v6000_1.2.1 v6000_1.2.2)).length,.n v6000_2.2.1.length]
          let w42:List Prf:=[⟨(len_map e_i64_i64 v6000_2.2.1)⟩,⟨(encH_length .i64 (fun y=>(e_i64 y).headD undefA) (hPut v6001_4 v6000_1.2.1 v6000_1.2.2))⟩,⟨(put_encH .i64 (fun y=>(e_i64 y).headD undefA) v6001_4 v6000_1.2.1 v6000_1.2.2)⟩,⟨cL8⟩]++w40
          by_cases cL9:eqI (nI (hL (hPut v6001_4 v6000_1.2.1 v6000_1.2.2)).length) (nI v6000_2.2.1.length)=true
          · rw[if_pos cL9] at h
            exact LT.next mixed (hs:=⟨[(0,[]),(3,[]),(4,[]),(5,[])],[⟨.tmp 3,[],none⟩,⟨.tmp 4,[],none⟩],false,[],[]⟩) (es:=none) (u41++[df]) ([⟨(nF cL9)⟩]++w42) (by kernel_rfl) (ok_law06_WheelOnce_l0 x1 y k (iadd .i64 v6001_1 1) v6000_2.1 v6000_2.2.1 (hPut v6001_4 v6000_1.2.1 v6000_1.2.2) h)
          rw[if_neg cL9] at h;replace cL9:=eqf cL9
          obtain rfl:=osi h
          show LT _ _ _ _ (.fin (.bool false) [])
          exact LT.done mixed (hs:=⟨[],[],false,[],[]⟩) (es:=none) (u41++[dt]) ([⟨(nT cL9)⟩]++w42) (by kernel_rfl) (fun s h=>by cases h)
        rw[if_neg cL8] at h;replace cL8:=eqf cL8
        let u43:List Ans:=u39++[df,.n (hL v6001_4).length,.n v6000_2.2.1.length]
        let w44:List Prf:=[⟨(len_map e_i64_i64 v6000_2.2.1)⟩,⟨(encH_length .i64 (fun y=>(e_i64 y).headD undefA) v6001_4)⟩,⟨cL8⟩]++w40
        by_cases cL9:eqI (nI (hL v6001_4).length) (nI v6000_2.2.1.length)=true
        · rw[if_pos cL9] at h
          exact LT.next mixed (hs:=⟨[(0,[]),(3,[]),(4,[]),(5,[])],[⟨.tmp 3,[],none⟩,⟨.tmp 4,[],none⟩],false,[],[]⟩) (es:=none) (u43++[df]) ([⟨(nF cL9)⟩]++w44) (by kernel_rfl) (ok_law06_WheelOnce_l0 x1 y k (iadd .i64 v6001_1 1) v6000_2.1 v6000_2.2.1 v6001_4 h)
        rw[if_neg cL9] at h;replace cL9:=eqf cL9
        obtain rfl:=osi h
        show LT _ _ _ _ (.fin (.bool false) [])
        exact LT.done mixed (hs:=⟨[],[],false,[],[]⟩) (es:=none) (u43++[dt]) ([⟨(nT cL9)⟩]++w44) (by kernel_rfl) (fun s h=>by cases h)
      rw[if_neg cL2] at h;replace cL2:=eqf cL2
      cases h
    rw[if_neg cL1] at h;replace cL1:=eqf cL1
    obtain rfl:=osi h
    show LT _ _ _ _ (.st (.exit 0) (E6_0_0))
    exact LT.done mixed (hs:=⟨[],[],false,[],[]⟩) (es:=(some ⟨[],[],false,[],[]⟩)) [.n x1.length,dt,dt,dt,df] ([⟨cL1⟩]++w10) (by kernel_rfl) (fun s h=>by cases h)
  rw[if_neg cL0] at h;replace cL0:=eqf cL0
  obtain rfl:=osi h
  show LT _ _ _ _ (.st (.exit 0) (E6_0_0))
  exact LT.done mixed (hs:=⟨[],[],false,[],[]⟩) (es:=(some ⟨[],[],false,[],[]⟩)) [.n x1.length,df,df,df,df] [⟨rF⟩,⟨cL0⟩,⟨cL0⟩,⟨cL0⟩,⟨(len_map e_u8_i64_i64 x1)⟩] (by kernel_rfl) (fun s h=>by cases h)
theorem ok_law06_WheelOnce (k:Nat) (x1:List (Int × Int × Int)) (r:Bool) (h:law06_WheelOnce k x1=some r):Tri Try.prog 6 [(.sl 3 (List.map e_u8_i64_i64 x1))] [] (.bool r) []:=by
 unfold law06_WheelOnce at h
 obtain⟨x2,e0,h⟩:=bsm h
 let u45:List Ans:=[.call ⟨true,[]⟩ (.bool x2) []]
 by_cases c1:x2=true
 · rw[if_pos c1] at h
   let w48:List Prf:=[⟨(nF c1)⟩,⟨(ok_law06_alive k _ e0)⟩]
   obtain⟨x3,e2,h⟩:=bsm h
   cases x3 with
   | inl x4 =>
    simp only[Sum.elim_inl] at h
    obtain rfl:=osi h
    exact Tri.of (x:=X6) mixed facts6 (u45++[df,A6_4,.out (.st .normal (E6_0_0))]) ([⟨(LT.block (ok_law06_WheelOnce_l0 x1 _ k 0 0 [] ([]:List (Option (Int × Int))) e2))⟩]++w48) (by kernel_rfl)
   | inr x4 =>
    simp only[Sum.elim_inr] at h
    obtain rfl:=osi h
    exact Tri.of (x:=X6) mixed facts6 (u45++[df,A6_4,.out (.fin (.bool x4) [])]) ([⟨(LT.blockFin (id:=0) (ok_law06_WheelOnce_l0 x1 _ k 0 0 [] ([]:List (Option (Int × Int))) e2))⟩]++w48) (by kernel_rfl)
 rw[if_neg c1] at h;replace c1:=eqf c1
 obtain rfl:=osi h
 exact Tri.of (x:=X6) mixed facts6 (u45++[dt]) [⟨(nT c1)⟩,⟨(ok_law06_alive k _ e0)⟩] (by kernel_rfl)
end Go.Ws
