/-
  Walks, merged.
  Conditions: none.
-/
import Derived.Test.YtipeekdnpocclaaZPre
import Derived.Test.YtipeekdnpocclaaZPure
import Derived.Test.YtipeekdnpocclaaZWGModelSite0
set_option linter.unusedVariables false
set_option linter.unusedSimpArgs false
namespace Go.Ws
open Go.Proofs
set_option linter.unusedSimpArgs false
set_option linter.unusedVariables false
set_option maxRecDepth 1000000
set_option maxHeartbeats 4000000
noncomputable def X6:Ctx:=⟨Try.f6,[],true⟩
noncomputable def L6_2:Code:=at_ Try.f6 [1,1,1,1,1,1,1,1,1,1,1,0,1,4,5]
def S6_2 (x4:aG × Ty8 × Ty2 × Ty7) (x6:aG × Int) (x10:Bool) (dN:Int):St:=⟨mkT 113 [(3,(.hp 0 0)),(7,(.sl 2 (List.map aB x6.1))),(11,(.bool x10)),(99,(.int .u8 dN))],[(.row [(.sl 2 (List.map aB x4.1)),(.sl 3 (List.map aD x4.2.1)),(.mp 1),(.ref 4 2 0 0 x4.2.2.2.length .virt)]),(.map (bK .i64 (fun y=>AV.agg (aC y)) x4.2.2.1) x4.2.2.1.length),(.arr 4 (List.map aA x4.2.2.2) 0 0 true)]⟩
def aLQ:St:=⟨mkT 113 [],[]⟩
def O6_2 (x4:aG × Ty8 × Ty2 × Ty7) (x6:aG × Int) (x10:Bool) (y:zO):GX:=match y with
 | .inl y=>.st (.exit 4) (aLQ)
 | .inr y=>.fin (.bool y) []
noncomputable def L6_1:Code:=at_ Try.f6 [1,1,1,1,1,1,1,1,1,1,0,1,4,5]
def S6_1 (x4:aG × Ty8 × Ty2 × Ty7) (x6:aG × Int) (x8:aG) (eS:Bool) (cR:Int):St:=⟨mkT 113 [(3,(.hp 0 0)),(7,(.sl 2 (List.map aB x6.1))),(9,(.mp 1)),(11,(.bool eS)),(57,(.ref 4 2 0 0 x4.2.2.2.length .virt)),(58,(.int .i64 (nI x4.2.2.2.length))),(59,(.int .i64 cR))],[(.row [(.sl 2 (List.map aB x4.1)),(.sl 3 (List.map aD x4.2.1)),(.mp 3),(.ref 4 4 0 0 x4.2.2.2.length .virt)]),(.map (bK .i64 (fun y=>(bC y).headD aJ) x8) x8.length),(.arr 4 (List.map aA x4.2.2.2) 0 0 true),(.map (bK .i64 (fun y=>AV.agg (aC y)) x4.2.2.1) x4.2.2.1.length),(.arr 4 (List.map aA x4.2.2.2) 0 0 true)]⟩
def aML (x4:aG × Ty8 × Ty2 × Ty7) (x6:aG × Int) (v6012_1:Bool):St:=⟨mkT 113 [(3,(.hp 0 0)),(7,(.sl 2 (List.map aB x6.1))),(11,(.bool v6012_1))],[(.row [(.sl 2 (List.map aB x4.1)),(.sl 3 (List.map aD x4.2.1)),(.mp 1),(.ref 4 2 0 0 x4.2.2.2.length .virt)]),(.map (bK .i64 (fun y=>AV.agg (aC y)) x4.2.2.1) x4.2.2.1.length),(.arr 4 (List.map aA x4.2.2.2) 0 0 true)]⟩
def O6_1 (x4:aG × Ty8 × Ty2 × Ty7) (x6:aG × Int) (x8:aG) (y:(Sum (Bool) (Bool))):GX:=match y with
 | .inl y=>.st (.exit 2) (aML x4 x6 y)
 | .inr y=>.fin (.bool y) []
noncomputable def L6_0:Code:=at_ Try.f6 [1,1,1,1,0,1,4,5]
def S6_0 (x1:Ty7) (eJ:Int) (fW:aG) (fX:Ty8) (fL:Ty2) (fM:Ty7):St:=⟨mkT 113 [(3,(.hp 0 0)),(29,(.sl 4 (List.map aA x1))),(30,(.int .i64 (nI x1.length))),(31,(.int .i64 eJ))],[(.row [(.sl 2 (List.map aB fW)),(.sl 3 (List.map aD fX)),(.mp 1),(.ref 4 2 0 0 fM.length .virt)]),(.map (bK .i64 (fun y=>AV.agg (aC y)) fL) fL.length),(.arr 4 (List.map aA fM) 0 0 false)]⟩
def aLV (v6002_1:aG) (v6002_2:Ty8) (aOO:Ty2) (aOP:Ty7):St:=⟨mkT 113 [(3,(.hp 0 0))],[(.row [(.sl 2 (List.map aB v6002_1)),(.sl 3 (List.map aD v6002_2)),(.mp 1),(.ref 4 2 0 0 aOP.length .virt)]),(.map (bK .i64 (fun y=>AV.agg (aC y)) aOO) aOO.length),(.arr 4 (List.map aA aOP) 0 0 false)]⟩
def O6_0 (x1:Ty7) (y:(aG × Ty8 × Ty2 × Ty7)):GX:=.st (.exit 0) (aLV y.1 y.2.1 y.2.2.1 y.2.2.2)
theorem jW (x4:aG × Ty8 × Ty2 × Ty7) (x6:aG × Int) (x10:Bool) (y:zO):∀(k:Nat) (dN:Int),cF k x4 x6 x10 dN=some y→LT Try.prog X6 L6_2 (S6_2 x4 x6 x10 dN) (O6_2 x4 x6 x10 y)
 | 0,dN,h=>by cases h
 | k+1,dN,h=>by
  rw[cF] at h
  by_cases cL0:ltI dN 64=true
  · rw[if_pos cL0] at h
    by_cases cL1:x10=true
    · rw[if_pos cL1] at h
      obtain⟨zI,eL2,h⟩:=bsm h
      obtain⟨zJ,eL3,h⟩:=bsm h
      let u3:List Ans:=[dt,dt,dt,dt,.call ⟨true,[]⟩ (.int .i64 zI) [(.row [(.sl 2 (List.map aB x4.1)),(.sl 3 (List.map aD x4.2.1)),(.mp 1),(.ref 4 2 0 0 x4.2.2.2.length .virt)]),(.map (bK .i64 (fun y=>AV.agg (aC y)) x4.2.2.1) x4.2.2.1.length),(.arr 4 (List.map aA x4.2.2.2) 0 0 true)],dt,dt,dt,.call ⟨true,[]⟩ (.int .i64 zJ) [],dt,dt]
      let w4:List Prf:=[⟨cL1⟩,⟨cL1⟩,⟨(aI2 k x6.1 dN _ eL3)⟩,⟨cL1⟩,⟨cL1⟩,⟨cL1⟩,⟨(aCI k dN x4.1 x4.2.1 x4.2.2.1 x4.2.2.2 _ eL2)⟩,⟨cL1⟩,⟨cL1⟩,⟨cL1⟩,⟨cL0⟩]
      by_cases cL4:eqI zI zJ=true
      · rw[if_pos cL4] at h
        exact LT.next aE (hs:=⟨[(3,[]),(7,[]),(11,[]),(99,[])],[⟨.tmp 3,[],none⟩,⟨.cell 0 2,[],none⟩,⟨.cell 0 3,[],none⟩],false,[],[]⟩) (es:=none) (u3++[df]) ([⟨(nF cL4)⟩]++w4) (by kernel_rfl) (jW x4 x6 x10 y k (aH .u8 dN 1) h)
      rw[if_neg cL4] at h;replace cL4:=eqf cL4
      obtain rfl:=osi h
      show LT _ _ _ _ (.fin (.bool false) [])
      exact LT.done aE (hs:=⟨[],[],false,[],[]⟩) (es:=none) (u3++[dt]) ([⟨(nT cL4)⟩]++w4) (by kernel_rfl) (fun s h=>by cases h)
    rw[if_neg cL1] at h;replace cL1:=eqf cL1
    exact LT.next aE (hs:=⟨[(3,[]),(7,[]),(11,[]),(99,[])],[⟨.tmp 3,[],none⟩,⟨.cell 0 2,[],none⟩,⟨.cell 0 3,[],none⟩],false,[],[]⟩) (es:=none) [dt,df,df,df,df,df,df,df,df,df] [⟨rF⟩,⟨cL1⟩,⟨cL1⟩,⟨cL1⟩,⟨cL1⟩,⟨cL1⟩,⟨cL1⟩,⟨cL1⟩,⟨cL1⟩,⟨cL0⟩] (by kernel_rfl) (jW x4 x6 x10 y k (aH .u8 dN 1) h)
  rw[if_neg cL0] at h;replace cL0:=eqf cL0
  obtain rfl:=osi h
  show LT _ _ _ _ (.st (.exit 4) (aLQ))
  exact LT.done aE (hs:=⟨[],[],false,[],[]⟩) (es:=(some ⟨[],[],false,[],[]⟩)) [df] [⟨cL0⟩] (by kernel_rfl) (fun s h=>by cases h)
theorem gC (x4:aG × Ty8 × Ty2 × Ty7) (x6:aG × Int) (x8:aG) (y:(Sum (Bool) (Bool))):∀(k:Nat) (eS:Bool) (cR:Int),bR k x4 x6 x8 eS cR=some y→LT Try.prog X6 L6_1 (S6_1 x4 x6 x8 eS cR) (O6_1 x4 x6 x8 y)
 | 0,eS,cR,h=>by cases h
 | k+1,eS,cR,h=>by
  rw[bR] at h
  by_cases cL0:ltI cR (nI x4.2.2.2.length)=true
  · rw[if_pos cL0] at h
    by_cases cL1:inI cR x4.2.2.2.length=true
    · rw[if_pos cL1] at h
      obtain⟨mU,eL2,h⟩:=bsm h
      obtain⟨fF,eL3,h⟩:=bsm h
      let u5:List Ans:=[dt,.row [(.int .i64 mU.1),(.int .i64 mU.2.1),(.int .u8 mU.2.2.1),(.int .i64 mU.2.2.2)],.call ⟨true,[]⟩ (.tup [(.agg [(.int .i64 fF.1),(.ref 2 3 0 0 fF.2.2.2.1.length .virt),(.bool fF.2.1),(.int .i64 fF.2.2.1)]),(.bool fF.2.2.2.2)]) [(.row [(.sl 2 (List.map aB x4.1)),(.sl 3 (List.map aD x4.2.1)),(.mp 1),(.ref 4 2 0 0 x4.2.2.2.length .virt)]),(.map (bK .i64 (fun y=>AV.agg (aC y)) x4.2.2.1) x4.2.2.1.length),(.arr 4 (List.map aA x4.2.2.2) 0 0 true),(.arr 2 (List.map aB fF.2.2.2.1) 0 0 false)]]
      let w6:List Prf:=[⟨(aBT k mU.2.1 x4.1 x4.2.1 x4.2.2.1 x4.2.2.2 _ eL3)⟩,⟨(cE (e:=aA) eL2 4 0 4 (by decide))⟩,⟨cL1⟩,⟨cL0⟩]
      by_cases cL4:fF.2.2.2.2=true
      · rw[if_pos cL4] at h
        let w8:List Prf:=[⟨(nF cL4)⟩,⟨(nF cL4)⟩,⟨(nF cL4)⟩,⟨(nF cL4)⟩,⟨(nF cL4)⟩,⟨(nF cL4)⟩,⟨(nF cL4)⟩]++w6
        by_cases cL5:kS x8 mU.2.1=true
        · rw[if_pos cL5] at h
          obtain⟨rA,eL6,h⟩:=bsm h
          let u9:List Ans:=u5++[df,df,df,df,df,df,df,.opt (some (.int .i64 rA)),df,df,df]
          let w10:List Prf:=[⟨(nF cL4)⟩,⟨(nF cL4)⟩,⟨(nF cL4)⟩,⟨(gS .i64 (fun y=>(bC y).headD aJ) eL6)⟩]++w8
          by_cases cL7:eqB (eqI fF.1 3) (!eqI rA 0)=true
          · rw[if_pos cL7] at h
            let u11:List Ans:=u9++[df,df,df,df,df,df,.opt (some (.int .i64 rA)),df,df]
            let w12:List Prf:=[⟨(nF cL7)⟩,⟨(nF cL7)⟩,⟨(gS .i64 (fun y=>(bC y).headD aJ) eL6)⟩,⟨(nF cL7)⟩,⟨(nF cL7)⟩,⟨(nF cL7)⟩,⟨(nF cL7)⟩,⟨(nF cL7)⟩,⟨(nF cL7)⟩]++w10
            by_cases cL8:eqI fF.2.2.1 rA=true
            · rw[if_pos cL8] at h
              by_cases cL9:eS=true
              · rw[if_pos cL9] at h
                exact LT.next aE (hs:=⟨[(3,[]),(7,[]),(9,[]),(11,[]),(57,[]),(58,[]),(59,[])],[⟨.tmp 3,[],none⟩,⟨.tmp 9,[],none⟩,⟨.tmp 57,[],none⟩,⟨.cell 0 2,[],none⟩,⟨.cell 0 3,[],none⟩],false,[],[]⟩) (es:=none) (u11++[df,dt,dt,dt,dt]) ([⟨cL9⟩,⟨cL9⟩,⟨cL9⟩,⟨cL9⟩,⟨(nF cL8)⟩]++w12) (by kernel_rfl) (gC x4 x6 x8 y k (eqI fF.1 3) (aH .i64 cR 1) h)
              rw[if_neg cL9] at h;replace cL9:=eqf cL9
              exact LT.next aE (hs:=⟨[(3,[]),(7,[]),(9,[]),(11,[]),(57,[]),(58,[]),(59,[])],[⟨.tmp 3,[],none⟩,⟨.tmp 9,[],none⟩,⟨.tmp 57,[],none⟩,⟨.cell 0 2,[],none⟩,⟨.cell 0 3,[],none⟩],false,[],[]⟩) (es:=none) (u11++[df,df,df,df,df]) ([⟨cL9⟩,⟨cL9⟩,⟨cL9⟩,⟨cL9⟩,⟨(nF cL8)⟩]++w12) (by kernel_rfl) (gC x4 x6 x8 y k false (aH .i64 cR 1) h)
            rw[if_neg cL8] at h;replace cL8:=eqf cL8
            obtain rfl:=osi h
            show LT _ _ _ _ (.fin (.bool false) [])
            exact LT.done aE (hs:=⟨[],[],false,[],[]⟩) (es:=none) (u11++[dt]) ([⟨(nT cL8)⟩]++w12) (by kernel_rfl) (fun s h=>by cases h)
          rw[if_neg cL7] at h;replace cL7:=eqf cL7
          obtain rfl:=osi h
          show LT _ _ _ _ (.fin (.bool false) [])
          exact LT.done aE (hs:=⟨[],[],false,[],[]⟩) (es:=none) (u9++[dt,dt,dt,dt,dt,dt,dt,dt,dt]) ([⟨rT⟩,⟨(nT cL7)⟩,⟨(nT cL7)⟩,⟨(nT cL7)⟩,⟨(nT cL7)⟩,⟨(nT cL7)⟩,⟨(nT cL7)⟩,⟨(nT cL7)⟩,⟨(nT cL7)⟩]++w10) (by kernel_rfl) (fun s h=>by cases h)
        rw[if_neg cL5] at h;replace cL5:=eqf cL5
        let u15:List Ans:=u5++[df,df,df,df,df,df,df,.opt none,df,df,df]
        let w16:List Prf:=[⟨(nF cL4)⟩,⟨(nF cL4)⟩,⟨(nF cL4)⟩,⟨(jI .i64 (fun y=>(bC y).headD aJ) cL5)⟩]++w8
        by_cases cL6:eqB (eqI fF.1 3) (!eqI 0 0)=true
        · rw[if_pos cL6] at h
          let u17:List Ans:=u15++[df,df,df,df,df,df,.opt none,df,df]
          let w18:List Prf:=[⟨(nF cL6)⟩,⟨(nF cL6)⟩,⟨(jI .i64 (fun y=>(bC y).headD aJ) cL5)⟩,⟨(nF cL6)⟩,⟨(nF cL6)⟩,⟨(nF cL6)⟩,⟨(nF cL6)⟩,⟨(nF cL6)⟩,⟨(nF cL6)⟩]++w16
          by_cases cL7:eqI fF.2.2.1 0=true
          · rw[if_pos cL7] at h
            by_cases cL8:eS=true
            · rw[if_pos cL8] at h
              exact LT.next aE (hs:=⟨[(3,[]),(7,[]),(9,[]),(11,[]),(57,[]),(58,[]),(59,[])],[⟨.tmp 3,[],none⟩,⟨.tmp 9,[],none⟩,⟨.tmp 57,[],none⟩,⟨.cell 0 2,[],none⟩,⟨.cell 0 3,[],none⟩],false,[],[]⟩) (es:=none) (u17++[df,dt,dt,dt,dt]) ([⟨cL8⟩,⟨cL8⟩,⟨cL8⟩,⟨cL8⟩,⟨(nF cL7)⟩]++w18) (by kernel_rfl) (gC x4 x6 x8 y k (eqI fF.1 3) (aH .i64 cR 1) h)
            rw[if_neg cL8] at h;replace cL8:=eqf cL8
            exact LT.next aE (hs:=⟨[(3,[]),(7,[]),(9,[]),(11,[]),(57,[]),(58,[]),(59,[])],[⟨.tmp 3,[],none⟩,⟨.tmp 9,[],none⟩,⟨.tmp 57,[],none⟩,⟨.cell 0 2,[],none⟩,⟨.cell 0 3,[],none⟩],false,[],[]⟩) (es:=none) (u17++[df,df,df,df,df]) ([⟨cL8⟩,⟨cL8⟩,⟨cL8⟩,⟨cL8⟩,⟨(nF cL7)⟩]++w18) (by kernel_rfl) (gC x4 x6 x8 y k false (aH .i64 cR 1) h)
          rw[if_neg cL7] at h;replace cL7:=eqf cL7
          obtain rfl:=osi h
          show LT _ _ _ _ (.fin (.bool false) [])
          exact LT.done aE (hs:=⟨[],[],false,[],[]⟩) (es:=none) (u17++[dt]) ([⟨(nT cL7)⟩]++w18) (by kernel_rfl) (fun s h=>by cases h)
        rw[if_neg cL6] at h;replace cL6:=eqf cL6
        obtain rfl:=osi h
        show LT _ _ _ _ (.fin (.bool false) [])
        exact LT.done aE (hs:=⟨[],[],false,[],[]⟩) (es:=none) (u15++[dt,dt,dt,dt,dt,dt,dt,dt,dt]) ([⟨rT⟩,⟨(nT cL6)⟩,⟨(nT cL6)⟩,⟨(nT cL6)⟩,⟨(nT cL6)⟩,⟨(nT cL6)⟩,⟨(nT cL6)⟩,⟨(nT cL6)⟩,⟨(nT cL6)⟩]++w16) (by kernel_rfl) (fun s h=>by cases h)
      rw[if_neg cL4] at h;replace cL4:=eqf cL4
      obtain rfl:=osi h
      show LT _ _ _ _ (.fin (.bool false) [])
      exact LT.done aE (hs:=⟨[],[],false,[],[]⟩) (es:=none) (u5++[dt,dt,dt,dt,dt,dt,dt,dt,dt,dt,dt,dt,dt,dt,dt,dt,dt,dt,dt]) ([⟨rT⟩,⟨rT⟩,⟨rT⟩,⟨rT⟩,⟨rT⟩,⟨rT⟩,⟨rT⟩,⟨rT⟩,⟨rT⟩,⟨(nT cL4)⟩,⟨(nT cL4)⟩,⟨(nT cL4)⟩,⟨(nT cL4)⟩,⟨(nT cL4)⟩,⟨(nT cL4)⟩,⟨(nT cL4)⟩,⟨(nT cL4)⟩,⟨(nT cL4)⟩,⟨(nT cL4)⟩]++w6) (by kernel_rfl) (fun s h=>by cases h)
    rw[if_neg cL1] at h;replace cL1:=eqf cL1
    cases h
  rw[if_neg cL0] at h;replace cL0:=eqf cL0
  obtain rfl:=osi h
  show LT _ _ _ _ (.st (.exit 2) (aML x4 x6 eS))
  exact LT.done aE (hs:=⟨[],[],false,[],[]⟩) (es:=(some ⟨[(3,[]),(7,[]),(11,[])],[⟨.tmp 3,[],none⟩,⟨.cell 0 2,[],none⟩,⟨.cell 0 3,[],none⟩],false,[],[]⟩)) [df] [⟨cL0⟩] (by kernel_rfl) (fun s h=>by cases h)
theorem qF (x1:Ty7) (y:(aG × Ty8 × Ty2 × Ty7)):∀(k:Nat) (eJ:Int) (fW:aG) (fX:Ty8) (fL:Ty2) (fM:Ty7),cU k x1 eJ fW fX fL fM=some y→LT Try.prog X6 L6_0 (S6_0 x1 eJ fW fX fL fM) (O6_0 x1 y)
 | 0,eJ,fW,fX,fL,fM,h=>by cases h
 | k+1,eJ,fW,fX,fL,fM,h=>by
  rw[cU] at h
  by_cases cL0:ltI eJ (nI x1.length)=true
  · rw[if_pos cL0] at h
    by_cases cL1:inI eJ x1.length=true
    · rw[if_pos cL1] at h
      obtain⟨jX,eL2,h⟩:=bsm h
      obtain⟨fG,eL3,h⟩:=bsm h
      exact LT.next aE (hs:=⟨[(3,[]),(29,[]),(30,[]),(31,[])],[⟨.tmp 3,[],none⟩,⟨.cell 0 2,[],none⟩,⟨.cell 0 3,[],some 4⟩],false,[],[]⟩) (es:=none) [dt,.n x1.length,.row [(.int .i64 jX.1),(.int .i64 jX.2.1),(.int .u8 jX.2.2.1),(.int .i64 jX.2.2.2)],.call ⟨true,[]⟩ (.tup [(.int .i64 fG.2.1),(.int .i64 fG.1)]) [(.row [(.sl 2 (List.map aB fG.2.2.1)),(.sl 3 (List.map aD fG.2.2.2.1)),(.mp 1),(.ref 4 2 1 0 fG.2.2.2.2.2.length .virt)]),(.map (bK .i64 (fun y=>AV.agg (aC y)) fG.2.2.2.2.1) fG.2.2.2.2.1.length),(.arr 4 (List.map aA fG.2.2.2.2.2) 1 1 false)],.n fG.2.2.2.2.2.length,.rows (List.map aA fG.2.2.2.2.2)] [⟨(eZ aA (l:=fG.2.2.2.2.2) (n:=fG.2.2.2.2.2.length) rfl)⟩,⟨(rfl:fG.2.2.2.2.2.length=fG.2.2.2.2.2.length)⟩,⟨(zle fG.2.2.2.2.2.length)⟩,⟨(tY k jX.1 jX.2.1 jX.2.2.1 jX.2.2.2 fW fX fL fM _ eL3)⟩,⟨(cE (e:=aA) eL2 4 0 4 (by decide))⟩,⟨cL1⟩,⟨(aU aA x1)⟩,⟨cL0⟩] (by kernel_rfl) (qF x1 y k (aH .i64 eJ 1) fG.2.2.1 fG.2.2.2.1 fG.2.2.2.2.1 fG.2.2.2.2.2 h)
    rw[if_neg cL1] at h;replace cL1:=eqf cL1
    cases h
  rw[if_neg cL0] at h;replace cL0:=eqf cL0
  obtain rfl:=osi h
  show LT _ _ _ _ (.st (.exit 0) (aLV fW fX fL fM))
  exact LT.done aE (hs:=⟨[],[],false,[],[]⟩) (es:=(some ⟨[(3,[])],[⟨.tmp 3,[],none⟩,⟨.cell 0 2,[],none⟩,⟨.cell 0 3,[],none⟩],false,[],[]⟩)) [df] [⟨cL0⟩] (by kernel_rfl) (fun s h=>by cases h)
theorem aAC (k:Nat) (x1:Ty7) (r:Bool) (h:mC k x1=some r):Tri Try.prog 6 [(.sl 4 (List.map aA x1))] [] (.bool r) []:=by
 unfold mC at h
 obtain⟨x2,e0,h⟩:=bsm h
 let u21:List Ans:=[.call ⟨true,[]⟩ (.bool x2) []]
 by_cases c1:x2=true
 · rw[if_pos c1] at h
   let u23:List Ans:=u21++[df,.call ⟨true,[]⟩ (.hp 0 0) [(.row [.nils,.nils,(.mp 1),.nils]),(.map (bK .i64 (fun y=>AV.agg (aC y)) ([]:Ty2)) ([]:Ty2).length)],df,df,.n x1.length,df,df]
   let w24:List Prf:=[⟨rF⟩,⟨rF⟩,⟨(aU aA x1)⟩,⟨rF⟩,⟨rF⟩,⟨(aDL)⟩,⟨(nF c1)⟩,⟨(yB k _ e0)⟩]
   by_cases c2:ltI 100 (nI x1.length)=true
   · rw[if_pos c2] at h
     obtain rfl:=osi h
     exact Tri.of (x:=X6) aE xZ (u23++[dt]) ([⟨c2⟩]++w24) (by kernel_rfl)
   rw[if_neg c2] at h;replace c2:=eqf c2
   obtain⟨x4,e3,h⟩:=bsm h
   obtain⟨x5,e5,h⟩:=bsm h
   obtain⟨x6,e6,h⟩:=bsm h
   let u25:List Ans:=u23++[df,.n x1.length,.norm 2 ⟨[(3,[]),(29,[]),(30,[]),(31,[])],[⟨.tmp 3,[(0,2),(1,3)],none⟩,⟨.cell 0 2,[],none⟩,⟨.cell 0 3,[],some 4⟩],false,[],[]⟩,.n 0,.rows (List.map aA []),.out (.st .normal (aLV x4.1 x4.2.1 x4.2.2.1 x4.2.2.2)),.call ⟨true,[]⟩ (.ref 4 3 0 0 x4.2.2.2.length .virt) [(.row [(.sl 2 (List.map aB x4.1)),(.sl 3 (List.map aD x4.2.1)),(.mp 1),(.ref 4 2 0 0 x4.2.2.2.length .virt)]),(.map (bK .i64 (fun y=>AV.agg (aC y)) x4.2.2.1) x4.2.2.1.length),(.arr 4 (List.map aA x4.2.2.2) 0 0 true),(.arr 4 (List.map aA x4.2.2.2) 0 0 false)],.call ⟨true,[]⟩ (.tup [(.sl 2 (List.map aB x6.1)),(.int .i64 x6.2)]) [],.rows (List.map aA x4.2.2.2)]
   let w26:List Prf:=[⟨(cH aA (l:=x4.2.2.2) (n:=x4.2.2.2.length) rfl)⟩,⟨(eX aA (Nat.le_refl x4.2.2.2.length):0+x4.2.2.2.length≤(List.map aA x4.2.2.2).length)⟩,⟨(rV k x4.2.2.2 _ e6)⟩,⟨(cH aA (l:=x4.2.2.2) (n:=x4.2.2.2.length) rfl)⟩,⟨(eX aA (Nat.le_refl x4.2.2.2.length):0+x4.2.2.2.length≤(List.map aA x4.2.2.2).length)⟩,⟨(aCL k x4.1 x4.2.1 x4.2.2.1 x4.2.2.2 _ e5)⟩,⟨(LT.block (qF x1 _ k 0 [] [] ([]:Ty2) [] e3))⟩,⟨(eZ aA (l:=[]) (n:=0) rfl)⟩,⟨(rfl:0=0)⟩,⟨(zle 0)⟩,⟨(aU aA x1)⟩,⟨c2⟩]++w24
   obtain⟨x7,e7,h⟩:=bsm h
   cases x7 with
   | inl x8 =>
    simp only[Sum.elim_inl] at h
    let u27:List Ans:=u25++[.call ⟨true,[]⟩ (.tup [(.mp 0),(.int .i64 0)]) [(.map (bK .i64 (fun y=>(bC y).headD aJ) x8) x8.length)],.rows (List.map aA x4.2.2.2)]
    let w28:List Prf:=[⟨(fS k x4.2.2.2 (.inl x8) e7)⟩]++w26
    by_cases c9:eqI x6.2 0=true
    · rw[if_pos c9] at h
      let u29:List Ans:=u27++[df,df,df,df,.norm 8 ⟨[(3,[]),(7,[]),(9,[]),(11,[]),(57,[]),(58,[]),(59,[])],[⟨.tmp 3,[],none⟩,⟨.tmp 9,[],none⟩,⟨.tmp 57,[],none⟩,⟨.cell 0 2,[],none⟩,⟨.cell 0 3,[],none⟩],false,[],[]⟩]
      let w30:List Prf:=[⟨(nF (rfl:eqI 0 0=true))⟩,⟨(nF c9)⟩,⟨(nF c9)⟩,⟨(nF c9)⟩]++w28
      obtain⟨x9,e10,h⟩:=bsm h
      cases x9 with
      | inl x10 =>
       simp only[Sum.elim_inl] at h
       let u31:List Ans:=u29++[.out (.st .normal (aML x4 x6 x10)),.norm 14 ⟨[(3,[]),(7,[]),(11,[]),(99,[])],[⟨.tmp 3,[],none⟩,⟨.cell 0 2,[],none⟩,⟨.cell 0 3,[],none⟩],false,[],[]⟩]
       let w32:List Prf:=[⟨(LT.block (gC x4 x6 x8 _ k true 0 e10))⟩]++w30
       obtain⟨x11,e12,h⟩:=bsm h
       cases x11 with
       | inl x12 =>
        simp only[Sum.elim_inl] at h
        obtain rfl:=osi h
        exact Tri.of (x:=X6) aE xZ (u31++[.out (.st .normal (aLQ))]) ([⟨(LT.block (jW x4 x6 x10 _ k 0 e12))⟩]++w32) (by kernel_rfl)
       | inr x12 =>
        simp only[Sum.elim_inr] at h
        obtain rfl:=osi h
        exact Tri.of (x:=X6) aE xZ (u31++[.out (.fin (.bool x12) [])]) ([⟨(LT.blockFin (id:=4) (jW x4 x6 x10 _ k 0 e12))⟩]++w32) (by kernel_rfl)
      | inr x10 =>
       simp only[Sum.elim_inr] at h
       obtain rfl:=osi h
       exact Tri.of (x:=X6) aE xZ (u29++[.out (.fin (.bool x10) [])]) ([⟨(LT.blockFin (id:=2) (gC x4 x6 x8 _ k true 0 e10))⟩]++w30) (by kernel_rfl)
    rw[if_neg c9] at h;replace c9:=eqf c9
    obtain rfl:=osi h
    exact Tri.of (x:=X6) aE xZ (u27++[dt,dt,dt,dt]) ([⟨rT⟩,⟨(nT c9)⟩,⟨(nT c9)⟩,⟨(nT c9)⟩]++w28) (by kernel_rfl)
   | inr x8 =>
    simp only[Sum.elim_inr] at h
    let u33:List Ans:=u25++[.call ⟨true,[]⟩ (.tup [.mapn,(.int .i64 4)]) [],.rows (List.map aA x4.2.2.2)]
    let w34:List Prf:=[⟨(fS k x4.2.2.2 (.inr x8) e7)⟩]++w26
    by_cases c9:eqI x6.2 0=true
    · rw[if_pos c9] at h
      obtain rfl:=osi h
      exact Tri.of (x:=X6) aE xZ (u33++[df,df,df,dt]) ([⟨(nT (rfl:eqI 4 0=false))⟩,⟨(nF c9)⟩,⟨(nF c9)⟩,⟨(nF c9)⟩]++w34) (by kernel_rfl)
    rw[if_neg c9] at h;replace c9:=eqf c9
    obtain rfl:=osi h
    exact Tri.of (x:=X6) aE xZ (u33++[dt,dt,dt,dt]) ([⟨rT⟩,⟨(nT c9)⟩,⟨(nT c9)⟩,⟨(nT c9)⟩]++w34) (by kernel_rfl)
 rw[if_neg c1] at h;replace c1:=eqf c1
 obtain rfl:=osi h
 exact Tri.of (x:=X6) aE xZ (u21++[dt]) [⟨(nT c1)⟩,⟨(yB k _ e0)⟩] (by kernel_rfl)
end Go.Ws
