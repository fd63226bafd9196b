/-
  Walks, merged.
  Conditions: none.
-/
import Derived.Test.YtipeekdnpocclaaZPre
import Derived.Test.YtipeekdnpocclaaZPure
import Derived.Test.YtipeekdnpocclaaZWGModelReads0
set_option linter.unusedVariables false
set_option linter.unusedSimpArgs false
namespace Go.Ws
open Go.Proofs
set_option linter.unusedSimpArgs false
set_option linter.unusedVariables false
set_option maxRecDepth 1000000
set_option maxHeartbeats 4000000
noncomputable def X31:Ctx:=⟨Try.f31,[],true⟩
noncomputable def L31_0:Code:=at_ Try.f31 [1,1,0,1,4,5]
def S31_0 (x1:aI) (bL:Int) (bE:aI):St:=⟨mkT 24 [(0,(.sl 2 (List.map aB x1))),(3,(.ref 2 0 0 0 bE.length .virt)),(4,(.int .i64 bL))],[(.arr 2 (List.map aB bE) 0 0 false)]⟩
def aQ0 (aS7:aI):St:=⟨mkT 24 [(3,(.ref 2 0 0 0 aS7.length .virt))],[(.arr 2 (List.map aB aS7) 0 0 false)]⟩
def O31_0 (x1:aI) (y:(aI)):GX:=.st (.exit 0) (aQ0 y)
theorem yQ (x1:aI) (y:(aI)):∀(k:Nat) (bL:Int) (bE:aI),jE k x1 bL bE=some y→LT Try.prog X31 L31_0 (S31_0 x1 bL bE) (O31_0 x1 y)
 | 0,bL,bE,h=>by cases h
 | k+1,bL,bE,h=>by
  rw[jE] at h
  by_cases cL0:ltI bL 64=true
  · rw[if_pos cL0] at h
    obtain⟨fR,eL1,h⟩:=bsm h
    let w2:List Prf:=[⟨(aQD k x1 (conv .u8 bL) _ eL1)⟩,⟨cL0⟩]
    by_cases cL2:eqI fR 0=true
    · rw[if_pos cL2] at h
      exact LT.next aF (hs:=⟨[(0,[]),(3,[]),(4,[])],[⟨.tmp 3,[],some 2⟩],false,[],[]⟩) (es:=none) [dt,.call ⟨true,[]⟩ (.int .i64 fR) [],df,.n bE.length,.rows (List.map aB bE)] ([⟨(bK aB (l:=bE) (n:=bE.length) rfl)⟩,⟨(rfl:bE.length=bE.length)⟩,⟨(zle bE.length)⟩,⟨(nF cL2)⟩]++w2) (by kernel_rfl) (yQ x1 y k (aL .i64 bL 1) bE h)
    rw[if_neg cL2] at h;replace cL2:=eqf cL2
    by_cases cL3:bC (((bE++[(conv .u8 bL,fR)]).length)*16)=true
    · rw[if_pos cL3] at h
      exact LT.next aF (hs:=⟨[(0,[]),(3,[]),(4,[])],[⟨.tmp 3,[],some 2⟩],false,[],[]⟩) (es:=none) [dt,.call ⟨true,[]⟩ (.int .i64 fR) [],dt,.rows (List.map aB [(conv .u8 bL,fR)]),.n ((bE++[(conv .u8 bL,fR)]).length),.n bE.length,dt,.rows (List.map aB (bE++[(conv .u8 bL,fR)])),.n ((bE++[(conv .u8 bL,fR)]).length),.rows (List.map aB (bE++[(conv .u8 bL,fR)]))] ([⟨(bK aB (l:=(bE++[(conv .u8 bL,fR)])) (n:=((bE++[(conv .u8 bL,fR)]).length)) rfl)⟩,⟨(rfl:(bE++[(conv .u8 bL,fR)]).length=(bE++[(conv .u8 bL,fR)]).length)⟩,⟨(zle ((bE++[(conv .u8 bL,fR)]).length))⟩,⟨(hU aB bE [(conv .u8 bL,fR)])⟩,⟨(fO bE.length)⟩,⟨(aJ aB bE)⟩,⟨cL3⟩,⟨(by simp only[wl,List.length_map,List.map_nil,List.map_cons]<;>omega:bE.length+(List.map aB [(conv .u8 bL,fR)]).length=(bE++[(conv .u8 bL,fR)]).length)⟩,⟨(aV aB (l:=[(conv .u8 bL,fR)]) (n:=1) rfl)⟩,⟨(bV aB (Nat.le_refl 1):0+1≤(List.map aB [(conv .u8 bL,fR)]).length)⟩,⟨(nT cL2)⟩]++w2) (by kernel_rfl) (yQ x1 y k (aL .i64 bL 1) (bE++[(conv .u8 bL,fR)]) h)
    rw[if_neg cL3] at h;replace cL3:=eqf cL3
    cases h
  rw[if_neg cL0] at h;replace cL0:=eqf cL0
  obtain rfl:=osi h
  show LT _ _ _ _ (.st (.exit 0) (aQ0 bE))
  exact LT.done aF (hs:=⟨[],[],false,[],[]⟩) (es:=(some ⟨[(3,[])],[⟨.tmp 3,[],none⟩],false,[],[]⟩)) [df] [⟨cL0⟩] (by kernel_rfl) (fun s h=>by cases h)
theorem aI7 (k:Nat) (x1:aI) (r:aI) (h:zG k x1=some r):Tri Try.prog 31 [(.sl 2 (List.map aB x1))] [] (.sl 2 (List.map aB r)) []:=by
 unfold zG at h
 obtain⟨x3,e0,h⟩:=bsm h
 obtain rfl:=osi h
 exact Tri.of (x:=X31) aF facts31 [.norm 2 ⟨[(0,[]),(3,[]),(4,[])],[⟨.tmp 3,[],some 2⟩],false,[],[]⟩,.n 0,.rows (List.map aB []),.out (.st .normal (aQ0 x3)),.rows (List.map aB x3)] [⟨(aV aB (l:=x3) (n:=x3.length) rfl)⟩,⟨(bV aB (Nat.le_refl x3.length):0+x3.length≤(List.map aB x3).length)⟩,⟨(LT.block (yQ x1 _ k 0 [] e0))⟩,⟨(bK aB (l:=[]) (n:=0) rfl)⟩,⟨(rfl:0=0)⟩,⟨(zle 0)⟩] (by kernel_rfl)
end Go.Ws

namespace Go.Ws
open Go.Proofs
set_option linter.unusedSimpArgs false
set_option linter.unusedVariables false
set_option maxRecDepth 1000000
set_option maxHeartbeats 4000000
noncomputable def X97:Ctx:=⟨Try.f97,[],true⟩
noncomputable def L97_0:Code:=at_ Try.f97 [1,1,0,1,4,5]
def S97_0 (x1:aI) (x2:aI) (eM:Int):St:=⟨mkT 33 [(0,(.sl 2 (List.map aB x1))),(1,(.sl 2 (List.map aB x2))),(6,(.int .i64 eM))],[]⟩
def aOD (x1:aI) (x2:aI):St:=⟨mkT 33 [(0,(.sl 2 (List.map aB x1))),(1,(.sl 2 (List.map aB x2)))],[]⟩
def O97_0 (x1:aI) (x2:aI) (y:(Sum (Unit) (aI × Int))):GX:=match y with
 | .inl y=>.st (.exit 0) (aOD x1 x2)
 | .inr y=>.fin (.tup [(.sl 2 (List.map aB y.1)),(.int .i64 y.2)]) []
theorem wT (x1:aI) (x2:aI) (y:(Sum (Unit) (aI × Int))):∀(k:Nat) (eM:Int),i6 k x1 x2 eM=some y→LT Try.prog X97 L97_0 (S97_0 x1 x2 eM) (O97_0 x1 x2 y)
 | 0,eM,h=>by cases h
 | k+1,eM,h=>by
  rw[i6] at h
  by_cases cL0:ltI eM (nI x2.length)=true
  · rw[if_pos cL0] at h
    by_cases cL1:inI eM x2.length=true
    · rw[if_pos cL1] at h
      obtain⟨aBW,eL2,h⟩:=bsm h
      let u3:List Ans:=[.n x2.length,dt,.n x2.length,.row [(.int .u8 aBW.1)]]
      let w4:List Prf:=[⟨(aN (e:=aB) eL2 2 0 1 (by decide))⟩,⟨cL1⟩,⟨(aJ aB x2)⟩,⟨cL0⟩,⟨(aJ aB x2)⟩]
      by_cases cL3:ltI aBW.1 64=true
      · rw[if_pos cL3] at h
        exact LT.next aF (hs:=⟨[(0,[]),(1,[]),(6,[])],[],false,[],[]⟩) (es:=none) (u3++[df]) ([⟨(nF cL3)⟩]++w4) (by kernel_rfl) (wT x1 x2 y k (aL .i64 eM 1) h)
      rw[if_neg cL3] at h;replace cL3:=eqf cL3
      obtain rfl:=osi h
      show LT _ _ _ _ (.fin (.tup [(.sl 2 (List.map aB ((x1,2).1))),(.int .i64 ((x1,2).2))]) [])
      exact LT.done aF (hs:=⟨[],[],false,[],[]⟩) (es:=none) (u3++[dt]) ([⟨(nT cL3)⟩]++w4) (by kernel_rfl) (fun s h=>by cases h)
    rw[if_neg cL1] at h;replace cL1:=eqf cL1
    cases h
  rw[if_neg cL0] at h;replace cL0:=eqf cL0
  obtain rfl:=osi h
  show LT _ _ _ _ (.st (.exit 0) (aOD x1 x2))
  exact LT.done aF (hs:=⟨[],[],false,[],[]⟩) (es:=(some ⟨[(0,[]),(1,[])],[],false,[],[]⟩)) [.n x2.length,df] [⟨cL0⟩,⟨(aJ aB x2)⟩] (by kernel_rfl) (fun s h=>by cases h)
theorem aO7 (k:Nat) (x1:aI) (x2:aI) (r:aI × Int) (h:yA k x1 x2=some r):Tri Try.prog 97 [(.sl 2 (List.map aB x1)),(.sl 2 (List.map aB x2))] [] (.tup [(.sl 2 (List.map aB r.1)),(.int .i64 r.2)]) []:=by
 unfold yA at h
 obtain⟨x3,e0,h⟩:=bsm h
 let u5:List Ans:=[.call ⟨true,[]⟩ (.bool x3) []]
 by_cases c1:x3=true
 · rw[if_pos c1] at h
   let w8:List Prf:=[⟨(nF c1)⟩,⟨(aDE k x1 _ e0)⟩]
   obtain⟨x4,e2,h⟩:=bsm h
   cases x4 with
   | inl x5 =>
    simp only[Sum.elim_inl] at h
    by_cases c4:bC (x1.length*16)=true
    · rw[if_pos c4] at h
      by_cases c5:bC (((x1++x2).length)*16)=true
      · rw[if_pos c5] at h
        obtain⟨x6,e6,h⟩:=bsm h
        obtain rfl:=osi h
        exact Tri.of (x:=X97) aF aQM (u5++[df,.norm 2 ⟨[(0,[]),(1,[]),(6,[])],[],false,[],[]⟩,.out (.st .normal (aOD x1 x2)),.n x1.length,.n ((x1++x2).length),.n x1.length,dt,.rows (List.map aB (x1++x2)),.call ⟨true,[]⟩ (.sl 2 (List.map aB x6)) [],.rows (List.map aB (x1++x2))]) ([⟨(aI7 k (x1++x2) _ e6)⟩,⟨(aV aB (l:=(x1++x2)) (n:=((x1++x2).length)) rfl)⟩,⟨(bV aB (Nat.le_refl ((x1++x2).length)):0+(x1++x2).length≤(List.map aB (x1++x2)).length)⟩,⟨(hU aB x1 x2)⟩,⟨(fO x1.length)⟩,⟨(aJ aB x1)⟩,⟨c5⟩,⟨(by simp only[wl,List.length_map,List.map_nil,List.map_cons]<;>omega:x1.length+(List.map aB x2).length=(x1++x2).length)⟩,⟨c4⟩,⟨(aJ aB x1)⟩,⟨(LT.block (wT x1 x2 _ k 0 e2))⟩]++w8) (by kernel_rfl)
      rw[if_neg c5] at h;replace c5:=eqf c5
      cases h
    rw[if_neg c4] at h;replace c4:=eqf c4
    cases h
   | inr x5 =>
    simp only[Sum.elim_inr] at h
    obtain rfl:=osi h
    exact Tri.of (x:=X97) aF aQM (u5++[df,.norm 2 ⟨[(0,[]),(1,[]),(6,[])],[],false,[],[]⟩,.out (.fin (.tup [(.sl 2 (List.map aB x5.1)),(.int .i64 x5.2)]) [])]) ([⟨(LT.blockFin (id:=0) (wT x1 x2 _ k 0 e2))⟩]++w8) (by kernel_rfl)
 rw[if_neg c1] at h;replace c1:=eqf c1
 obtain rfl:=osi h
 exact Tri.of (x:=X97) aF aQM (u5++[dt]) [⟨(nT c1)⟩,⟨(aDE k x1 _ e0)⟩] (by kernel_rfl)
end Go.Ws

namespace Go.Ws
open Go.Proofs
set_option linter.unusedSimpArgs false
set_option linter.unusedVariables false
set_option maxRecDepth 1000000
set_option maxHeartbeats 4000000
noncomputable def X98:Ctx:=⟨Try.f98,[],true⟩
noncomputable def L98_0:Code:=at_ Try.f98 [1,1,0,1,4,5]
def S98_0 (x1:Ty8) (x2:Int) (dR:Int) (bF:Ty8):St:=⟨mkT 28 [(0,(.sl 3 (List.map aA x1))),(1,(.int .i64 x2)),(5,(.ref 3 0 0 0 bF.length .virt)),(6,(.int .i64 dR))],[(.arr 3 (List.map aA bF) 0 0 false)]⟩
def aOP (aS8:Ty8):St:=⟨mkT 28 [(5,(.ref 3 0 0 0 aS8.length .virt))],[(.arr 3 (List.map aA aS8) 0 0 false)]⟩
def O98_0 (x1:Ty8) (x2:Int) (y:(Ty8)):GX:=.st (.exit 0) (aOP y)
theorem uZ (x1:Ty8) (x2:Int) (y:(Ty8)):∀(k:Nat) (dR:Int) (bF:Ty8),gM k x1 x2 dR bF=some y→LT Try.prog X98 L98_0 (S98_0 x1 x2 dR bF) (O98_0 x1 x2 y)
 | 0,dR,bF,h=>by cases h
 | k+1,dR,bF,h=>by
  rw[gM] at h
  by_cases cL0:ltI dR (nI x1.length)=true
  · rw[if_pos cL0] at h
    by_cases cL1:inI dR x1.length=true
    · rw[if_pos cL1] at h
      obtain⟨fA,eL2,h⟩:=bsm h
      let u3:List Ans:=[.n x1.length,dt,.n x1.length,.row [(.int .i64 fA.2.1)]]
      let w4:List Prf:=[⟨(aN (e:=aA) eL2 3 1 1 (by decide))⟩,⟨cL1⟩,⟨(aJ aA x1)⟩,⟨cL0⟩,⟨(aJ aA x1)⟩]
      by_cases cL3:eqI fA.2.1 x2=true
      · rw[if_pos cL3] at h
        exact LT.next aF (hs:=⟨[(0,[]),(1,[]),(5,[]),(6,[])],[⟨.tmp 5,[],some 3⟩],false,[],[]⟩) (es:=none) (u3++[df,.n bF.length,.rows (List.map aA bF)]) ([⟨(bK aA (l:=bF) (n:=bF.length) rfl)⟩,⟨(rfl:bF.length=bF.length)⟩,⟨(zle bF.length)⟩,⟨(nF cL3)⟩]++w4) (by kernel_rfl) (uZ x1 x2 y k (aL .i64 dR 1) bF h)
      rw[if_neg cL3] at h;replace cL3:=eqf cL3
      by_cases cL4:bC (((bF++[fA]).length)*24)=true
      · rw[if_pos cL4] at h
        exact LT.next aF (hs:=⟨[(0,[]),(1,[]),(5,[]),(6,[])],[⟨.tmp 5,[],some 3⟩],false,[],[]⟩) (es:=none) (u3++[dt,.n x1.length,.row [(.int .u8 fA.1),(.int .i64 fA.2.1),(.bool fA.2.2)],.rows (List.map aA [fA]),.n ((bF++[fA]).length),.n bF.length,dt,.rows (List.map aA (bF++[fA])),.n ((bF++[fA]).length),.rows (List.map aA (bF++[fA]))]) ([⟨(bK aA (l:=(bF++[fA])) (n:=((bF++[fA]).length)) rfl)⟩,⟨(rfl:(bF++[fA]).length=(bF++[fA]).length)⟩,⟨(zle ((bF++[fA]).length))⟩,⟨(hU aA bF [fA])⟩,⟨(fO bF.length)⟩,⟨(aJ aA bF)⟩,⟨cL4⟩,⟨(by simp only[wl,List.length_map,List.map_nil,List.map_cons]<;>omega:bF.length+(List.map aA [fA]).length=(bF++[fA]).length)⟩,⟨(aV aA (l:=[fA]) (n:=1) rfl)⟩,⟨(bV aA (Nat.le_refl 1):0+1≤(List.map aA [fA]).length)⟩,⟨(aN (e:=aA) eL2 3 0 3 (by decide))⟩,⟨cL1⟩,⟨(aJ aA x1)⟩,⟨(nT cL3)⟩]++w4) (by kernel_rfl) (uZ x1 x2 y k (aL .i64 dR 1) (bF++[fA]) h)
      rw[if_neg cL4] at h;replace cL4:=eqf cL4
      cases h
    rw[if_neg cL1] at h;replace cL1:=eqf cL1
    cases h
  rw[if_neg cL0] at h;replace cL0:=eqf cL0
  obtain rfl:=osi h
  show LT _ _ _ _ (.st (.exit 0) (aOP bF))
  exact LT.done aF (hs:=⟨[],[],false,[],[]⟩) (es:=(some ⟨[(5,[])],[⟨.tmp 5,[],none⟩],false,[],[]⟩)) [.n x1.length,df] [⟨cL0⟩,⟨(aJ aA x1)⟩] (by kernel_rfl) (fun s h=>by cases h)
theorem aMU (k:Nat) (x1:Ty8) (x2:Int) (r:Ty8) (h:uX k x1 x2=some r):Tri Try.prog 98 [(.sl 3 (List.map aA x1)),(.int .i64 x2)] [] (.sl 3 (List.map aA r)) []:=by
 unfold uX at h
 obtain⟨x4,e0,h⟩:=bsm h
 obtain rfl:=osi h
 exact Tri.of (x:=X98) aF facts98 [.norm 2 ⟨[(0,[]),(1,[]),(5,[]),(6,[])],[⟨.tmp 5,[],some 3⟩],false,[],[]⟩,.n 0,.rows (List.map aA []),.out (.st .normal (aOP x4)),.rows (List.map aA x4)] [⟨(aV aA (l:=x4) (n:=x4.length) rfl)⟩,⟨(bV aA (Nat.le_refl x4.length):0+x4.length≤(List.map aA x4).length)⟩,⟨(LT.block (uZ x1 x2 _ k 0 [] e0))⟩,⟨(bK aA (l:=[]) (n:=0) rfl)⟩,⟨(rfl:0=0)⟩,⟨(zle 0)⟩] (by kernel_rfl)
end Go.Ws

namespace Go.Ws
open Go.Proofs
set_option linter.unusedSimpArgs false
set_option linter.unusedVariables false
set_option maxRecDepth 1000000
set_option maxHeartbeats 4000000
noncomputable def X83:Ctx:=⟨Try.f83,[],true⟩
theorem pI (k:Nat) (x1:aI) (x2:Ty8) (x3:Ty3) (x4:Ty7) (x5:Int) (x6:aI) (r:aI × Ty8 × Ty3 × Ty7) (h:kQ k x1 x2 x3 x4 x5 x6=some r):Tri Try.prog 83 [(.agg [(.sl 2 (List.map aB x1)),(.sl 3 (List.map aA x2)),(.sl 5 (List.map aH x3)),(.sl 4 (List.map aC x4))]),(.int .i64 x5),(.sl 2 (List.map aB x6))] [] (.agg [(.sl 2 (List.map aB r.1)),(.sl 3 (List.map aA r.2.1)),(.sl 5 (List.map aH r.2.2.1)),(.sl 4 (List.map aC r.2.2.2))]) []:=by
 unfold kQ at h
 obtain⟨x7,e0,h⟩:=bsm h
 obtain⟨x8,e1,h⟩:=bsm h
 obtain rfl:=osi h
 exact Tri.of (x:=X83) aF facts83 [.call ⟨true,[]⟩ (.tup [(.sl 2 (List.map aB x7.1)),(.int .i64 x7.2)]) [],.call ⟨true,[]⟩ (.sl 3 (List.map aA x8)) []] [⟨(aMU k x2 x5 _ e1)⟩,⟨(aO7 k x1 x6 _ e0)⟩] (by kernel_rfl)
end Go.Ws

namespace Go.Ws
open Go.Proofs
set_option linter.unusedSimpArgs false
set_option linter.unusedVariables false
set_option maxRecDepth 1000000
set_option maxHeartbeats 4000000
noncomputable def X84:Ctx:=⟨Try.f84,[],true⟩
def A84_0:Ans:=.norm 0 ⟨[(2,[]),(3,[(0,2)]),(4,[])],[⟨.tmp 2,[],none⟩],false,[],[]⟩
theorem aL7 (k:Nat) (x1:Int) (x2:aI) (x3:Bool) (x4:Int) (r:Int × aI × Bool × Int × aI × Int) (h:tL k x1 x2 x3 x4=some r):Tri Try.prog 84 [(.agg [(.int .i64 x1),(.sl 2 (List.map aB x2)),(.bool x3),(.int .i64 x4)])] [] (.tup [(.agg [(.int .i64 r.1),(.sl 2 (List.map aB r.2.1)),(.bool r.2.2.1),(.int .i64 r.2.2.2.1)]),(.sl 2 (List.map aB r.2.2.2.2.1)),(.int .i64 r.2.2.2.2.2)]) []:=by
 unfold tL at h
 obtain⟨x5,e0,h⟩:=bsm h
 let u1:List Ans:=[.call ⟨true,[]⟩ (.bool x5) []]
 let w2:List Prf:=[⟨(uM k x1 x2 x3 x4 _ e0)⟩]
 by_cases c1:x5=true
 · rw[if_pos c1] at h
   by_cases c2:eqI x1 1=true
   · rw[if_pos c2] at h
     by_cases c3:x3=true
     · rw[if_pos c3] at h
       obtain rfl:=osi h
       exact Tri.of (x:=X84) aF aJ7 (u1++[df,df,dt,A84_0]) ([⟨c3⟩,⟨(nF c2)⟩,⟨(nF c1)⟩]++w2) (by kernel_rfl)
     rw[if_neg c3] at h;replace c3:=eqf c3
     obtain rfl:=osi h
     exact Tri.of (x:=X84) aF aJ7 (u1++[df,df,df]) ([⟨c3⟩,⟨(nF c2)⟩,⟨(nF c1)⟩]++w2) (by kernel_rfl)
   rw[if_neg c2] at h;replace c2:=eqf c2
   obtain rfl:=osi h
   exact Tri.of (x:=X84) aF aJ7 (u1++[df,dt,A84_0]) ([⟨(nT c2)⟩,⟨(nF c1)⟩]++w2) (by kernel_rfl)
 rw[if_neg c1] at h;replace c1:=eqf c1
 obtain rfl:=osi h
 exact Tri.of (x:=X84) aF aJ7 (u1++[dt,A84_0]) ([⟨(nT c1)⟩]++w2) (by kernel_rfl)
end Go.Ws

namespace Go.Ws
open Go.Proofs
set_option linter.unusedSimpArgs false
set_option linter.unusedVariables false
set_option maxRecDepth 1000000
set_option maxHeartbeats 4000000
noncomputable def X99:Ctx:=⟨Try.f99,[],true⟩
noncomputable def L99_0:Code:=at_ Try.f99 [1,1,0,1,4,5]
def S99_0 (x1:aI) (eN:Int) (b5:aI):St:=⟨mkT 28 [(0,(.sl 2 (List.map aB x1))),(3,(.ref 2 0 0 0 b5.length .virt)),(4,(.int .i64 eN))],[(.arr 2 (List.map aB b5) 0 0 false)]⟩
def aQN (aS9:aI):St:=⟨mkT 28 [(3,(.ref 2 0 0 0 aS9.length .virt))],[(.arr 2 (List.map aB aS9) 0 0 false)]⟩
def O99_0 (x1:aI) (y:(aI)):GX:=.st (.exit 0) (aQN y)
theorem uR (x1:aI) (y:(aI)):∀(k:Nat) (eN:Int) (b5:aI),dY k x1 eN b5=some y→LT Try.prog X99 L99_0 (S99_0 x1 eN b5) (O99_0 x1 y)
 | 0,eN,b5,h=>by cases h
 | k+1,eN,b5,h=>by
  rw[dY] at h
  by_cases cL0:ltI eN 0=true
  · rw[if_pos cL0] at h
    obtain rfl:=osi h
    show LT _ _ _ _ (.st (.exit 0) (aQN b5))
    exact LT.done aF (hs:=⟨[],[],false,[],[]⟩) (es:=(some ⟨[(3,[])],[⟨.tmp 3,[],none⟩],false,[],[]⟩)) [df] [⟨(nF cL0)⟩] (by kernel_rfl) (fun s h=>by cases h)
  rw[if_neg cL0] at h;replace cL0:=eqf cL0
  by_cases cL1:inI eN x1.length=true
  · rw[if_pos cL1] at h
    obtain⟨b6,eL2,h⟩:=bsm h
    by_cases cL3:bC (((b5++[(b6.1,sQ .i64 b6.2)]).length)*16)=true
    · rw[if_pos cL3] at h
      exact LT.next aF (hs:=⟨[(0,[]),(3,[]),(4,[])],[⟨.tmp 3,[],some 2⟩],false,[],[]⟩) (es:=none) [dt,.n x1.length,.row [(.int .u8 b6.1)],.n x1.length,.row [(.int .i64 b6.2)],.rows (List.map aB [(b6.1,sQ .i64 b6.2)]),.n ((b5++[(b6.1,sQ .i64 b6.2)]).length),.n b5.length,dt,.rows (List.map aB (b5++[(b6.1,sQ .i64 b6.2)])),.n ((b5++[(b6.1,sQ .i64 b6.2)]).length),.rows (List.map aB (b5++[(b6.1,sQ .i64 b6.2)]))] [⟨(bK aB (l:=(b5++[(b6.1,sQ .i64 b6.2)])) (n:=((b5++[(b6.1,sQ .i64 b6.2)]).length)) rfl)⟩,⟨(rfl:(b5++[(b6.1,sQ .i64 b6.2)]).length=(b5++[(b6.1,sQ .i64 b6.2)]).length)⟩,⟨(zle ((b5++[(b6.1,sQ .i64 b6.2)]).length))⟩,⟨(hU aB b5 [(b6.1,sQ .i64 b6.2)])⟩,⟨(fO b5.length)⟩,⟨(aJ aB b5)⟩,⟨cL3⟩,⟨(by simp only[wl,List.length_map,List.map_nil,List.map_cons]<;>omega:b5.length+(List.map aB [(b6.1,sQ .i64 b6.2)]).length=(b5++[(b6.1,sQ .i64 b6.2)]).length)⟩,⟨(aV aB (l:=[(b6.1,sQ .i64 b6.2)]) (n:=1) rfl)⟩,⟨(bV aB (Nat.le_refl 1):0+1≤(List.map aB [(b6.1,sQ .i64 b6.2)]).length)⟩,⟨(aN (e:=aB) eL2 2 1 1 (by decide))⟩,⟨cL1⟩,⟨(aJ aB x1)⟩,⟨(aN (e:=aB) eL2 2 0 1 (by decide))⟩,⟨cL1⟩,⟨(aJ aB x1)⟩,⟨(nT cL0)⟩] (by kernel_rfl) (uR x1 y k (qF .i64 eN 1) (b5++[(b6.1,sQ .i64 b6.2)]) h)
    rw[if_neg cL3] at h;replace cL3:=eqf cL3
    cases h
  rw[if_neg cL1] at h;replace cL1:=eqf cL1
  cases h
theorem zM (k:Nat) (x1:aI) (r:aI) (h:lI k x1=some r):Tri Try.prog 99 [(.sl 2 (List.map aB x1))] [] (.sl 2 (List.map aB r)) []:=by
 unfold lI at h
 obtain⟨x3,e0,h⟩:=bsm h
 obtain rfl:=osi h
 exact Tri.of (x:=X99) aF facts99 [.n x1.length,.norm 2 ⟨[(0,[]),(3,[]),(4,[])],[⟨.tmp 3,[],some 2⟩],false,[],[]⟩,.n 0,.rows (List.map aB []),.out (.st .normal (aQN x3)),.rows (List.map aB x3)] [⟨(aV aB (l:=x3) (n:=x3.length) rfl)⟩,⟨(bV aB (Nat.le_refl x3.length):0+x3.length≤(List.map aB x3).length)⟩,⟨(LT.block (uR x1 _ k (qF .i64 (nI x1.length) 1) [] e0))⟩,⟨(bK aB (l:=[]) (n:=0) rfl)⟩,⟨(rfl:0=0)⟩,⟨(zle 0)⟩,⟨(aJ aB x1)⟩] (by kernel_rfl)
end Go.Ws

namespace Go.Ws
open Go.Proofs
set_option linter.unusedSimpArgs false
set_option linter.unusedVariables false
set_option maxRecDepth 1000000
set_option maxHeartbeats 4000000
noncomputable def X85:Ctx:=⟨Try.f85,[],true⟩
def aGP:Ans:=.norm 0 ⟨[(4,[]),(5,[(0,2)]),(6,[])],[⟨.tmp 4,[],none⟩],false,[],[]⟩
theorem wX (k:Nat) (x1:Int) (x2:aI) (x3:Bool) (x4:Int) (x5:Int) (r:Int × aI × Bool × Int × aI × Int) (h:mZ k x1 x2 x3 x4 x5=some r):Tri Try.prog 85 [(.agg [(.int .i64 x1),(.sl 2 (List.map aB x2)),(.bool x3),(.int .i64 x4)]),(.int .i64 x5)] [] (.tup [(.agg [(.int .i64 r.1),(.sl 2 (List.map aB r.2.1)),(.bool r.2.2.1),(.int .i64 r.2.2.2.1)]),(.sl 2 (List.map aB r.2.2.2.2.1)),(.int .i64 r.2.2.2.2.2)]) []:=by
 unfold mZ at h
 obtain⟨x6,e0,h⟩:=bsm h
 let u1:List Ans:=[.call ⟨true,[]⟩ (.bool x6) []]
 let w2:List Prf:=[⟨(uM k x1 x2 x3 x4 _ e0)⟩]
 by_cases c1:x6=true
 · rw[if_pos c1] at h
   let w4:List Prf:=[⟨(nF c1)⟩,⟨(nF c1)⟩,⟨(nF c1)⟩]++w2
   by_cases c2:eqI x5 1=true
   · rw[if_pos c2] at h
     let u5:List Ans:=u1++[df,df,df,df,df,df,df,df,df]
     let w6:List Prf:=[⟨rF⟩,⟨(nF c1)⟩,⟨(nF c2)⟩,⟨(nF c1)⟩,⟨(nF c2)⟩,⟨(nF c2)⟩]++w4
     by_cases c3:eqI x1 3=true
     · rw[if_pos c3] at h
       by_cases c4:eqI x4 x5=true
       · rw[if_pos c4] at h
         obtain rfl:=osi h
         exact Tri.of (x:=X85) aF sG (u5++[dt,dt,dt,dt,dt,dt,aGP]) ([⟨c4⟩,⟨c3⟩,⟨c3⟩,⟨c3⟩,⟨c3⟩,⟨c3⟩]++w6) (by kernel_rfl)
       rw[if_neg c4] at h;replace c4:=eqf c4
       obtain rfl:=osi h
       exact Tri.of (x:=X85) aF sG (u5++[dt,dt,dt,dt,dt,df,dt,dt,aGP]) ([⟨c3⟩,⟨c3⟩,⟨c4⟩,⟨c3⟩,⟨c3⟩,⟨c3⟩,⟨c3⟩,⟨c3⟩]++w6) (by kernel_rfl)
     rw[if_neg c3] at h;replace c3:=eqf c3
     let u9:List Ans:=u5++[df,df,df,df,df,df,df,dt,dt,dt,dt]
     let w10:List Prf:=[⟨c2⟩,⟨c2⟩,⟨c2⟩,⟨c2⟩,⟨c3⟩,⟨rF⟩,⟨c3⟩,⟨c3⟩,⟨c3⟩,⟨c3⟩,⟨c3⟩]++w6
     by_cases c4:eqI x1 1=true
     · rw[if_pos c4] at h
       let w12:List Prf:=[⟨c2⟩,⟨c2⟩,⟨c2⟩,⟨c2⟩,⟨(nF c4)⟩]++w10
       by_cases c5:x3=true
       · rw[if_pos c5] at h
         by_cases c6:eqI x5 2=true
         · rw[if_pos c6] at h
           obtain⟨x7,e7,h⟩:=bsm h
           obtain rfl:=osi h
           exact Tri.of (x:=X85) aF sG (u9++[df,dt,dt,dt,dt,df,dt,dt,dt,dt,.call ⟨true,[]⟩ (.sl 2 (List.map aB x7)) []]) ([⟨(zM k x2 _ e7)⟩,⟨c5⟩,⟨c6⟩,⟨c6⟩,⟨c6⟩,⟨(nF c5)⟩]++w12) (by kernel_rfl)
         rw[if_neg c6] at h;replace c6:=eqf c6
         obtain rfl:=osi h
         exact Tri.of (x:=X85) aF sG (u9++[df,dt,dt,dt,dt,df,df,df,df,df,aGP]) ([⟨rF⟩,⟨c6⟩,⟨c6⟩,⟨c6⟩,⟨(nF c5)⟩]++w12) (by kernel_rfl)
       rw[if_neg c5] at h;replace c5:=eqf c5
       obtain rfl:=osi h
       exact Tri.of (x:=X85) aF sG (u9++[df,dt,dt,dt,dt,dt]) ([⟨(nT c5)⟩]++w12) (by kernel_rfl)
     rw[if_neg c4] at h;replace c4:=eqf c4
     obtain rfl:=osi h
     exact Tri.of (x:=X85) aF sG (u9++[dt,aGP]) ([⟨(nT c4)⟩]++w10) (by kernel_rfl)
   rw[if_neg c2] at h;replace c2:=eqf c2
   let u15:List Ans:=u1++[df,df,df,dt,dt,df,dt,df]
   let w16:List Prf:=[⟨(nF c1)⟩,⟨(nT c2)⟩,⟨(nF c1)⟩,⟨(nT c2)⟩,⟨(nT c2)⟩]++w4
   by_cases c3:eqI x5 2=true
   · rw[if_pos c3] at h
     by_cases c4:eqI x1 3=true
     · rw[if_pos c4] at h
       let w20:List Prf:=[⟨c4⟩,⟨c4⟩,⟨c4⟩,⟨c4⟩,⟨c4⟩,⟨(nF c3)⟩]++w16
       by_cases c5:eqI x4 x5=true
       · rw[if_pos c5] at h
         obtain rfl:=osi h
         exact Tri.of (x:=X85) aF sG (u15++[df,dt,dt,dt,dt,dt,dt,aGP]) ([⟨c5⟩]++w20) (by kernel_rfl)
       rw[if_neg c5] at h;replace c5:=eqf c5
       obtain rfl:=osi h
       exact Tri.of (x:=X85) aF sG (u15++[df,dt,dt,dt,dt,dt,df,dt,dt,aGP]) ([⟨c4⟩,⟨c4⟩,⟨c5⟩]++w20) (by kernel_rfl)
     rw[if_neg c4] at h;replace c4:=eqf c4
     let u21:List Ans:=u15++[df,df,df,df,df,df,df,df,df,df,df,df,df,df,df,df,df,df,dt,dt,dt]
     let w22:List Prf:=[⟨c3⟩,⟨c3⟩,⟨c3⟩,⟨rF⟩,⟨c2⟩,⟨c2⟩,⟨c2⟩,⟨c2⟩,⟨rF⟩,⟨c2⟩,⟨c2⟩,⟨c2⟩,⟨c2⟩,⟨c4⟩,⟨rF⟩,⟨c4⟩,⟨c4⟩,⟨c4⟩,⟨c4⟩,⟨c4⟩,⟨(nF c3)⟩]++w16
     by_cases c5:x3=true
     · rw[if_pos c5] at h
       obtain⟨x7,e6,h⟩:=bsm h
       obtain rfl:=osi h
       exact Tri.of (x:=X85) aF sG (u21++[dt,.call ⟨true,[]⟩ (.sl 2 (List.map aB x7)) []]) ([⟨(zM k x2 _ e6)⟩,⟨c5⟩]++w22) (by kernel_rfl)
     rw[if_neg c5] at h;replace c5:=eqf c5
     obtain rfl:=osi h
     exact Tri.of (x:=X85) aF sG (u21++[df,aGP]) ([⟨c5⟩]++w22) (by kernel_rfl)
   rw[if_neg c3] at h;replace c3:=eqf c3
   obtain rfl:=osi h
   exact Tri.of (x:=X85) aF sG (u15++[dt,aGP]) ([⟨(nT c3)⟩]++w16) (by kernel_rfl)
 rw[if_neg c1] at h;replace c1:=eqf c1
 obtain rfl:=osi h
 exact Tri.of (x:=X85) aF sG (u1++[dt,dt,dt,dt,dt,dt,aGP]) ([⟨rT⟩,⟨(nT c1)⟩,⟨(nT c1)⟩,⟨(nT c1)⟩,⟨(nT c1)⟩,⟨(nT c1)⟩]++w2) (by kernel_rfl)
end Go.Ws

namespace Go.Ws
open Go.Proofs
set_option linter.unusedSimpArgs false
set_option linter.unusedVariables false
set_option maxRecDepth 1000000
set_option maxHeartbeats 4000000
noncomputable def X64:Ctx:=⟨Try.f64,[],true⟩
def A64_0 (x11:Int × aI × Bool × Int × Int):Ans:=.call ⟨true,[]⟩ (.tup [(.agg [(.int .i64 x11.1),(.sl 2 (List.map aB x11.2.1)),(.bool x11.2.2.1),(.int .i64 x11.2.2.2.1)]),(.int .i64 x11.2.2.2.2)]) []
def aRX (x12:aI × Ty8 × Ty3 × Ty7):Ans:=.call ⟨true,[]⟩ (.agg [(.sl 2 (List.map aB x12.1)),(.sl 3 (List.map aA x12.2.1)),(.sl 5 (List.map aH x12.2.2.1)),(.sl 4 (List.map aC x12.2.2.2))]) []
def aRY (x11:Int × aI × Bool × Int × aI × Int):Ans:=.call ⟨true,[]⟩ (.tup [(.agg [(.int .i64 x11.1),(.sl 2 (List.map aB x11.2.1)),(.bool x11.2.2.1),(.int .i64 x11.2.2.2.1)]),(.sl 2 (List.map aB x11.2.2.2.2.1)),(.int .i64 x11.2.2.2.2.2)]) []
def A64_3 (x13:aI × Ty8 × Ty3 × Ty7):Ans:=.call ⟨true,[]⟩ (.agg [(.sl 2 (List.map aB x13.1)),(.sl 3 (List.map aA x13.2.1)),(.sl 5 (List.map aH x13.2.2.1)),(.sl 4 (List.map aC x13.2.2.2))]) []
theorem aPS (k:Nat) (x1:aI) (x2:Ty8) (x3:Ty3) (x4:Ty7) (x5:Int) (x6:Int) (x7:Int) (x8:Int) (x9:Int) (r:aI × Ty8 × Ty3 × Ty7 × Int) (h:yC k x1 x2 x3 x4 x5 x6 x7 x8 x9=some r):Tri Try.prog 64 [(.agg [(.sl 2 (List.map aB x1)),(.sl 3 (List.map aA x2)),(.sl 5 (List.map aH x3)),(.sl 4 (List.map aC x4))]),(.int .i64 x5),(.agg [(.int .i64 x6),(.int .i64 x7),(.int .u8 x8),(.int .i64 x9)])] [] (.tup [(.agg [(.sl 2 (List.map aB r.1)),(.sl 3 (List.map aA r.2.1)),(.sl 5 (List.map aH r.2.2.1)),(.sl 4 (List.map aC r.2.2.2.1))]),(.int .i64 r.2.2.2.2)]) []:=by
 unfold yC at h
 by_cases c0:inI x5 x3.length=true
 · rw[if_pos c0] at h
   obtain⟨x10,e1,h⟩:=bsm h
   let u1:List Ans:=[.n x3.length,.row [(.int .i64 x10.2.1),(.sl 2 (List.map aB x10.2.2.1)),(.bool x10.2.2.2.1),(.int .i64 x10.2.2.2.2)]]
   let w2:List Prf:=[⟨(aN (e:=aH) e1 5 1 4 (by decide))⟩,⟨c0⟩,⟨(aJ aH x3)⟩]
   by_cases c2:eqI x6 4=true
   · rw[if_pos c2] at h
     obtain⟨x11,e3,h⟩:=bsm h
     let w4:List Prf:=[⟨(aM7 k x10.2.1 x10.2.2.1 x10.2.2.2.1 x10.2.2.2.2 (!eqI x9 0) _ e3)⟩,⟨c2⟩]++w2
     by_cases c4:eqI x11.2.2.2.2 0=true
     · rw[if_pos c4] at h
       obtain⟨x12,e5,h⟩:=bsm h
       let u5:List Ans:=u1++[dt,(A64_0 x11),df,(aRX x12)]
       let w6:List Prf:=[⟨(pX k x1 x2 x3 x4 x5 x11.1 x11.2.1 x11.2.2.1 x11.2.2.2.1 _ e5)⟩,⟨(nF c4)⟩]++w4
       by_cases c6:eqI x9 0=true
       · rw[if_pos c6] at h
         obtain⟨x13,e7,h⟩:=bsm h
         obtain rfl:=osi h
         exact Tri.of (x:=X64) aF tR (u5++[dt,.call ⟨true,[[],[],[(0,2)]]⟩ (.agg [(.sl 2 (List.map aB x13.1)),(.sl 3 (List.map aA x13.2.1)),(.sl 5 (List.map aH x13.2.2.1)),(.sl 4 (List.map aC x13.2.2.2))]) []]) ([⟨(pI k x12.1 x12.2.1 x12.2.2.1 x12.2.2.2 x7 [] _ e7)⟩,⟨c6⟩]++w6) (by kernel_rfl)
       rw[if_neg c6] at h;replace c6:=eqf c6
       obtain rfl:=osi h
       exact Tri.of (x:=X64) aF tR (u5++[df]) ([⟨c6⟩]++w6) (by kernel_rfl)
     rw[if_neg c4] at h;replace c4:=eqf c4
     obtain rfl:=osi h
     exact Tri.of (x:=X64) aF tR (u1++[dt,(A64_0 x11),dt]) ([⟨(nT c4)⟩]++w4) (by kernel_rfl)
   rw[if_neg c2] at h;replace c2:=eqf c2
   by_cases c3:eqI x6 5=true
   · rw[if_pos c3] at h
     obtain⟨x11,e4,h⟩:=bsm h
     let w10:List Prf:=[⟨(aL7 k x10.2.1 x10.2.2.1 x10.2.2.2.1 x10.2.2.2.2 _ e4)⟩,⟨c3⟩,⟨c2⟩]++w2
     by_cases c5:eqI x11.2.2.2.2.2 0=true
     · rw[if_pos c5] at h
       obtain⟨x12,e6,h⟩:=bsm h
       obtain⟨x13,e7,h⟩:=bsm h
       obtain rfl:=osi h
       exact Tri.of (x:=X64) aF tR (u1++[df,dt,(aRY x11),df,(aRX x12),(A64_3 x13)]) ([⟨(pI k x12.1 x12.2.1 x12.2.2.1 x12.2.2.2 x7 x11.2.2.2.2.1 _ e7)⟩,⟨(pX k x1 x2 x3 x4 x5 x11.1 x11.2.1 x11.2.2.1 x11.2.2.2.1 _ e6)⟩,⟨(nF c5)⟩]++w10) (by kernel_rfl)
     rw[if_neg c5] at h;replace c5:=eqf c5
     obtain rfl:=osi h
     exact Tri.of (x:=X64) aF tR (u1++[df,dt,(aRY x11),dt]) ([⟨(nT c5)⟩]++w10) (by kernel_rfl)
   rw[if_neg c3] at h;replace c3:=eqf c3
   by_cases c4:eqI x9 1=true
   · rw[if_pos c4] at h
     obtain⟨x11,e5,h⟩:=bsm h
     let u13:List Ans:=u1++[df,df,dt,dt,dt,dt,dt,(aRY x11)]
     let w14:List Prf:=[⟨(wX k x10.2.1 x10.2.2.1 x10.2.2.2.1 x10.2.2.2.2 x9 _ e5)⟩,⟨rT⟩,⟨c4⟩,⟨c4⟩,⟨c4⟩,⟨c4⟩,⟨c3⟩,⟨c2⟩]++w2
     by_cases c6:eqI x11.2.2.2.2.2 0=true
     · rw[if_pos c6] at h
       obtain⟨x12,e7,h⟩:=bsm h
       obtain⟨x13,e8,h⟩:=bsm h
       obtain rfl:=osi h
       exact Tri.of (x:=X64) aF tR (u13++[df,(aRX x12),(A64_3 x13)]) ([⟨(pI k x12.1 x12.2.1 x12.2.2.1 x12.2.2.2 x7 x11.2.2.2.2.1 _ e8)⟩,⟨(pX k x1 x2 x3 x4 x5 x11.1 x11.2.1 x11.2.2.1 x11.2.2.2.1 _ e7)⟩,⟨(nF c6)⟩]++w14) (by kernel_rfl)
     rw[if_neg c6] at h;replace c6:=eqf c6
     obtain rfl:=osi h
     exact Tri.of (x:=X64) aF tR (u13++[dt]) ([⟨(nT c6)⟩]++w14) (by kernel_rfl)
   rw[if_neg c4] at h;replace c4:=eqf c4
   let w16:List Prf:=[⟨c4⟩,⟨c4⟩,⟨c4⟩,⟨c4⟩,⟨c3⟩,⟨c2⟩]++w2
   by_cases c5:eqI x9 2=true
   · rw[if_pos c5] at h
     obtain⟨x11,e6,h⟩:=bsm h
     let u17:List Ans:=u1++[df,df,df,df,df,df,dt,(aRY x11)]
     let w18:List Prf:=[⟨(wX k x10.2.1 x10.2.2.1 x10.2.2.2.1 x10.2.2.2.2 x9 _ e6)⟩,⟨c5⟩]++w16
     by_cases c7:eqI x11.2.2.2.2.2 0=true
     · rw[if_pos c7] at h
       obtain⟨x12,e8,h⟩:=bsm h
       obtain⟨x13,e9,h⟩:=bsm h
       obtain rfl:=osi h
       exact Tri.of (x:=X64) aF tR (u17++[df,(aRX x12),(A64_3 x13)]) ([⟨(pI k x12.1 x12.2.1 x12.2.2.1 x12.2.2.2 x7 x11.2.2.2.2.1 _ e9)⟩,⟨(pX k x1 x2 x3 x4 x5 x11.1 x11.2.1 x11.2.2.1 x11.2.2.2.1 _ e8)⟩,⟨(nF c7)⟩]++w18) (by kernel_rfl)
     rw[if_neg c7] at h;replace c7:=eqf c7
     obtain rfl:=osi h
     exact Tri.of (x:=X64) aF tR (u17++[dt]) ([⟨(nT c7)⟩]++w18) (by kernel_rfl)
   rw[if_neg c5] at h;replace c5:=eqf c5
   obtain⟨x11,e6,h⟩:=bsm h
   let u19:List Ans:=u1++[df,df,df,df,df,df,df,(aRY x11)]
   let w20:List Prf:=[⟨(wX k x10.2.1 x10.2.2.1 x10.2.2.2.1 x10.2.2.2.2 0 _ e6)⟩,⟨c5⟩]++w16
   by_cases c7:eqI x11.2.2.2.2.2 0=true
   · rw[if_pos c7] at h
     obtain⟨x12,e8,h⟩:=bsm h
     obtain⟨x13,e9,h⟩:=bsm h
     obtain rfl:=osi h
     exact Tri.of (x:=X64) aF tR (u19++[df,(aRX x12),(A64_3 x13)]) ([⟨(pI k x12.1 x12.2.1 x12.2.2.1 x12.2.2.2 x7 x11.2.2.2.2.1 _ e9)⟩,⟨(pX k x1 x2 x3 x4 x5 x11.1 x11.2.1 x11.2.2.1 x11.2.2.2.1 _ e8)⟩,⟨(nF c7)⟩]++w20) (by kernel_rfl)
   rw[if_neg c7] at h;replace c7:=eqf c7
   obtain rfl:=osi h
   exact Tri.of (x:=X64) aF tR (u19++[dt]) ([⟨(nT c7)⟩]++w20) (by kernel_rfl)
 rw[if_neg c0] at h;replace c0:=eqf c0
 cases h
end Go.Ws

namespace Go.Ws
open Go.Proofs
set_option linter.unusedSimpArgs false
set_option linter.unusedVariables false
set_option maxRecDepth 1000000
set_option maxHeartbeats 4000000
noncomputable def X94:Ctx:=⟨Try.f94,[],true⟩
theorem aGV (x1:Int) (x2:Int):Tri Try.prog 94 [(.int .i64 x1),(.int .u8 x2)] [] (.bool (iJ x1 x2)) []:=by
 obtain⟨r,h⟩:∃r,iJ x1 x2=r:=⟨_,rfl⟩
 try rw[h]
 unfold iJ at h
 by_cases c0:ltI x2 64=true
 · rw[if_pos c0] at h
   by_cases c1:ltI x1 0=true
   · rw[if_pos c1] at h
     obtain rfl:=h
     exact Tri.of (x:=X94) aF aOK [dt,dt,dt,df,df,df] [⟨(nF c1)⟩,⟨(nF c1)⟩,⟨(nF c1)⟩,⟨c0⟩,⟨c0⟩,⟨c0⟩] (by kernel_rfl)
   rw[if_neg c1] at h;replace c1:=eqf c1
   obtain rfl:=h
   exact Tri.of (x:=X94) aF aOK [dt,dt,dt,dt,dt,dt] [⟨(nT c1)⟩,⟨(nT c1)⟩,⟨(nT c1)⟩,⟨c0⟩,⟨c0⟩,⟨c0⟩] (by kernel_rfl)
 rw[if_neg c0] at h;replace c0:=eqf c0
 obtain rfl:=h
 exact Tri.of (x:=X94) aF aOK [df,df,df,df,df,df] [⟨rF⟩,⟨rF⟩,⟨rF⟩,⟨c0⟩,⟨c0⟩,⟨c0⟩] (by kernel_rfl)
end Go.Ws

namespace Go.Ws
open Go.Proofs
set_option linter.unusedSimpArgs false
set_option linter.unusedVariables false
set_option maxRecDepth 1000000
set_option maxHeartbeats 4000000
noncomputable def X93:Ctx:=⟨Try.f93,[],true⟩
noncomputable def L93_1:Code:=at_ Try.f93 [1,0,1,4,5,1,0,4,1,1,1,1,4,5]
def S93_1 (x1:Ty8) (aU:Int × Int × Bool) (cR:Int) (dG:Int):St:=⟨mkT 81 [(0,(.sl 3 (List.map aA x1))),(3,(.int .i64 dG)),(4,(.hp 0 0)),(5,(.int .i64 cR))],[(.row [(.int .u8 aU.1),(.int .i64 aU.2.1),(.bool aU.2.2)])]⟩
def aGQ (x1:Ty8) (v93012_1:Int):St:=⟨mkT 81 [(0,(.sl 3 (List.map aA x1))),(3,(.int .i64 v93012_1))],[]⟩
def O93_1 (x1:Ty8) (aU:Int × Int × Bool) (y:(Sum (Int) (Bool))):GX:=match y with
 | .inl y=>.st (.exit 2) (aGQ x1 y)
 | .inr y=>.fin (.bool y) []
noncomputable def L93_0:Code:=at_ Try.f93 [1,0,1,4,5]
def S93_0 (x1:Ty8) (bU:Int):St:=⟨mkT 81 [(0,(.sl 3 (List.map aA x1))),(3,(.int .i64 bU))],[]⟩
def aOT:St:=⟨mkT 81 [],[]⟩
def O93_0 (x1:Ty8) (y:qG):GX:=match y with
 | .inl y=>.st (.exit 0) (aOT)
 | .inr y=>.fin (.bool y) []
def A93_0:Ans:=.norm 8 ⟨[(0,[]),(3,[]),(4,[]),(5,[])],[⟨.tmp 4,[],none⟩],false,[],[]⟩
theorem gU (x1:Ty8) (aU:Int × Int × Bool) (y:(Sum (Int) (Bool))):∀(k:Nat) (cR:Int) (dG:Int),d9 k x1 aU cR dG=some y→LT Try.prog X93 L93_1 (S93_1 x1 aU cR dG) (O93_1 x1 aU y)
 | 0,cR,dG,h=>by cases h
 | k+1,cR,dG,h=>by
  rw[d9] at h
  by_cases cL0:ltI cR (nI x1.length)=true
  · rw[if_pos cL0] at h
    let w4:List Prf:=[⟨cL0⟩,⟨(aJ aA x1)⟩]
    by_cases cL1:eqI cR dG=true
    · rw[if_pos cL1] at h
      exact LT.next aF (hs:=⟨[(0,[]),(3,[]),(4,[]),(5,[])],[⟨.tmp 4,[],none⟩],false,[],[]⟩) (es:=none) [.n x1.length,dt,df,df,df,df,df,df,df,df,df,df,df,df,df] ([⟨rF⟩,⟨rF⟩,⟨rF⟩,⟨rF⟩,⟨(nF cL1)⟩,⟨(nF cL1)⟩,⟨(nF cL1)⟩,⟨(nF cL1)⟩,⟨(nF cL1)⟩,⟨(nF cL1)⟩,⟨(nF cL1)⟩,⟨(nF cL1)⟩,⟨(nF cL1)⟩]++w4) (by kernel_rfl) (gU x1 aU y k (aL .i64 cR 1) dG h)
    rw[if_neg cL1] at h;replace cL1:=eqf cL1
    by_cases cL2:inI cR x1.length=true
    · rw[if_pos cL2] at h
      obtain⟨aBX,eL3,h⟩:=bsm h
      let u5:List Ans:=[.n x1.length,dt,dt,dt,dt,.n x1.length,dt,dt,.row [(.int .u8 aBX.1)],dt,dt,dt,dt]
      let w6:List Prf:=[⟨(nT cL1)⟩,⟨(nT cL1)⟩,⟨(nT cL1)⟩,⟨(nT cL1)⟩,⟨(aN (e:=aA) eL3 3 0 1 (by decide))⟩,⟨(nT cL1)⟩,⟨(nT cL1)⟩,⟨cL2⟩,⟨(aJ aA x1)⟩,⟨(nT cL1)⟩,⟨(nT cL1)⟩,⟨(nT cL1)⟩]++w4
      by_cases cL4:eqI aBX.1 aU.1=true
      · rw[if_pos cL4] at h
        by_cases cL5:aU.2.2=true
        · rw[if_pos cL5] at h
          obtain rfl:=osi h
          show LT _ _ _ _ (.fin (.bool false) [])
          exact LT.done aF (hs:=⟨[],[],false,[],[]⟩) (es:=none) (u5++[dt,dt,dt,dt]) ([⟨cL5⟩,⟨cL4⟩,⟨cL4⟩,⟨cL4⟩]++w6) (by kernel_rfl) (fun s h=>by cases h)
        rw[if_neg cL5] at h;replace cL5:=eqf cL5
        exact LT.next aF (hs:=⟨[(0,[]),(3,[]),(4,[]),(5,[])],[⟨.tmp 4,[],none⟩],false,[],[]⟩) (es:=none) (u5++[dt,dt,dt,df]) ([⟨cL5⟩,⟨cL4⟩,⟨cL4⟩,⟨cL4⟩]++w6) (by kernel_rfl) (gU x1 aU y k (aL .i64 cR 1) dG h)
      rw[if_neg cL4] at h;replace cL4:=eqf cL4
      exact LT.next aF (hs:=⟨[(0,[]),(3,[]),(4,[]),(5,[])],[⟨.tmp 4,[],none⟩],false,[],[]⟩) (es:=none) (u5++[df,df,df,df]) ([⟨rF⟩,⟨cL4⟩,⟨cL4⟩,⟨cL4⟩]++w6) (by kernel_rfl) (gU x1 aU y k (aL .i64 cR 1) dG h)
    rw[if_neg cL2] at h;replace cL2:=eqf cL2
    cases h
  rw[if_neg cL0] at h;replace cL0:=eqf cL0
  obtain rfl:=osi h
  show LT _ _ _ _ (.st (.exit 2) (aGQ x1 dG))
  exact LT.done aF (hs:=⟨[],[],false,[],[]⟩) (es:=(some ⟨[(0,[]),(3,[])],[],false,[],[]⟩)) [.n x1.length,df] [⟨cL0⟩,⟨(aJ aA x1)⟩] (by kernel_rfl) (fun s h=>by cases h)
theorem m7 (x1:Ty8) (y:qG):∀(k:Nat) (bU:Int),fG k x1 bU=some y→LT Try.prog X93 L93_0 (S93_0 x1 bU) (O93_0 x1 y)
 | 0,bU,h=>by cases h
 | k+1,bU,h=>by
  rw[fG] at h
  by_cases cL0:ltI bU (nI x1.length)=true
  · rw[if_pos cL0] at h
    by_cases cL1:inI bU x1.length=true
    · rw[if_pos cL1] at h
      obtain⟨aU,eL2,h⟩:=bsm h
      let u11:List Ans:=[.n x1.length,dt,.n x1.length,.row [(.int .u8 aU.1),(.int .i64 aU.2.1),(.bool aU.2.2)],.call ⟨true,[]⟩ (.bool (iJ aU.2.1 aU.1)) []]
      let w12:List Prf:=[⟨(aGV aU.2.1 aU.1)⟩,⟨(aN (e:=aA) eL2 3 0 3 (by decide))⟩,⟨cL1⟩,⟨(aJ aA x1)⟩,⟨cL0⟩,⟨(aJ aA x1)⟩]
      by_cases cL3:(iJ aU.2.1 aU.1)=true
      · rw[if_pos cL3] at h
        by_cases cL4:ltI 0 bU=true
        · rw[if_pos cL4] at h
          by_cases cL5:inI (qF .i64 bU 1) x1.length=true
          · rw[if_pos cL5] at h
            obtain⟨lP,eL6,h⟩:=bsm h
            let u15:List Ans:=u11++[df,dt,dt,dt,dt,.n x1.length,dt,dt,.row [(.int .u8 lP.1)],dt,dt,dt,dt]
            let w16:List Prf:=[⟨cL4⟩,⟨cL4⟩,⟨cL4⟩,⟨cL4⟩,⟨(aN (e:=aA) eL6 3 0 1 (by decide))⟩,⟨cL4⟩,⟨cL4⟩,⟨cL5⟩,⟨(aJ aA x1)⟩,⟨cL4⟩,⟨cL4⟩,⟨cL4⟩,⟨cL4⟩,⟨(nF cL3)⟩]++w12
            by_cases cL7:ltI lP.1 aU.1=true
            · rw[if_pos cL7] at h
              let u17:List Ans:=u15++[dt,dt,dt,dt,dt,dt,dt,dt,dt,dt,dt,dt,dt,dt,dt,df,A93_0]
              let w18:List Prf:=[⟨(nF rfl)⟩,⟨cL4⟩,⟨cL4⟩,⟨cL7⟩,⟨cL4⟩,⟨cL7⟩,⟨cL7⟩,⟨cL7⟩,⟨cL7⟩,⟨cL7⟩,⟨cL7⟩,⟨cL7⟩,⟨cL7⟩,⟨cL7⟩,⟨cL7⟩,⟨cL7⟩]++w16
              obtain⟨lA,eL8,h⟩:=bsm h
              cases lA with
              | inl gB =>
               simp only[Sum.elim_inl] at h
               exact LT.next aF (hs:=⟨[(0,[]),(3,[])],[],false,[],[]⟩) (es:=none) (u17++[.out (.st .normal (aGQ x1 gB))]) ([⟨(LT.block (gU x1 aU _ k 0 bU eL8))⟩]++w18) (by kernel_rfl) (m7 x1 y k (aL .i64 gB 1) h)
              | inr gB =>
               simp only[Sum.elim_inr] at h
               obtain rfl:=osi h
               show LT _ _ _ _ (.fin (.bool gB) [])
               exact LT.done aF (hs:=⟨[],[],false,[],[]⟩) (es:=none) (u17++[.out (.fin (.bool gB) [])]) ([⟨(LT.blockFin (id:=2) (gU x1 aU _ k 0 bU eL8))⟩]++w18) (by kernel_rfl) (fun s h=>by cases h)
            rw[if_neg cL7] at h;replace cL7:=eqf cL7
            let u19:List Ans:=u15++[df,df,df,df,.n x1.length,df,df,.row [(.int .u8 lP.1)],df,df,df,df]
            let w20:List Prf:=[⟨cL7⟩,⟨cL7⟩,⟨cL7⟩,⟨cL7⟩,⟨(aN (e:=aA) eL6 3 0 1 (by decide))⟩,⟨cL7⟩,⟨cL7⟩,⟨cL5⟩,⟨(aJ aA x1)⟩,⟨cL7⟩,⟨cL7⟩,⟨cL7⟩,⟨cL7⟩]++w16
            by_cases cL8:eqI lP.1 aU.1=true
            · rw[if_pos cL8] at h
              let u21:List Ans:=u19++[dt,dt,dt,dt,.n x1.length,dt,dt,.row [(.int .i64 lP.2.1)],dt,dt,dt,df,dt,dt,df,dt,dt]
              let w22:List Prf:=[⟨cL4⟩,⟨cL4⟩,⟨cL7⟩,⟨cL4⟩,⟨cL8⟩,⟨cL7⟩,⟨cL8⟩,⟨cL8⟩,⟨cL8⟩,⟨(aN (e:=aA) eL6 3 1 1 (by decide))⟩,⟨cL8⟩,⟨cL8⟩,⟨cL5⟩,⟨(aJ aA x1)⟩,⟨cL8⟩,⟨cL8⟩,⟨cL8⟩,⟨cL8⟩]++w20
              by_cases cL9:ltI lP.2.1 aU.2.1=true
              · rw[if_pos cL9] at h
                obtain⟨lA,eL10,h⟩:=bsm h
                cases lA with
                | inl gB =>
                 simp only[Sum.elim_inl] at h
                 exact LT.next aF (hs:=⟨[(0,[]),(3,[])],[],false,[],[]⟩) (es:=none) (u21++[df,A93_0,.out (.st .normal (aGQ x1 gB))]) ([⟨(LT.block (gU x1 aU _ k 0 bU eL10))⟩,⟨(nF cL9)⟩]++w22) (by kernel_rfl) (m7 x1 y k (aL .i64 gB 1) h)
                | inr gB =>
                 simp only[Sum.elim_inr] at h
                 obtain rfl:=osi h
                 show LT _ _ _ _ (.fin (.bool gB) [])
                 exact LT.done aF (hs:=⟨[],[],false,[],[]⟩) (es:=none) (u21++[df,A93_0,.out (.fin (.bool gB) [])]) ([⟨(LT.blockFin (id:=2) (gU x1 aU _ k 0 bU eL10))⟩,⟨(nF cL9)⟩]++w22) (by kernel_rfl) (fun s h=>by cases h)
              rw[if_neg cL9] at h;replace cL9:=eqf cL9
              obtain rfl:=osi h
              show LT _ _ _ _ (.fin (.bool false) [])
              exact LT.done aF (hs:=⟨[],[],false,[],[]⟩) (es:=none) (u21++[dt]) ([⟨(nT cL9)⟩]++w22) (by kernel_rfl) (fun s h=>by cases h)
            rw[if_neg cL8] at h;replace cL8:=eqf cL8
            obtain rfl:=osi h
            show LT _ _ _ _ (.fin (.bool false) [])
            exact LT.done aF (hs:=⟨[],[],false,[],[]⟩) (es:=none) (u19++[df,df,df,df,df,df,df,df,df,df,df,dt,df,dt,dt,dt]) ([⟨(nT rfl)⟩,⟨cL4⟩,⟨cL4⟩,⟨cL7⟩,⟨cL4⟩,⟨cL8⟩,⟨cL7⟩,⟨cL8⟩,⟨cL8⟩,⟨cL8⟩,⟨cL8⟩,⟨cL8⟩,⟨cL8⟩,⟨cL8⟩,⟨cL8⟩,⟨cL8⟩]++w20) (by kernel_rfl) (fun s h=>by cases h)
          rw[if_neg cL5] at h;replace cL5:=eqf cL5
          cases h
        rw[if_neg cL4] at h;replace cL4:=eqf cL4
        let u25:List Ans:=u11++[df,df,df,df,df,df,df,df,df,df,df,df,df,df,df,A93_0]
        let w26:List Prf:=[⟨rF⟩,⟨cL4⟩,⟨cL4⟩,⟨cL4⟩,⟨cL4⟩,⟨cL4⟩,⟨cL4⟩,⟨cL4⟩,⟨cL4⟩,⟨cL4⟩,⟨cL4⟩,⟨cL4⟩,⟨cL4⟩,⟨cL4⟩,⟨(nF cL3)⟩]++w12
        obtain⟨lP,eL5,h⟩:=bsm h
        cases lP with
        | inl lA =>
         simp only[Sum.elim_inl] at h
         exact LT.next aF (hs:=⟨[(0,[]),(3,[])],[],false,[],[]⟩) (es:=none) (u25++[.out (.st .normal (aGQ x1 lA))]) ([⟨(LT.block (gU x1 aU _ k 0 bU eL5))⟩]++w26) (by kernel_rfl) (m7 x1 y k (aL .i64 lA 1) h)
        | inr lA =>
         simp only[Sum.elim_inr] at h
         obtain rfl:=osi h
         show LT _ _ _ _ (.fin (.bool lA) [])
         exact LT.done aF (hs:=⟨[],[],false,[],[]⟩) (es:=none) (u25++[.out (.fin (.bool lA) [])]) ([⟨(LT.blockFin (id:=2) (gU x1 aU _ k 0 bU eL5))⟩]++w26) (by kernel_rfl) (fun s h=>by cases h)
      rw[if_neg cL3] at h;replace cL3:=eqf cL3
      obtain rfl:=osi h
      show LT _ _ _ _ (.fin (.bool false) [])
      exact LT.done aF (hs:=⟨[],[],false,[],[]⟩) (es:=none) (u11++[dt]) ([⟨(nT cL3)⟩]++w12) (by kernel_rfl) (fun s h=>by cases h)
    rw[if_neg cL1] at h;replace cL1:=eqf cL1
    cases h
  rw[if_neg cL0] at h;replace cL0:=eqf cL0
  obtain rfl:=osi h
  show LT _ _ _ _ (.st (.exit 0) (aOT))
  exact LT.done aF (hs:=⟨[],[],false,[],[]⟩) (es:=(some ⟨[],[],false,[],[]⟩)) [.n x1.length,df] [⟨cL0⟩,⟨(aJ aA x1)⟩] (by kernel_rfl) (fun s h=>by cases h)
theorem aDY (k:Nat) (x1:Ty8) (r:Bool) (h:tI k x1=some r):Tri Try.prog 93 [(.sl 3 (List.map aA x1))] [] (.bool r) []:=by
 unfold tI at h
 obtain⟨x2,e0,h⟩:=bsm h
 cases x2 with
 | inl x3 =>
  simp only[Sum.elim_inl] at h
  obtain rfl:=osi h
  exact Tri.of (x:=X93) aF aWK [.norm 2 ⟨[(0,[]),(3,[])],[],false,[],[]⟩,.out (.st .normal (aOT))] [⟨(LT.block (m7 x1 _ k 0 e0))⟩] (by kernel_rfl)
 | inr x3 =>
  simp only[Sum.elim_inr] at h
  obtain rfl:=osi h
  exact Tri.of (x:=X93) aF aWK [.norm 2 ⟨[(0,[]),(3,[])],[],false,[],[]⟩,.out (.fin (.bool x3) [])] [⟨(LT.blockFin (id:=0) (m7 x1 _ k 0 e0))⟩] (by kernel_rfl)
end Go.Ws

namespace Go.Ws
open Go.Proofs
set_option linter.unusedSimpArgs false
set_option linter.unusedVariables false
set_option maxRecDepth 1000000
set_option maxHeartbeats 4000000
noncomputable def X95:Ctx:=⟨Try.f95,[],true⟩
noncomputable def L95_0:Code:=at_ Try.f95 [1,0,1,4,5]
def S95_0 (x1:Ty8) (x2:Int) (x3:Int) (dS:Int):St:=⟨mkT 35 [(0,(.sl 3 (List.map aA x1))),(1,(.int .i64 x2)),(2,(.int .u8 x3)),(7,(.int .i64 dS))],[]⟩
def aQX:St:=⟨mkT 35 [],[]⟩
def O95_0 (x1:Ty8) (x2:Int) (x3:Int) (y:(Sum (Unit) (Int))):GX:=match y with
 | .inl y=>.st (.exit 0) (aQX)
 | .inr y=>.fin (.int .i64 y) []
theorem qD (x1:Ty8) (x2:Int) (x3:Int) (y:(Sum (Unit) (Int))):∀(k:Nat) (dS:Int),f5 k x1 x2 x3 dS=some y→LT Try.prog X95 L95_0 (S95_0 x1 x2 x3 dS) (O95_0 x1 x2 x3 y)
 | 0,dS,h=>by cases h
 | k+1,dS,h=>by
  rw[f5] at h
  by_cases cL0:ltI dS (nI x1.length)=true
  · rw[if_pos cL0] at h
    by_cases cL1:inI dS x1.length=true
    · rw[if_pos cL1] at h
      obtain⟨nJ,eL2,h⟩:=bsm h
      let u3:List Ans:=[.n x1.length,dt,.n x1.length,.row [(.int .u8 nJ.1)]]
      let w4:List Prf:=[⟨(aN (e:=aA) eL2 3 0 1 (by decide))⟩,⟨cL1⟩,⟨(aJ aA x1)⟩,⟨cL0⟩,⟨(aJ aA x1)⟩]
      by_cases cL3:eqI nJ.1 x3=true
      · rw[if_pos cL3] at h
        let u5:List Ans:=u3++[dt,dt,dt,.n x1.length,dt,dt,.row [(.int .i64 nJ.2.1)],dt,dt,dt]
        let w6:List Prf:=[⟨cL3⟩,⟨cL3⟩,⟨cL3⟩,⟨(aN (e:=aA) eL2 3 1 1 (by decide))⟩,⟨cL3⟩,⟨cL3⟩,⟨cL1⟩,⟨(aJ aA x1)⟩,⟨cL3⟩,⟨cL3⟩,⟨cL3⟩]++w4
        by_cases cL4:eqI nJ.2.1 x2=true
        · rw[if_pos cL4] at h
          let u7:List Ans:=u5++[dt,.n x1.length,.row [(.bool nJ.2.2)]]
          let w8:List Prf:=[⟨(aN (e:=aA) eL2 3 2 1 (by decide))⟩,⟨cL1⟩,⟨(aJ aA x1)⟩,⟨cL4⟩]++w6
          by_cases cL5:nJ.2.2=true
          · rw[if_pos cL5] at h
            obtain rfl:=osi h
            show LT _ _ _ _ (.fin (.int .i64 2) [])
            exact LT.done aF (hs:=⟨[],[],false,[],[]⟩) (es:=none) (u7++[dt]) ([⟨cL5⟩]++w8) (by kernel_rfl) (fun s h=>by cases h)
          rw[if_neg cL5] at h;replace cL5:=eqf cL5
          obtain rfl:=osi h
          show LT _ _ _ _ (.fin (.int .i64 1) [])
          exact LT.done aF (hs:=⟨[],[],false,[],[]⟩) (es:=none) (u7++[df]) ([⟨cL5⟩]++w8) (by kernel_rfl) (fun s h=>by cases h)
        rw[if_neg cL4] at h;replace cL4:=eqf cL4
        exact LT.next aF (hs:=⟨[(0,[]),(1,[]),(2,[]),(7,[])],[],false,[],[]⟩) (es:=none) (u5++[df]) ([⟨cL4⟩]++w6) (by kernel_rfl) (qD x1 x2 x3 y k (aL .i64 dS 1) h)
      rw[if_neg cL3] at h;replace cL3:=eqf cL3
      exact LT.next aF (hs:=⟨[(0,[]),(1,[]),(2,[]),(7,[])],[],false,[],[]⟩) (es:=none) (u3++[df,df,df,df,df,df,df,df,df]) ([⟨rF⟩,⟨cL3⟩,⟨cL3⟩,⟨cL3⟩,⟨cL3⟩,⟨cL3⟩,⟨cL3⟩,⟨cL3⟩,⟨cL3⟩]++w4) (by kernel_rfl) (qD x1 x2 x3 y k (aL .i64 dS 1) h)
    rw[if_neg cL1] at h;replace cL1:=eqf cL1
    cases h
  rw[if_neg cL0] at h;replace cL0:=eqf cL0
  obtain rfl:=osi h
  show LT _ _ _ _ (.st (.exit 0) (aQX))
  exact LT.done aF (hs:=⟨[],[],false,[],[]⟩) (es:=(some ⟨[],[],false,[],[]⟩)) [.n x1.length,df] [⟨cL0⟩,⟨(aJ aA x1)⟩] (by kernel_rfl) (fun s h=>by cases h)
theorem aKO (k:Nat) (x1:Ty8) (x2:Int) (x3:Int) (r:Int) (h:tF k x1 x2 x3=some r):Tri Try.prog 95 [(.sl 3 (List.map aA x1)),(.int .i64 x2),(.int .u8 x3)] [] (.int .i64 r) []:=by
 unfold tF at h
 obtain⟨x4,e0,h⟩:=bsm h
 cases x4 with
 | inl x5 =>
  simp only[Sum.elim_inl] at h
  obtain rfl:=osi h
  exact Tri.of (x:=X95) aF aWW [.norm 2 ⟨[(0,[]),(1,[]),(2,[]),(7,[])],[],false,[],[]⟩,.out (.st .normal (aQX))] [⟨(LT.block (qD x1 x2 x3 _ k 0 e0))⟩] (by kernel_rfl)
 | inr x5 =>
  simp only[Sum.elim_inr] at h
  obtain rfl:=osi h
  exact Tri.of (x:=X95) aF aWW [.norm 2 ⟨[(0,[]),(1,[]),(2,[]),(7,[])],[],false,[],[]⟩,.out (.fin (.int .i64 x5) [])] [⟨(LT.blockFin (id:=0) (qD x1 x2 x3 _ k 0 e0))⟩] (by kernel_rfl)
end Go.Ws

namespace Go.Ws
open Go.Proofs
set_option linter.unusedSimpArgs false
set_option linter.unusedVariables false
set_option maxRecDepth 1000000
set_option maxHeartbeats 4000000
noncomputable def X79:Ctx:=⟨Try.f79,[],true⟩
noncomputable def L79_1:Code:=at_ Try.f79 [1,1,1,1,1,1,0,1,4,5]
def S79_1 (x1:Ty8) (x2:Int) (x3:Int) (bM:Bool) (aR:Int) (aD:Ty8) (aG:Bool):St:=⟨mkT 138 [(0,(.sl 3 (List.map aA x1))),(1,(.int .i64 x2)),(2,(.int .u8 x3)),(11,(.hp 0 0)),(12,(.ref 3 1 0 0 aD.length .virt)),(13,(.bool bM)),(14,(.int .i64 aR))],[(.row [(.int .u8 x3),(.int .i64 x2),(.bool aG)]),(.arr 3 (List.map aA aD) 0 0 false)]⟩
def aKI (x2:Int) (x3:Int) (v79012_1:Bool) (v79012_2:Bool) (aS6:Ty8):St:=⟨mkT 138 [(11,(.hp 0 0)),(12,(.ref 3 1 0 0 aS6.length .virt)),(13,(.bool v79012_1))],[(.row [(.int .u8 x3),(.int .i64 x2),(.bool v79012_2)]),(.arr 3 (List.map aA aS6) 0 0 false)]⟩
def O79_1 (x1:Ty8) (x2:Int) (x3:Int) (y:(Bool × Bool × Ty8)):GX:=.st (.exit 2) (aKI x2 x3 y.1 y.2.1 y.2.2)
noncomputable def L79_0:Code:=at_ Try.f79 [1,1,0,1,4,5]
def S79_0 (x1:Ty8) (x2:Int) (x3:Int) (x4:Bool) (dB:Int):St:=⟨mkT 138 [(0,(.sl 3 (List.map aA x1))),(1,(.int .i64 x2)),(2,(.int .u8 x3)),(3,(.bool x4)),(10,(.int .i64 dB))],[]⟩
def aQW (x1:Ty8) (x2:Int) (x3:Int) (x4:Bool):St:=⟨mkT 138 [(0,(.sl 3 (List.map aA x1))),(1,(.int .i64 x2)),(2,(.int .u8 x3)),(3,(.bool x4))],[]⟩
def O79_0 (x1:Ty8) (x2:Int) (x3:Int) (x4:Bool) (y:(Sum (Unit) (Ty8 × Int))):GX:=match y with
 | .inl y=>.st (.exit 0) (aQW x1 x2 x3 x4)
 | .inr y=>.fin (.tup [(.sl 3 (List.map aA y.1)),(.int .i64 y.2)]) []
def aFJ (aE:Int × Int × Bool):Ans:=.row [(.int .u8 aE.1),(.int .i64 aE.2.1),(.bool aE.2.2)]
def aC0 (aE:Int × Int × Bool) (aD:Ty8):Ans:=.rows (List.map aA (aD++[aE]))
def aI5 (x2:Int) (x3:Int) (aE:Int × Int × Bool) (aD:Ty8) (aG:Bool):Ans:=.rows (List.map aA ((aD++[(x3,x2,aG)])++[aE]))
def A79_3:Ans:=.norm 2 ⟨[(0,[]),(1,[]),(2,[]),(3,[]),(10,[])],[],false,[],[]⟩
def A79_4:Ans:=.norm 8 ⟨[(0,[]),(1,[]),(2,[]),(11,[]),(12,[]),(13,[]),(14,[])],[⟨.tmp 11,[],none⟩,⟨.tmp 12,[],some 3⟩],false,[],[]⟩
theorem cH (x1:Ty8) (x2:Int) (x3:Int) (y:(Bool × Bool × Ty8)):∀(k:Nat) (bM:Bool) (aR:Int) (aD:Ty8) (aG:Bool),bQ k x1 x2 x3 bM aR aD aG=some y→LT Try.prog X79 L79_1 (S79_1 x1 x2 x3 bM aR aD aG) (O79_1 x1 x2 x3 y)
 | 0,bM,aR,aD,aG,h=>by cases h
 | k+1,bM,aR,aD,aG,h=>by
  rw[bQ] at h
  by_cases cL0:ltI aR (nI x1.length)=true
  · rw[if_pos cL0] at h
    let w4:List Prf:=[⟨cL0⟩,⟨(aJ aA x1)⟩]
    by_cases cL1:bM=true
    · rw[if_pos cL1] at h
      by_cases cL2:inI aR x1.length=true
      · rw[if_pos cL2] at h
        obtain⟨aE,eL3,h⟩:=bsm h
        let u5:List Ans:=[.n x1.length,dt,df,df,df,df,df,df,df,df,df,df,df,.n x1.length,.row [(.int .u8 aE.1)]]
        let w6:List Prf:=[⟨(aN (e:=aA) eL3 3 0 1 (by decide))⟩,⟨cL2⟩,⟨(aJ aA x1)⟩,⟨rF⟩,⟨(nF cL1)⟩,⟨(nF cL1)⟩,⟨(nF cL1)⟩,⟨(nF cL1)⟩,⟨(nF cL1)⟩,⟨(nF cL1)⟩,⟨(nF cL1)⟩,⟨(nF cL1)⟩,⟨(nF cL1)⟩,⟨(nF cL1)⟩]++w4
        by_cases cL4:eqI aE.1 x3=true
        · rw[if_pos cL4] at h
          let u7:List Ans:=u5++[df,df,df,.n x1.length,df,df,.row [(.int .i64 aE.2.1)],df,df,df]
          let w8:List Prf:=[⟨(nF cL4)⟩,⟨(nF cL4)⟩,⟨(nF cL4)⟩,⟨(aN (e:=aA) eL3 3 1 1 (by decide))⟩,⟨(nF cL4)⟩,⟨(nF cL4)⟩,⟨cL2⟩,⟨(aJ aA x1)⟩,⟨(nF cL4)⟩,⟨(nF cL4)⟩,⟨(nF cL4)⟩]++w6
          by_cases cL5:eqI aE.2.1 x2=true
          · rw[if_pos cL5] at h
            exact LT.next aF (hs:=⟨[(0,[]),(1,[]),(2,[]),(11,[]),(12,[]),(13,[]),(14,[])],[⟨.tmp 11,[],none⟩,⟨.tmp 12,[],some 3⟩],false,[],[]⟩) (es:=none) (u7++[df,.n aD.length,.rows (List.map aA aD)]) ([⟨(bK aA (l:=aD) (n:=aD.length) rfl)⟩,⟨(rfl:aD.length=aD.length)⟩,⟨(zle aD.length)⟩,⟨(nF cL5)⟩]++w8) (by kernel_rfl) (cH x1 x2 x3 y k bM (aL .i64 aR 1) aD aG h)
          rw[if_neg cL5] at h;replace cL5:=eqf cL5
          by_cases cL6:bC (((aD++[aE]).length)*24)=true
          · rw[if_pos cL6] at h
            exact LT.next aF (hs:=⟨[(0,[]),(1,[]),(2,[]),(11,[]),(12,[]),(13,[]),(14,[])],[⟨.tmp 11,[],none⟩,⟨.tmp 12,[],some 3⟩],false,[],[]⟩) (es:=none) (u7++[dt,.n x1.length,(aFJ aE),.rows (List.map aA [aE]),.n ((aD++[aE]).length),.n aD.length,dt,(aC0 aE aD),.n ((aD++[aE]).length),(aC0 aE aD)]) ([⟨(bK aA (l:=(aD++[aE])) (n:=((aD++[aE]).length)) rfl)⟩,⟨(rfl:(aD++[aE]).length=(aD++[aE]).length)⟩,⟨(zle ((aD++[aE]).length))⟩,⟨(hU aA aD [aE])⟩,⟨(fO aD.length)⟩,⟨(aJ aA aD)⟩,⟨cL6⟩,⟨(by simp only[wl,List.length_map,List.map_nil,List.map_cons]<;>omega:aD.length+(List.map aA [aE]).length=(aD++[aE]).length)⟩,⟨(aV aA (l:=[aE]) (n:=1) rfl)⟩,⟨(bV aA (Nat.le_refl 1):0+1≤(List.map aA [aE]).length)⟩,⟨(aN (e:=aA) eL3 3 0 3 (by decide))⟩,⟨cL2⟩,⟨(aJ aA x1)⟩,⟨(nT cL5)⟩]++w8) (by kernel_rfl) (cH x1 x2 x3 y k bM (aL .i64 aR 1) (aD++[aE]) aG h)
          rw[if_neg cL6] at h;replace cL6:=eqf cL6
          cases h
        rw[if_neg cL4] at h;replace cL4:=eqf cL4
        by_cases cL5:bC (((aD++[aE]).length)*24)=true
        · rw[if_pos cL5] at h
          exact LT.next aF (hs:=⟨[(0,[]),(1,[]),(2,[]),(11,[]),(12,[]),(13,[]),(14,[])],[⟨.tmp 11,[],none⟩,⟨.tmp 12,[],some 3⟩],false,[],[]⟩) (es:=none) (u5++[dt,dt,dt,dt,dt,dt,dt,dt,dt,.n x1.length,(aFJ aE),.rows (List.map aA [aE]),.n ((aD++[aE]).length),.n aD.length,dt,(aC0 aE aD),.n ((aD++[aE]).length),(aC0 aE aD)]) ([⟨(bK aA (l:=(aD++[aE])) (n:=((aD++[aE]).length)) rfl)⟩,⟨(rfl:(aD++[aE]).length=(aD++[aE]).length)⟩,⟨(zle ((aD++[aE]).length))⟩,⟨(hU aA aD [aE])⟩,⟨(fO aD.length)⟩,⟨(aJ aA aD)⟩,⟨cL5⟩,⟨(by simp only[wl,List.length_map,List.map_nil,List.map_cons]<;>omega:aD.length+(List.map aA [aE]).length=(aD++[aE]).length)⟩,⟨(aV aA (l:=[aE]) (n:=1) rfl)⟩,⟨(bV aA (Nat.le_refl 1):0+1≤(List.map aA [aE]).length)⟩,⟨(aN (e:=aA) eL3 3 0 3 (by decide))⟩,⟨cL2⟩,⟨(aJ aA x1)⟩,⟨rT⟩,⟨(nT cL4)⟩,⟨(nT cL4)⟩,⟨(nT cL4)⟩,⟨(nT cL4)⟩,⟨(nT cL4)⟩,⟨(nT cL4)⟩,⟨(nT cL4)⟩,⟨(nT cL4)⟩]++w6) (by kernel_rfl) (cH x1 x2 x3 y k bM (aL .i64 aR 1) (aD++[aE]) aG h)
        rw[if_neg cL5] at h;replace cL5:=eqf cL5
        cases h
      rw[if_neg cL2] at h;replace cL2:=eqf cL2
      cases h
    rw[if_neg cL1] at h;replace cL1:=eqf cL1
    by_cases cL2:inI aR x1.length=true
    · rw[if_pos cL2] at h
      obtain⟨aE,eL3,h⟩:=bsm h
      let u9:List Ans:=[.n x1.length,dt,dt,dt,dt,dt,.n x1.length,dt,dt,.row [(.int .u8 aE.1)],dt,dt]
      let w10:List Prf:=[⟨(nT cL1)⟩,⟨(nT cL1)⟩,⟨(aN (e:=aA) eL3 3 0 1 (by decide))⟩,⟨(nT cL1)⟩,⟨(nT cL1)⟩,⟨cL2⟩,⟨(aJ aA x1)⟩,⟨(nT cL1)⟩,⟨(nT cL1)⟩,⟨(nT cL1)⟩,⟨(nT cL1)⟩]++w4
      by_cases cL4:ltI x3 aE.1=true
      · rw[if_pos cL4] at h
        by_cases cL5:bC (((aD++[(x3,x2,aG)]).length)*24)=true
        · rw[if_pos cL5] at h
          let u11:List Ans:=u9++[dt,dt,dt,dt,dt,dt,dt,dt,dt,dt,dt,dt,dt,.rows (List.map aA [(x3,x2,aG)]),.n ((aD++[(x3,x2,aG)]).length),.n aD.length,dt,.rows (List.map aA (aD++[(x3,x2,aG)])),.n x1.length,.row [(.int .u8 aE.1)]]
          let w12:List Prf:=[⟨(aN (e:=aA) eL3 3 0 1 (by decide))⟩,⟨cL2⟩,⟨(aJ aA x1)⟩,⟨(hU aA aD [(x3,x2,aG)])⟩,⟨(fO aD.length)⟩,⟨(aJ aA aD)⟩,⟨cL5⟩,⟨(by simp only[wl,List.length_map,List.map_nil,List.map_cons]<;>omega:aD.length+(List.map aA [(x3,x2,aG)]).length=(aD++[(x3,x2,aG)]).length)⟩,⟨(aV aA (l:=[(x3,x2,aG)]) (n:=1) rfl)⟩,⟨(bV aA (Nat.le_refl 1):0+1≤(List.map aA [(x3,x2,aG)]).length)⟩,⟨rT⟩,⟨(nT cL1)⟩,⟨cL4⟩,⟨(nT cL1)⟩,⟨cL4⟩,⟨cL4⟩,⟨cL4⟩,⟨cL4⟩,⟨cL4⟩,⟨cL4⟩,⟨cL4⟩,⟨cL4⟩,⟨cL4⟩]++w10
          by_cases cL6:eqI aE.1 x3=true
          · rw[if_pos cL6] at h
            let u13:List Ans:=u11++[df,df,df,.n x1.length,df,df,.row [(.int .i64 aE.2.1)],df,df,df]
            let w14:List Prf:=[⟨(nF cL6)⟩,⟨(nF cL6)⟩,⟨(nF cL6)⟩,⟨(aN (e:=aA) eL3 3 1 1 (by decide))⟩,⟨(nF cL6)⟩,⟨(nF cL6)⟩,⟨cL2⟩,⟨(aJ aA x1)⟩,⟨(nF cL6)⟩,⟨(nF cL6)⟩,⟨(nF cL6)⟩]++w12
            by_cases cL7:eqI aE.2.1 x2=true
            · rw[if_pos cL7] at h
              exact LT.next aF (hs:=⟨[(0,[]),(1,[]),(2,[]),(11,[]),(12,[]),(13,[]),(14,[])],[⟨.tmp 11,[],none⟩,⟨.tmp 12,[],some 3⟩],false,[],[]⟩) (es:=none) (u13++[df,.n ((aD++[(x3,x2,aG)]).length),.rows (List.map aA (aD++[(x3,x2,aG)]))]) ([⟨(bK aA (l:=(aD++[(x3,x2,aG)])) (n:=((aD++[(x3,x2,aG)]).length)) rfl)⟩,⟨(rfl:(aD++[(x3,x2,aG)]).length=(aD++[(x3,x2,aG)]).length)⟩,⟨(zle ((aD++[(x3,x2,aG)]).length))⟩,⟨(nF cL7)⟩]++w14) (by kernel_rfl) (cH x1 x2 x3 y k true (aL .i64 aR 1) (aD++[(x3,x2,aG)]) aG h)
            rw[if_neg cL7] at h;replace cL7:=eqf cL7
            by_cases cL8:bC ((((aD++[(x3,x2,aG)])++[aE]).length)*24)=true
            · rw[if_pos cL8] at h
              exact LT.next aF (hs:=⟨[(0,[]),(1,[]),(2,[]),(11,[]),(12,[]),(13,[]),(14,[])],[⟨.tmp 11,[],none⟩,⟨.tmp 12,[],some 3⟩],false,[],[]⟩) (es:=none) (u13++[dt,.n x1.length,(aFJ aE),.rows (List.map aA [aE]),.n (((aD++[(x3,x2,aG)])++[aE]).length),.n ((aD++[(x3,x2,aG)]).length),dt,(aI5 x2 x3 aE aD aG),.n (((aD++[(x3,x2,aG)])++[aE]).length),(aI5 x2 x3 aE aD aG)]) ([⟨(bK aA (l:=((aD++[(x3,x2,aG)])++[aE])) (n:=(((aD++[(x3,x2,aG)])++[aE]).length)) rfl)⟩,⟨(rfl:((aD++[(x3,x2,aG)])++[aE]).length=((aD++[(x3,x2,aG)])++[aE]).length)⟩,⟨(zle (((aD++[(x3,x2,aG)])++[aE]).length))⟩,⟨(hU aA (aD++[(x3,x2,aG)]) [aE])⟩,⟨(fO ((aD++[(x3,x2,aG)]).length))⟩,⟨(aJ aA (aD++[(x3,x2,aG)]))⟩,⟨cL8⟩,⟨(by simp only[wl,List.length_map,List.map_nil,List.map_cons]<;>omega:((aD++[(x3,x2,aG)]).length)+(List.map aA [aE]).length=((aD++[(x3,x2,aG)])++[aE]).length)⟩,⟨(aV aA (l:=[aE]) (n:=1) rfl)⟩,⟨(bV aA (Nat.le_refl 1):0+1≤(List.map aA [aE]).length)⟩,⟨(aN (e:=aA) eL3 3 0 3 (by decide))⟩,⟨cL2⟩,⟨(aJ aA x1)⟩,⟨(nT cL7)⟩]++w14) (by kernel_rfl) (cH x1 x2 x3 y k true (aL .i64 aR 1) ((aD++[(x3,x2,aG)])++[aE]) aG h)
            rw[if_neg cL8] at h;replace cL8:=eqf cL8
            cases h
          rw[if_neg cL6] at h;replace cL6:=eqf cL6
          by_cases cL7:bC ((((aD++[(x3,x2,aG)])++[aE]).length)*24)=true
          · rw[if_pos cL7] at h
            exact LT.next aF (hs:=⟨[(0,[]),(1,[]),(2,[]),(11,[]),(12,[]),(13,[]),(14,[])],[⟨.tmp 11,[],none⟩,⟨.tmp 12,[],some 3⟩],false,[],[]⟩) (es:=none) (u11++[dt,dt,dt,dt,dt,dt,dt,dt,dt,.n x1.length,(aFJ aE),.rows (List.map aA [aE]),.n (((aD++[(x3,x2,aG)])++[aE]).length),.n ((aD++[(x3,x2,aG)]).length),dt,(aI5 x2 x3 aE aD aG),.n (((aD++[(x3,x2,aG)])++[aE]).length),(aI5 x2 x3 aE aD aG)]) ([⟨(bK aA (l:=((aD++[(x3,x2,aG)])++[aE])) (n:=(((aD++[(x3,x2,aG)])++[aE]).length)) rfl)⟩,⟨(rfl:((aD++[(x3,x2,aG)])++[aE]).length=((aD++[(x3,x2,aG)])++[aE]).length)⟩,⟨(zle (((aD++[(x3,x2,aG)])++[aE]).length))⟩,⟨(hU aA (aD++[(x3,x2,aG)]) [aE])⟩,⟨(fO ((aD++[(x3,x2,aG)]).length))⟩,⟨(aJ aA (aD++[(x3,x2,aG)]))⟩,⟨cL7⟩,⟨(by simp only[wl,List.length_map,List.map_nil,List.map_cons]<;>omega:((aD++[(x3,x2,aG)]).length)+(List.map aA [aE]).length=((aD++[(x3,x2,aG)])++[aE]).length)⟩,⟨(aV aA (l:=[aE]) (n:=1) rfl)⟩,⟨(bV aA (Nat.le_refl 1):0+1≤(List.map aA [aE]).length)⟩,⟨(aN (e:=aA) eL3 3 0 3 (by decide))⟩,⟨cL2⟩,⟨(aJ aA x1)⟩,⟨rT⟩,⟨(nT cL6)⟩,⟨(nT cL6)⟩,⟨(nT cL6)⟩,⟨(nT cL6)⟩,⟨(nT cL6)⟩,⟨(nT cL6)⟩,⟨(nT cL6)⟩,⟨(nT cL6)⟩]++w12) (by kernel_rfl) (cH x1 x2 x3 y k true (aL .i64 aR 1) ((aD++[(x3,x2,aG)])++[aE]) aG h)
          rw[if_neg cL7] at h;replace cL7:=eqf cL7
          cases h
        rw[if_neg cL5] at h;replace cL5:=eqf cL5
        cases h
      rw[if_neg cL4] at h;replace cL4:=eqf cL4
      let u15:List Ans:=u9++[df,df,df,df,.n x1.length,df,df,.row [(.int .u8 aE.1)],df,df]
      let w16:List Prf:=[⟨cL4⟩,⟨cL4⟩,⟨(aN (e:=aA) eL3 3 0 1 (by decide))⟩,⟨cL4⟩,⟨cL4⟩,⟨cL2⟩,⟨(aJ aA x1)⟩,⟨cL4⟩,⟨cL4⟩,⟨cL4⟩,⟨cL4⟩]++w10
      by_cases cL5:eqI x3 aE.1=true
      · rw[if_pos cL5] at h
        let u17:List Ans:=u15++[dt,dt,dt,dt,.n x1.length,dt,dt,.row [(.int .i64 aE.2.1)],dt,df,dt,dt,df,dt]
        let w18:List Prf:=[⟨(nT cL1)⟩,⟨cL4⟩,⟨(nT cL1)⟩,⟨cL5⟩,⟨cL4⟩,⟨cL5⟩,⟨(aN (e:=aA) eL3 3 1 1 (by decide))⟩,⟨cL5⟩,⟨cL5⟩,⟨cL2⟩,⟨(aJ aA x1)⟩,⟨cL5⟩,⟨cL5⟩,⟨cL5⟩,⟨cL5⟩]++w16
        by_cases cL6:ltI aE.2.1 x2=true
        · rw[if_pos cL6] at h
          let u19:List Ans:=u17++[df,.n x1.length,.row [(.int .u8 aE.1)]]
          let w20:List Prf:=[⟨(aN (e:=aA) eL3 3 0 1 (by decide))⟩,⟨cL2⟩,⟨(aJ aA x1)⟩,⟨(nF cL6)⟩]++w18
          by_cases cL7:eqI aE.1 x3=true
          · rw[if_pos cL7] at h
            let u21:List Ans:=u19++[df,df,df,.n x1.length,df,df,.row [(.int .i64 aE.2.1)],df,df,df]
            let w22:List Prf:=[⟨(nF cL7)⟩,⟨(nF cL7)⟩,⟨(nF cL7)⟩,⟨(aN (e:=aA) eL3 3 1 1 (by decide))⟩,⟨(nF cL7)⟩,⟨(nF cL7)⟩,⟨cL2⟩,⟨(aJ aA x1)⟩,⟨(nF cL7)⟩,⟨(nF cL7)⟩,⟨(nF cL7)⟩]++w20
            by_cases cL8:eqI aE.2.1 x2=true
            · rw[if_pos cL8] at h
              exact LT.next aF (hs:=⟨[(0,[]),(1,[]),(2,[]),(11,[]),(12,[]),(13,[]),(14,[])],[⟨.tmp 11,[],none⟩,⟨.tmp 12,[],some 3⟩],false,[],[]⟩) (es:=none) (u21++[df,.n aD.length,.rows (List.map aA aD)]) ([⟨(bK aA (l:=aD) (n:=aD.length) rfl)⟩,⟨(rfl:aD.length=aD.length)⟩,⟨(zle aD.length)⟩,⟨(nF cL8)⟩]++w22) (by kernel_rfl) (cH x1 x2 x3 y k bM (aL .i64 aR 1) aD aG h)
            rw[if_neg cL8] at h;replace cL8:=eqf cL8
            by_cases cL9:bC (((aD++[aE]).length)*24)=true
            · rw[if_pos cL9] at h
              exact LT.next aF (hs:=⟨[(0,[]),(1,[]),(2,[]),(11,[]),(12,[]),(13,[]),(14,[])],[⟨.tmp 11,[],none⟩,⟨.tmp 12,[],some 3⟩],false,[],[]⟩) (es:=none) (u21++[dt,.n x1.length,(aFJ aE),.rows (List.map aA [aE]),.n ((aD++[aE]).length),.n aD.length,dt,(aC0 aE aD),.n ((aD++[aE]).length),(aC0 aE aD)]) ([⟨(bK aA (l:=(aD++[aE])) (n:=((aD++[aE]).length)) rfl)⟩,⟨(rfl:(aD++[aE]).length=(aD++[aE]).length)⟩,⟨(zle ((aD++[aE]).length))⟩,⟨(hU aA aD [aE])⟩,⟨(fO aD.length)⟩,⟨(aJ aA aD)⟩,⟨cL9⟩,⟨(by simp only[wl,List.length_map,List.map_nil,List.map_cons]<;>omega:aD.length+(List.map aA [aE]).length=(aD++[aE]).length)⟩,⟨(aV aA (l:=[aE]) (n:=1) rfl)⟩,⟨(bV aA (Nat.le_refl 1):0+1≤(List.map aA [aE]).length)⟩,⟨(aN (e:=aA) eL3 3 0 3 (by decide))⟩,⟨cL2⟩,⟨(aJ aA x1)⟩,⟨(nT cL8)⟩]++w22) (by kernel_rfl) (cH x1 x2 x3 y k bM (aL .i64 aR 1) (aD++[aE]) aG h)
            rw[if_neg cL9] at h;replace cL9:=eqf cL9
            cases h
          rw[if_neg cL7] at h;replace cL7:=eqf cL7
          by_cases cL8:bC (((aD++[aE]).length)*24)=true
          · rw[if_pos cL8] at h
            exact LT.next aF (hs:=⟨[(0,[]),(1,[]),(2,[]),(11,[]),(12,[]),(13,[]),(14,[])],[⟨.tmp 11,[],none⟩,⟨.tmp 12,[],some 3⟩],false,[],[]⟩) (es:=none) (u19++[dt,dt,dt,dt,dt,dt,dt,dt,dt,.n x1.length,(aFJ aE),.rows (List.map aA [aE]),.n ((aD++[aE]).length),.n aD.length,dt,(aC0 aE aD),.n ((aD++[aE]).length),(aC0 aE aD)]) ([⟨(bK aA (l:=(aD++[aE])) (n:=((aD++[aE]).length)) rfl)⟩,⟨(rfl:(aD++[aE]).length=(aD++[aE]).length)⟩,⟨(zle ((aD++[aE]).length))⟩,⟨(hU aA aD [aE])⟩,⟨(fO aD.length)⟩,⟨(aJ aA aD)⟩,⟨cL8⟩,⟨(by simp only[wl,List.length_map,List.map_nil,List.map_cons]<;>omega:aD.length+(List.map aA [aE]).length=(aD++[aE]).length)⟩,⟨(aV aA (l:=[aE]) (n:=1) rfl)⟩,⟨(bV aA (Nat.le_refl 1):0+1≤(List.map aA [aE]).length)⟩,⟨(aN (e:=aA) eL3 3 0 3 (by decide))⟩,⟨cL2⟩,⟨(aJ aA x1)⟩,⟨rT⟩,⟨(nT cL7)⟩,⟨(nT cL7)⟩,⟨(nT cL7)⟩,⟨(nT cL7)⟩,⟨(nT cL7)⟩,⟨(nT cL7)⟩,⟨(nT cL7)⟩,⟨(nT cL7)⟩]++w20) (by kernel_rfl) (cH x1 x2 x3 y k bM (aL .i64 aR 1) (aD++[aE]) aG h)
          rw[if_neg cL8] at h;replace cL8:=eqf cL8
          cases h
        rw[if_neg cL6] at h;replace cL6:=eqf cL6
        by_cases cL7:bC (((aD++[(x3,x2,aG)]).length)*24)=true
        · rw[if_pos cL7] at h
          let u23:List Ans:=u17++[dt,.rows (List.map aA [(x3,x2,aG)]),.n ((aD++[(x3,x2,aG)]).length),.n aD.length,dt,.rows (List.map aA (aD++[(x3,x2,aG)])),.n x1.length,.row [(.int .u8 aE.1)]]
          let w24:List Prf:=[⟨(aN (e:=aA) eL3 3 0 1 (by decide))⟩,⟨cL2⟩,⟨(aJ aA x1)⟩,⟨(hU aA aD [(x3,x2,aG)])⟩,⟨(fO aD.length)⟩,⟨(aJ aA aD)⟩,⟨cL7⟩,⟨(by simp only[wl,List.length_map,List.map_nil,List.map_cons]<;>omega:aD.length+(List.map aA [(x3,x2,aG)]).length=(aD++[(x3,x2,aG)]).length)⟩,⟨(aV aA (l:=[(x3,x2,aG)]) (n:=1) rfl)⟩,⟨(bV aA (Nat.le_refl 1):0+1≤(List.map aA [(x3,x2,aG)]).length)⟩,⟨(nT cL6)⟩]++w18
          by_cases cL8:eqI aE.1 x3=true
          · rw[if_pos cL8] at h
            let u25:List Ans:=u23++[df,df,df,.n x1.length,df,df,.row [(.int .i64 aE.2.1)],df,df,df]
            let w26:List Prf:=[⟨(nF cL8)⟩,⟨(nF cL8)⟩,⟨(nF cL8)⟩,⟨(aN (e:=aA) eL3 3 1 1 (by decide))⟩,⟨(nF cL8)⟩,⟨(nF cL8)⟩,⟨cL2⟩,⟨(aJ aA x1)⟩,⟨(nF cL8)⟩,⟨(nF cL8)⟩,⟨(nF cL8)⟩]++w24
            by_cases cL9:eqI aE.2.1 x2=true
            · rw[if_pos cL9] at h
              exact LT.next aF (hs:=⟨[(0,[]),(1,[]),(2,[]),(11,[]),(12,[]),(13,[]),(14,[])],[⟨.tmp 11,[],none⟩,⟨.tmp 12,[],some 3⟩],false,[],[]⟩) (es:=none) (u25++[df,.n ((aD++[(x3,x2,aG)]).length),.rows (List.map aA (aD++[(x3,x2,aG)]))]) ([⟨(bK aA (l:=(aD++[(x3,x2,aG)])) (n:=((aD++[(x3,x2,aG)]).length)) rfl)⟩,⟨(rfl:(aD++[(x3,x2,aG)]).length=(aD++[(x3,x2,aG)]).length)⟩,⟨(zle ((aD++[(x3,x2,aG)]).length))⟩,⟨(nF cL9)⟩]++w26) (by kernel_rfl) (cH x1 x2 x3 y k true (aL .i64 aR 1) (aD++[(x3,x2,aG)]) aG h)
            rw[if_neg cL9] at h;replace cL9:=eqf cL9
            by_cases cL10:bC ((((aD++[(x3,x2,aG)])++[aE]).length)*24)=true
            · rw[if_pos cL10] at h
              exact LT.next aF (hs:=⟨[(0,[]),(1,[]),(2,[]),(11,[]),(12,[]),(13,[]),(14,[])],[⟨.tmp 11,[],none⟩,⟨.tmp 12,[],some 3⟩],false,[],[]⟩) (es:=none) (u25++[dt,.n x1.length,(aFJ aE),.rows (List.map aA [aE]),.n (((aD++[(x3,x2,aG)])++[aE]).length),.n ((aD++[(x3,x2,aG)]).length),dt,(aI5 x2 x3 aE aD aG),.n (((aD++[(x3,x2,aG)])++[aE]).length),(aI5 x2 x3 aE aD aG)]) ([⟨(bK aA (l:=((aD++[(x3,x2,aG)])++[aE])) (n:=(((aD++[(x3,x2,aG)])++[aE]).length)) rfl)⟩,⟨(rfl:((aD++[(x3,x2,aG)])++[aE]).length=((aD++[(x3,x2,aG)])++[aE]).length)⟩,⟨(zle (((aD++[(x3,x2,aG)])++[aE]).length))⟩,⟨(hU aA (aD++[(x3,x2,aG)]) [aE])⟩,⟨(fO ((aD++[(x3,x2,aG)]).length))⟩,⟨(aJ aA (aD++[(x3,x2,aG)]))⟩,⟨cL10⟩,⟨(by simp only[wl,List.length_map,List.map_nil,List.map_cons]<;>omega:((aD++[(x3,x2,aG)]).length)+(List.map aA [aE]).length=((aD++[(x3,x2,aG)])++[aE]).length)⟩,⟨(aV aA (l:=[aE]) (n:=1) rfl)⟩,⟨(bV aA (Nat.le_refl 1):0+1≤(List.map aA [aE]).length)⟩,⟨(aN (e:=aA) eL3 3 0 3 (by decide))⟩,⟨cL2⟩,⟨(aJ aA x1)⟩,⟨(nT cL9)⟩]++w26) (by kernel_rfl) (cH x1 x2 x3 y k true (aL .i64 aR 1) ((aD++[(x3,x2,aG)])++[aE]) aG h)
            rw[if_neg cL10] at h;replace cL10:=eqf cL10
            cases h
          rw[if_neg cL8] at h;replace cL8:=eqf cL8
          by_cases cL9:bC ((((aD++[(x3,x2,aG)])++[aE]).length)*24)=true
          · rw[if_pos cL9] at h
            exact LT.next aF (hs:=⟨[(0,[]),(1,[]),(2,[]),(11,[]),(12,[]),(13,[]),(14,[])],[⟨.tmp 11,[],none⟩,⟨.tmp 12,[],some 3⟩],false,[],[]⟩) (es:=none) (u23++[dt,dt,dt,dt,dt,dt,dt,dt,dt,.n x1.length,(aFJ aE),.rows (List.map aA [aE]),.n (((aD++[(x3,x2,aG)])++[aE]).length),.n ((aD++[(x3,x2,aG)]).length),dt,(aI5 x2 x3 aE aD aG),.n (((aD++[(x3,x2,aG)])++[aE]).length),(aI5 x2 x3 aE aD aG)]) ([⟨(bK aA (l:=((aD++[(x3,x2,aG)])++[aE])) (n:=(((aD++[(x3,x2,aG)])++[aE]).length)) rfl)⟩,⟨(rfl:((aD++[(x3,x2,aG)])++[aE]).length=((aD++[(x3,x2,aG)])++[aE]).length)⟩,⟨(zle (((aD++[(x3,x2,aG)])++[aE]).length))⟩,⟨(hU aA (aD++[(x3,x2,aG)]) [aE])⟩,⟨(fO ((aD++[(x3,x2,aG)]).length))⟩,⟨(aJ aA (aD++[(x3,x2,aG)]))⟩,⟨cL9⟩,⟨(by simp only[wl,List.length_map,List.map_nil,List.map_cons]<;>omega:((aD++[(x3,x2,aG)]).length)+(List.map aA [aE]).length=((aD++[(x3,x2,aG)])++[aE]).length)⟩,⟨(aV aA (l:=[aE]) (n:=1) rfl)⟩,⟨(bV aA (Nat.le_refl 1):0+1≤(List.map aA [aE]).length)⟩,⟨(aN (e:=aA) eL3 3 0 3 (by decide))⟩,⟨cL2⟩,⟨(aJ aA x1)⟩,⟨rT⟩,⟨(nT cL8)⟩,⟨(nT cL8)⟩,⟨(nT cL8)⟩,⟨(nT cL8)⟩,⟨(nT cL8)⟩,⟨(nT cL8)⟩,⟨(nT cL8)⟩,⟨(nT cL8)⟩]++w24) (by kernel_rfl) (cH x1 x2 x3 y k true (aL .i64 aR 1) ((aD++[(x3,x2,aG)])++[aE]) aG h)
          rw[if_neg cL9] at h;replace cL9:=eqf cL9
          cases h
        rw[if_neg cL7] at h;replace cL7:=eqf cL7
        cases h
      rw[if_neg cL5] at h;replace cL5:=eqf cL5
      let u27:List Ans:=u15++[df,df,df,df,df,df,df,df,df,dt,df,dt,df,.n x1.length,.row [(.int .u8 aE.1)]]
      let w28:List Prf:=[⟨(aN (e:=aA) eL3 3 0 1 (by decide))⟩,⟨cL2⟩,⟨(aJ aA x1)⟩,⟨rF⟩,⟨(nT cL1)⟩,⟨cL4⟩,⟨(nT cL1)⟩,⟨cL5⟩,⟨cL4⟩,⟨cL5⟩,⟨cL5⟩,⟨cL5⟩,⟨cL5⟩,⟨cL5⟩,⟨cL5⟩,⟨cL5⟩]++w16
      by_cases cL6:eqI aE.1 x3=true
      · rw[if_pos cL6] at h
        let u29:List Ans:=u27++[df,df,df,.n x1.length,df,df,.row [(.int .i64 aE.2.1)],df,df,df]
        let w30:List Prf:=[⟨(nF cL6)⟩,⟨(nF cL6)⟩,⟨(nF cL6)⟩,⟨(aN (e:=aA) eL3 3 1 1 (by decide))⟩,⟨(nF cL6)⟩,⟨(nF cL6)⟩,⟨cL2⟩,⟨(aJ aA x1)⟩,⟨(nF cL6)⟩,⟨(nF cL6)⟩,⟨(nF cL6)⟩]++w28
        by_cases cL7:eqI aE.2.1 x2=true
        · rw[if_pos cL7] at h
          exact LT.next aF (hs:=⟨[(0,[]),(1,[]),(2,[]),(11,[]),(12,[]),(13,[]),(14,[])],[⟨.tmp 11,[],none⟩,⟨.tmp 12,[],some 3⟩],false,[],[]⟩) (es:=none) (u29++[df,.n aD.length,.rows (List.map aA aD)]) ([⟨(bK aA (l:=aD) (n:=aD.length) rfl)⟩,⟨(rfl:aD.length=aD.length)⟩,⟨(zle aD.length)⟩,⟨(nF cL7)⟩]++w30) (by kernel_rfl) (cH x1 x2 x3 y k bM (aL .i64 aR 1) aD aG h)
        rw[if_neg cL7] at h;replace cL7:=eqf cL7
        by_cases cL8:bC (((aD++[aE]).length)*24)=true
        · rw[if_pos cL8] at h
          exact LT.next aF (hs:=⟨[(0,[]),(1,[]),(2,[]),(11,[]),(12,[]),(13,[]),(14,[])],[⟨.tmp 11,[],none⟩,⟨.tmp 12,[],some 3⟩],false,[],[]⟩) (es:=none) (u29++[dt,.n x1.length,(aFJ aE),.rows (List.map aA [aE]),.n ((aD++[aE]).length),.n aD.length,dt,(aC0 aE aD),.n ((aD++[aE]).length),(aC0 aE aD)]) ([⟨(bK aA (l:=(aD++[aE])) (n:=((aD++[aE]).length)) rfl)⟩,⟨(rfl:(aD++[aE]).length=(aD++[aE]).length)⟩,⟨(zle ((aD++[aE]).length))⟩,⟨(hU aA aD [aE])⟩,⟨(fO aD.length)⟩,⟨(aJ aA aD)⟩,⟨cL8⟩,⟨(by simp only[wl,List.length_map,List.map_nil,List.map_cons]<;>omega:aD.length+(List.map aA [aE]).length=(aD++[aE]).length)⟩,⟨(aV aA (l:=[aE]) (n:=1) rfl)⟩,⟨(bV aA (Nat.le_refl 1):0+1≤(List.map aA [aE]).length)⟩,⟨(aN (e:=aA) eL3 3 0 3 (by decide))⟩,⟨cL2⟩,⟨(aJ aA x1)⟩,⟨(nT cL7)⟩]++w30) (by kernel_rfl) (cH x1 x2 x3 y k bM (aL .i64 aR 1) (aD++[aE]) aG h)
        rw[if_neg cL8] at h;replace cL8:=eqf cL8
        cases h
      rw[if_neg cL6] at h;replace cL6:=eqf cL6
      by_cases cL7:bC (((aD++[aE]).length)*24)=true
      · rw[if_pos cL7] at h
        exact LT.next aF (hs:=⟨[(0,[]),(1,[]),(2,[]),(11,[]),(12,[]),(13,[]),(14,[])],[⟨.tmp 11,[],none⟩,⟨.tmp 12,[],some 3⟩],false,[],[]⟩) (es:=none) (u27++[dt,dt,dt,dt,dt,dt,dt,dt,dt,.n x1.length,(aFJ aE),.rows (List.map aA [aE]),.n ((aD++[aE]).length),.n aD.length,dt,(aC0 aE aD),.n ((aD++[aE]).length),(aC0 aE aD)]) ([⟨(bK aA (l:=(aD++[aE])) (n:=((aD++[aE]).length)) rfl)⟩,⟨(rfl:(aD++[aE]).length=(aD++[aE]).length)⟩,⟨(zle ((aD++[aE]).length))⟩,⟨(hU aA aD [aE])⟩,⟨(fO aD.length)⟩,⟨(aJ aA aD)⟩,⟨cL7⟩,⟨(by simp only[wl,List.length_map,List.map_nil,List.map_cons]<;>omega:aD.length+(List.map aA [aE]).length=(aD++[aE]).length)⟩,⟨(aV aA (l:=[aE]) (n:=1) rfl)⟩,⟨(bV aA (Nat.le_refl 1):0+1≤(List.map aA [aE]).length)⟩,⟨(aN (e:=aA) eL3 3 0 3 (by decide))⟩,⟨cL2⟩,⟨(aJ aA x1)⟩,⟨rT⟩,⟨(nT cL6)⟩,⟨(nT cL6)⟩,⟨(nT cL6)⟩,⟨(nT cL6)⟩,⟨(nT cL6)⟩,⟨(nT cL6)⟩,⟨(nT cL6)⟩,⟨(nT cL6)⟩]++w28) (by kernel_rfl) (cH x1 x2 x3 y k bM (aL .i64 aR 1) (aD++[aE]) aG h)
      rw[if_neg cL7] at h;replace cL7:=eqf cL7
      cases h
    rw[if_neg cL2] at h;replace cL2:=eqf cL2
    cases h
  rw[if_neg cL0] at h;replace cL0:=eqf cL0
  obtain rfl:=osi h
  show LT _ _ _ _ (.st (.exit 2) (aKI x2 x3 bM aG aD))
  exact LT.done aF (hs:=⟨[],[],false,[],[]⟩) (es:=(some ⟨[(11,[]),(12,[]),(13,[])],[⟨.tmp 11,[],none⟩,⟨.tmp 12,[],none⟩],false,[],[]⟩)) [.n x1.length,df] [⟨cL0⟩,⟨(aJ aA x1)⟩] (by kernel_rfl) (fun s h=>by cases h)
theorem oK (x1:Ty8) (x2:Int) (x3:Int) (x4:Bool) (y:(Sum (Unit) (Ty8 × Int))):∀(k:Nat) (dB:Int),gF k x1 x2 x3 x4 dB=some y→LT Try.prog X79 L79_0 (S79_0 x1 x2 x3 x4 dB) (O79_0 x1 x2 x3 x4 y)
 | 0,dB,h=>by cases h
 | k+1,dB,h=>by
  rw[gF] at h
  by_cases cL0:ltI dB (nI x1.length)=true
  · rw[if_pos cL0] at h
    by_cases cL1:inI dB x1.length=true
    · rw[if_pos cL1] at h
      obtain⟨nK,eL2,h⟩:=bsm h
      let u33:List Ans:=[.n x1.length,dt,.n x1.length,.row [(.int .u8 nK.1)]]
      let w34:List Prf:=[⟨(aN (e:=aA) eL2 3 0 1 (by decide))⟩,⟨cL1⟩,⟨(aJ aA x1)⟩,⟨cL0⟩,⟨(aJ aA x1)⟩]
      by_cases cL3:eqI nK.1 x3=true
      · rw[if_pos cL3] at h
        let u35:List Ans:=u33++[dt,dt,dt,.n x1.length,dt,dt,.row [(.int .i64 nK.2.1)],dt,dt,dt]
        let w36:List Prf:=[⟨cL3⟩,⟨cL3⟩,⟨cL3⟩,⟨(aN (e:=aA) eL2 3 1 1 (by decide))⟩,⟨cL3⟩,⟨cL3⟩,⟨cL1⟩,⟨(aJ aA x1)⟩,⟨cL3⟩,⟨cL3⟩,⟨cL3⟩]++w34
        by_cases cL4:eqI nK.2.1 x2=true
        · rw[if_pos cL4] at h
          exact LT.next aF (hs:=⟨[(0,[]),(1,[]),(2,[]),(3,[]),(10,[])],[],false,[],[]⟩) (es:=none) (u35++[df,df,df,df,df]) ([⟨rF⟩,⟨(nF cL4)⟩,⟨(nF cL4)⟩,⟨(nF cL4)⟩,⟨(nF cL4)⟩]++w36) (by kernel_rfl) (oK x1 x2 x3 x4 y k (aL .i64 dB 1) h)
        rw[if_neg cL4] at h;replace cL4:=eqf cL4
        by_cases cL5:x4=true
        · rw[if_pos cL5] at h
          obtain rfl:=osi h
          show LT _ _ _ _ (.fin (.tup [(.sl 3 (List.map aA ((x1,9).1))),(.int .i64 ((x1,9).2))]) [])
          exact LT.done aF (hs:=⟨[],[],false,[],[]⟩) (es:=none) (u35++[dt,dt,dt,dt,dt,dt,dt,dt,dt,dt,dt]) ([⟨rT⟩,⟨(nT cL4)⟩,⟨cL5⟩,⟨(nT cL4)⟩,⟨cL5⟩,⟨cL5⟩,⟨cL5⟩,⟨cL5⟩,⟨cL5⟩,⟨(nT cL4)⟩,⟨(nT cL4)⟩]++w36) (by kernel_rfl) (fun s h=>by cases h)
        rw[if_neg cL5] at h;replace cL5:=eqf cL5
        let u39:List Ans:=u35++[dt,dt,df,df,df,.n x1.length,df,df,.row [(.bool nK.2.2)],dt,df,dt]
        let w40:List Prf:=[⟨(nT cL4)⟩,⟨cL5⟩,⟨(nT cL4)⟩,⟨(aN (e:=aA) eL2 3 2 1 (by decide))⟩,⟨cL5⟩,⟨cL5⟩,⟨cL1⟩,⟨(aJ aA x1)⟩,⟨cL5⟩,⟨cL5⟩,⟨cL5⟩,⟨(nT cL4)⟩,⟨(nT cL4)⟩]++w36
        by_cases cL6:nK.2.2=true
        · rw[if_pos cL6] at h
          obtain rfl:=osi h
          show LT _ _ _ _ (.fin (.tup [(.sl 3 (List.map aA ((x1,9).1))),(.int .i64 ((x1,9).2))]) [])
          exact LT.done aF (hs:=⟨[],[],false,[],[]⟩) (es:=none) (u39++[dt]) ([⟨cL6⟩]++w40) (by kernel_rfl) (fun s h=>by cases h)
        rw[if_neg cL6] at h;replace cL6:=eqf cL6
        exact LT.next aF (hs:=⟨[(0,[]),(1,[]),(2,[]),(3,[]),(10,[])],[],false,[],[]⟩) (es:=none) (u39++[df]) ([⟨cL6⟩]++w40) (by kernel_rfl) (oK x1 x2 x3 x4 y k (aL .i64 dB 1) h)
      rw[if_neg cL3] at h;replace cL3:=eqf cL3
      exact LT.next aF (hs:=⟨[(0,[]),(1,[]),(2,[]),(3,[]),(10,[])],[],false,[],[]⟩) (es:=none) (u33++[df,df,df,df,df,df,df,df,df,df,df,df,df]) ([⟨rF⟩,⟨rF⟩,⟨rF⟩,⟨rF⟩,⟨rF⟩,⟨cL3⟩,⟨cL3⟩,⟨cL3⟩,⟨cL3⟩,⟨cL3⟩,⟨cL3⟩,⟨cL3⟩,⟨cL3⟩]++w34) (by kernel_rfl) (oK x1 x2 x3 x4 y k (aL .i64 dB 1) h)
    rw[if_neg cL1] at h;replace cL1:=eqf cL1
    cases h
  rw[if_neg cL0] at h;replace cL0:=eqf cL0
  obtain rfl:=osi h
  show LT _ _ _ _ (.st (.exit 0) (aQW x1 x2 x3 x4))
  exact LT.done aF (hs:=⟨[],[],false,[],[]⟩) (es:=(some ⟨[(0,[]),(1,[]),(2,[]),(3,[])],[],false,[],[]⟩)) [.n x1.length,df] [⟨cL0⟩,⟨(aJ aA x1)⟩] (by kernel_rfl) (fun s h=>by cases h)
theorem aMV (k:Nat) (x1:Ty8) (x2:Int) (x3:Int) (x4:Bool) (r:Ty8 × Int) (h:vH k x1 x2 x3 x4=some r):Tri Try.prog 79 [(.sl 3 (List.map aA x1)),(.int .i64 x2),(.int .u8 x3),(.bool x4)] [] (.tup [(.sl 3 (List.map aA r.1)),(.int .i64 r.2)]) []:=by
 unfold vH at h
 obtain⟨x5,e0,h⟩:=bsm h
 let u41:List Ans:=[.call ⟨true,[]⟩ (.bool x5) []]
 by_cases c1:x5=true
 · rw[if_pos c1] at h
   let u43:List Ans:=u41++[df,df,df,.call ⟨true,[]⟩ (.bool (iJ x2 x3)) [],df,df]
   let w44:List Prf:=[⟨(nF c1)⟩,⟨(nF c1)⟩,⟨(aGV x2 x3)⟩,⟨(nF c1)⟩,⟨(nF c1)⟩,⟨(nF c1)⟩,⟨(aDY k x1 _ e0)⟩]
   by_cases c2:(iJ x2 x3)=true
   · rw[if_pos c2] at h
     obtain⟨x6,e3,h⟩:=bsm h
     cases x6 with
     | inl x7 =>
      simp only[Sum.elim_inl] at h
      let u47:List Ans:=u43++[df,A79_3,.out (.st .normal (aQW x1 x2 x3 x4))]
      let w48:List Prf:=[⟨(LT.block (oK x1 x2 x3 x4 _ k 0 e3))⟩,⟨(nF c2)⟩]++w44
      by_cases c5:x4=true
      · rw[if_pos c5] at h
        obtain⟨x9,e6,h⟩:=bsm h
        let u49:List Ans:=u47++[dt,dt,dt,dt,dt,dt,A79_4,.n 0,.rows (List.map aA []),.out (.st .normal (aKI x2 x3 x9.1 x9.2.1 x9.2.2))]
        let w50:List Prf:=[⟨(LT.block (cH x1 x2 x3 _ k false 0 [] true e6))⟩,⟨(bK aA (l:=[]) (n:=0) rfl)⟩,⟨(rfl:0=0)⟩,⟨(zle 0)⟩,⟨c5⟩,⟨c5⟩,⟨c5⟩,⟨c5⟩,⟨c5⟩,⟨c5⟩]++w48
        by_cases c8:x9.1=true
        · rw[if_pos c8] at h
          obtain rfl:=osi h
          exact Tri.of (x:=X79) aF aCD (u49++[df,.rows (List.map aA x9.2.2)]) ([⟨(aV aA (l:=x9.2.2) (n:=x9.2.2.length) rfl)⟩,⟨(bV aA (Nat.le_refl x9.2.2.length):0+x9.2.2.length≤(List.map aA x9.2.2).length)⟩,⟨(nF c8)⟩]++w50) (by kernel_rfl)
        rw[if_neg c8] at h;replace c8:=eqf c8
        by_cases c9:bC (((x9.2.2++[(x3,x2,x9.2.1)]).length)*24)=true
        · rw[if_pos c9] at h
          obtain rfl:=osi h
          exact Tri.of (x:=X79) aF aCD (u49++[dt,.rows (List.map aA [(x3,x2,x9.2.1)]),.n ((x9.2.2++[(x3,x2,x9.2.1)]).length),.n x9.2.2.length,dt,.rows (List.map aA (x9.2.2++[(x3,x2,x9.2.1)])),.rows (List.map aA (x9.2.2++[(x3,x2,x9.2.1)]))]) ([⟨(aV aA (l:=(x9.2.2++[(x3,x2,x9.2.1)])) (n:=((x9.2.2++[(x3,x2,x9.2.1)]).length)) rfl)⟩,⟨(bV aA (Nat.le_refl ((x9.2.2++[(x3,x2,x9.2.1)]).length)):0+(x9.2.2++[(x3,x2,x9.2.1)]).length≤(List.map aA (x9.2.2++[(x3,x2,x9.2.1)])).length)⟩,⟨(hU aA x9.2.2 [(x3,x2,x9.2.1)])⟩,⟨(fO x9.2.2.length)⟩,⟨(aJ aA x9.2.2)⟩,⟨c9⟩,⟨(by simp only[wl,List.length_map,List.map_nil,List.map_cons]<;>omega:x9.2.2.length+(List.map aA [(x3,x2,x9.2.1)]).length=(x9.2.2++[(x3,x2,x9.2.1)]).length)⟩,⟨(aV aA (l:=[(x3,x2,x9.2.1)]) (n:=1) rfl)⟩,⟨(bV aA (Nat.le_refl 1):0+1≤(List.map aA [(x3,x2,x9.2.1)]).length)⟩,⟨(nT c8)⟩]++w50) (by kernel_rfl)
        rw[if_neg c9] at h;replace c9:=eqf c9
        cases h
      rw[if_neg c5] at h;replace c5:=eqf c5
      obtain⟨x8,e6,h⟩:=bsm h
      obtain⟨x10,e7,h⟩:=bsm h
      let u51:List Ans:=u47++[df,df,df,df,.call ⟨true,[]⟩ (.int .i64 x8) [],df,df,A79_4,.n 0,.rows (List.map aA []),.out (.st .normal (aKI x2 x3 x10.1 x10.2.1 x10.2.2))]
      let w52:List Prf:=[⟨(LT.block (cH x1 x2 x3 _ k false 0 [] (eqI x8 2) e7))⟩,⟨(bK aA (l:=[]) (n:=0) rfl)⟩,⟨(rfl:0=0)⟩,⟨(zle 0)⟩,⟨c5⟩,⟨c5⟩,⟨(aKO k x1 x2 x3 _ e6)⟩,⟨c5⟩,⟨c5⟩,⟨c5⟩,⟨c5⟩]++w48
      by_cases c9:x10.1=true
      · rw[if_pos c9] at h
        obtain rfl:=osi h
        exact Tri.of (x:=X79) aF aCD (u51++[df,.rows (List.map aA x10.2.2)]) ([⟨(aV aA (l:=x10.2.2) (n:=x10.2.2.length) rfl)⟩,⟨(bV aA (Nat.le_refl x10.2.2.length):0+x10.2.2.length≤(List.map aA x10.2.2).length)⟩,⟨(nF c9)⟩]++w52) (by kernel_rfl)
      rw[if_neg c9] at h;replace c9:=eqf c9
      by_cases c10:bC (((x10.2.2++[(x3,x2,x10.2.1)]).length)*24)=true
      · rw[if_pos c10] at h
        obtain rfl:=osi h
        exact Tri.of (x:=X79) aF aCD (u51++[dt,.rows (List.map aA [(x3,x2,x10.2.1)]),.n ((x10.2.2++[(x3,x2,x10.2.1)]).length),.n x10.2.2.length,dt,.rows (List.map aA (x10.2.2++[(x3,x2,x10.2.1)])),.rows (List.map aA (x10.2.2++[(x3,x2,x10.2.1)]))]) ([⟨(aV aA (l:=(x10.2.2++[(x3,x2,x10.2.1)])) (n:=((x10.2.2++[(x3,x2,x10.2.1)]).length)) rfl)⟩,⟨(bV aA (Nat.le_refl ((x10.2.2++[(x3,x2,x10.2.1)]).length)):0+(x10.2.2++[(x3,x2,x10.2.1)]).length≤(List.map aA (x10.2.2++[(x3,x2,x10.2.1)])).length)⟩,⟨(hU aA x10.2.2 [(x3,x2,x10.2.1)])⟩,⟨(fO x10.2.2.length)⟩,⟨(aJ aA x10.2.2)⟩,⟨c10⟩,⟨(by simp only[wl,List.length_map,List.map_nil,List.map_cons]<;>omega:x10.2.2.length+(List.map aA [(x3,x2,x10.2.1)]).length=(x10.2.2++[(x3,x2,x10.2.1)]).length)⟩,⟨(aV aA (l:=[(x3,x2,x10.2.1)]) (n:=1) rfl)⟩,⟨(bV aA (Nat.le_refl 1):0+1≤(List.map aA [(x3,x2,x10.2.1)]).length)⟩,⟨(nT c9)⟩]++w52) (by kernel_rfl)
      rw[if_neg c10] at h;replace c10:=eqf c10
      cases h
     | inr x7 =>
      simp only[Sum.elim_inr] at h
      obtain rfl:=osi h
      exact Tri.of (x:=X79) aF aCD (u43++[df,A79_3,.out (.fin (.tup [(.sl 3 (List.map aA x7.1)),(.int .i64 x7.2)]) [])]) ([⟨(LT.blockFin (id:=0) (oK x1 x2 x3 x4 _ k 0 e3))⟩,⟨(nF c2)⟩]++w44) (by kernel_rfl)
   rw[if_neg c2] at h;replace c2:=eqf c2
   obtain rfl:=osi h
   exact Tri.of (x:=X79) aF aCD (u43++[dt]) ([⟨(nT c2)⟩]++w44) (by kernel_rfl)
 rw[if_neg c1] at h;replace c1:=eqf c1
 obtain rfl:=osi h
 exact Tri.of (x:=X79) aF aCD (u41++[dt,dt,dt,dt,dt,dt]) [⟨rT⟩,⟨(nT c1)⟩,⟨(nT c1)⟩,⟨(nT c1)⟩,⟨(nT c1)⟩,⟨(nT c1)⟩,⟨(aDY k x1 _ e0)⟩] (by kernel_rfl)
end Go.Ws

namespace Go.Ws
open Go.Proofs
set_option linter.unusedSimpArgs false
set_option linter.unusedVariables false
set_option maxRecDepth 1000000
set_option maxHeartbeats 4000000
noncomputable def X80:Ctx:=⟨Try.f80,[],true⟩
theorem aPA (k:Nat) (x1:Int) (x2:aI) (x3:Bool) (x4:Int) (x5:Int) (x6:Int) (r:Int × aI × Bool × Int × Int) (h:xV k x1 x2 x3 x4 x5 x6=some r):Tri Try.prog 80 [(.agg [(.int .i64 x1),(.sl 2 (List.map aB x2)),(.bool x3),(.int .i64 x4)]),(.agg [(.int .u8 x5),(.int .i64 x6)])] [] (.tup [(.agg [(.int .i64 r.1),(.sl 2 (List.map aB r.2.1)),(.bool r.2.2.1),(.int .i64 r.2.2.2.1)]),(.int .i64 r.2.2.2.2)]) []:=by
 unfold xV at h
 obtain⟨x7,e0,h⟩:=bsm h
 let u1:List Ans:=[.call ⟨true,[]⟩ (.bool x7) []]
 let w2:List Prf:=[⟨(uM k x1 x2 x3 x4 _ e0)⟩]
 by_cases c1:x7=true
 · rw[if_pos c1] at h
   let w4:List Prf:=[⟨(nF c1)⟩,⟨(nF c1)⟩,⟨(nF c1)⟩,⟨(nF c1)⟩]++w2
   by_cases c2:ltI x5 64=true
   · rw[if_pos c2] at h
     by_cases c3:eqI x1 0=true
     · rw[if_pos c3] at h
       let u7:List Ans:=u1++[df,df,df,df,df,df,.n x2.length]
       let w8:List Prf:=[⟨(aJ aB x2)⟩,⟨(nF c3)⟩,⟨(nF c2)⟩]++w4
       by_cases c4:ltI (nI x2.length) 50=true
       · rw[if_pos c4] at h
         by_cases c5:bC (x2.length*16)=true
         · rw[if_pos c5] at h
           by_cases c6:bC (((x2++[(x5,x6)]).length)*16)=true
           · rw[if_pos c6] at h
             obtain rfl:=osi h
             exact Tri.of (x:=X80) aF aHW (u7++[df,.n x2.length,.rows (List.map aB [(x5,x6)]),.n ((x2++[(x5,x6)]).length),.n x2.length,dt,.rows (List.map aB (x2++[(x5,x6)])),.rows (List.map aB (x2++[(x5,x6)]))]) ([⟨(aV aB (l:=(x2++[(x5,x6)])) (n:=((x2++[(x5,x6)]).length)) rfl)⟩,⟨(bV aB (Nat.le_refl ((x2++[(x5,x6)]).length)):0+(x2++[(x5,x6)]).length≤(List.map aB (x2++[(x5,x6)])).length)⟩,⟨(hU aB x2 [(x5,x6)])⟩,⟨(fO x2.length)⟩,⟨(aJ aB x2)⟩,⟨c6⟩,⟨(by simp only[wl,List.length_map,List.map_nil,List.map_cons]<;>omega:x2.length+(List.map aB [(x5,x6)]).length=(x2++[(x5,x6)]).length)⟩,⟨(aV aB (l:=[(x5,x6)]) (n:=1) rfl)⟩,⟨(bV aB (Nat.le_refl 1):0+1≤(List.map aB [(x5,x6)]).length)⟩,⟨c5⟩,⟨(aJ aB x2)⟩,⟨(nF c4)⟩]++w8) (by kernel_rfl)
           rw[if_neg c6] at h;replace c6:=eqf c6
           cases h
         rw[if_neg c5] at h;replace c5:=eqf c5
         cases h
       rw[if_neg c4] at h;replace c4:=eqf c4
       obtain rfl:=osi h
       exact Tri.of (x:=X80) aF aHW (u7++[dt]) ([⟨(nT c4)⟩]++w8) (by kernel_rfl)
     rw[if_neg c3] at h;replace c3:=eqf c3
     obtain rfl:=osi h
     exact Tri.of (x:=X80) aF aHW (u1++[df,df,df,df,df,dt]) ([⟨(nT c3)⟩,⟨(nF c2)⟩]++w4) (by kernel_rfl)
   rw[if_neg c2] at h;replace c2:=eqf c2
   obtain rfl:=osi h
   exact Tri.of (x:=X80) aF aHW (u1++[df,df,df,df,dt]) ([⟨(nT c2)⟩]++w4) (by kernel_rfl)
 rw[if_neg c1] at h;replace c1:=eqf c1
 obtain rfl:=osi h
 exact Tri.of (x:=X80) aF aHW (u1++[dt,dt,dt,dt,dt]) ([⟨rT⟩,⟨(nT c1)⟩,⟨(nT c1)⟩,⟨(nT c1)⟩,⟨(nT c1)⟩]++w2) (by kernel_rfl)
end Go.Ws

namespace Go.Ws
open Go.Proofs
set_option linter.unusedSimpArgs false
set_option linter.unusedVariables false
set_option maxRecDepth 1000000
set_option maxHeartbeats 4000000
noncomputable def X25:Ctx:=⟨Try.f25,[],true⟩
noncomputable def L25_0:Code:=at_ Try.f25 [1,0,1,4,5]
def S25_0 (x1:aI) (x2:Int) (eO:Int):St:=⟨mkT 24 [(0,(.sl 2 (List.map aB x1))),(1,(.int .u8 x2)),(5,(.int .i64 eO))],[]⟩
def aOZ:St:=⟨mkT 24 [],[]⟩
def O25_0 (x1:aI) (x2:Int) (y:(Sum (Unit) (Int))):GX:=match y with
 | .inl y=>.st (.exit 0) (aOZ)
 | .inr y=>.fin (.int .i64 y) []
theorem wZ (x1:aI) (x2:Int) (y:(Sum (Unit) (Int))):∀(k:Nat) (eO:Int),iY k x1 x2 eO=some y→LT Try.prog X25 L25_0 (S25_0 x1 x2 eO) (O25_0 x1 x2 y)
 | 0,eO,h=>by cases h
 | k+1,eO,h=>by
  rw[iY] at h
  by_cases cL0:ltI eO (nI x1.length)=true
  · rw[if_pos cL0] at h
    by_cases cL1:inI eO x1.length=true
    · rw[if_pos cL1] at h
      obtain⟨sD,eL2,h⟩:=bsm h
      let u3:List Ans:=[.n x1.length,dt,.n x1.length,.row [(.int .u8 sD.1)]]
      let w4:List Prf:=[⟨(aN (e:=aB) eL2 2 0 1 (by decide))⟩,⟨cL1⟩,⟨(aJ aB x1)⟩,⟨cL0⟩,⟨(aJ aB x1)⟩]
      by_cases cL3:eqI sD.1 x2=true
      · rw[if_pos cL3] at h
        obtain rfl:=osi h
        show LT _ _ _ _ (.fin (.int .i64 sD.2) [])
        exact LT.done aF (hs:=⟨[],[],false,[],[]⟩) (es:=none) (u3++[dt,.n x1.length,.row [(.int .i64 sD.2)]]) ([⟨(aN (e:=aB) eL2 2 1 1 (by decide))⟩,⟨cL1⟩,⟨(aJ aB x1)⟩,⟨cL3⟩]++w4) (by kernel_rfl) (fun s h=>by cases h)
      rw[if_neg cL3] at h;replace cL3:=eqf cL3
      exact LT.next aF (hs:=⟨[(0,[]),(1,[]),(5,[])],[],false,[],[]⟩) (es:=none) (u3++[df]) ([⟨cL3⟩]++w4) (by kernel_rfl) (wZ x1 x2 y k (aL .i64 eO 1) h)
    rw[if_neg cL1] at h;replace cL1:=eqf cL1
    cases h
  rw[if_neg cL0] at h;replace cL0:=eqf cL0
  obtain rfl:=osi h
  show LT _ _ _ _ (.st (.exit 0) (aOZ))
  exact LT.done aF (hs:=⟨[],[],false,[],[]⟩) (es:=(some ⟨[],[],false,[],[]⟩)) [.n x1.length,df] [⟨cL0⟩,⟨(aJ aB x1)⟩] (by kernel_rfl) (fun s h=>by cases h)
theorem aP8 (k:Nat) (x1:aI) (x2:Int) (r:Int) (h:yE k x1 x2=some r):Tri Try.prog 25 [(.sl 2 (List.map aB x1)),(.int .u8 x2)] [] (.int .i64 r) []:=by
 unfold yE at h
 obtain⟨x3,e0,h⟩:=bsm h
 cases x3 with
 | inl x4 =>
  simp only[Sum.elim_inl] at h
  obtain rfl:=osi h
  exact Tri.of (x:=X25) aF aVZ [.norm 2 ⟨[(0,[]),(1,[]),(5,[])],[],false,[],[]⟩,.out (.st .normal (aOZ))] [⟨(LT.block (wZ x1 x2 _ k 0 e0))⟩] (by kernel_rfl)
 | inr x4 =>
  simp only[Sum.elim_inr] at h
  obtain rfl:=osi h
  exact Tri.of (x:=X25) aF aVZ [.norm 2 ⟨[(0,[]),(1,[]),(5,[])],[],false,[],[]⟩,.out (.fin (.int .i64 x4) [])] [⟨(LT.blockFin (id:=0) (wZ x1 x2 _ k 0 e0))⟩] (by kernel_rfl)
end Go.Ws

namespace Go.Ws
open Go.Proofs
set_option linter.unusedSimpArgs false
set_option linter.unusedVariables false
set_option maxRecDepth 1000000
set_option maxHeartbeats 4000000
noncomputable def X63:Ctx:=⟨Try.f63,[],true⟩
noncomputable def L63_0:Code:=at_ Try.f63 [1,1,1,1,1,1,1,1,1,0,1,4,5]
def S63_0 (x1:aI) (x3:Ty3) (x4:Ty7) (x6:Int) (x7:Int) (x8:Int) (x9:Int) (x10:Int × Int × aI × Bool × Int) (x11:Ty8 × Int) (fB:Int) (dU:Int):St:=⟨mkT 99 [(5,(.hp 0 0)),(6,(.hp 1 0)),(9,(.hp 2 0)),(12,(.hp 3 0)),(15,(.int .i64 fB)),(16,(.int .i64 dU))],[(.row [(.int .i64 x6),(.int .i64 x7),(.int .u8 x8),(.int .i64 x9)]),(.row [.nils,.nils,.nils,.nils]),(.row [(.int .i64 x10.2.1),(.sl 2 (List.map aB x10.2.2.1)),(.bool x10.2.2.2.1),(.int .i64 x10.2.2.2.2)]),(.row [(.sl 2 (List.map aB x1)),(.sl 3 (List.map aA x11.1)),(.sl 5 (List.map aH x3)),(.sl 4 (List.map aC x4))])]⟩
def aOB (x1:aI) (x3:Ty3) (x4:Ty7) (x11:Ty8 × Int) (v63002_1:Int):St:=⟨mkT 99 [(6,(.hp 0 0)),(12,(.hp 1 0)),(15,(.int .i64 v63002_1))],[(.row [.nils,.nils,.nils,.nils]),(.row [(.sl 2 (List.map aB x1)),(.sl 3 (List.map aA x11.1)),(.sl 5 (List.map aH x3)),(.sl 4 (List.map aC x4))])]⟩
def O63_0 (x1:aI) (x3:Ty3) (x4:Ty7) (x6:Int) (x7:Int) (x8:Int) (x9:Int) (x10:Int × Int × aI × Bool × Int) (x11:Ty8 × Int) (y:(Int)):GX:=.st (.exit 0) (aOB x1 x3 x4 x11 y)
def A63_0 (x11:Ty8 × Int):Ans:=.call ⟨true,[]⟩ (.tup [(.sl 3 (List.map aA x11.1)),(.int .i64 x11.2)]) []
theorem sP (x1:aI) (x3:Ty3) (x4:Ty7) (x6:Int) (x7:Int) (x8:Int) (x9:Int) (x10:Int × Int × aI × Bool × Int) (x11:Ty8 × Int) (y:(Int)):∀(k:Nat) (fB:Int) (dU:Int),fF k x1 x3 x4 x6 x7 x8 x9 x10 x11 fB dU=some y→LT Try.prog X63 L63_0 (S63_0 x1 x3 x4 x6 x7 x8 x9 x10 x11 fB dU) (O63_0 x1 x3 x4 x6 x7 x8 x9 x10 x11 y)
 | 0,fB,dU,h=>by cases h
 | k+1,fB,dU,h=>by
  rw[fF] at h
  let w2:List Prf:=[⟨(aJ aB x10.2.2.1)⟩]
  by_cases cL0:ltI dU (nI x10.2.2.1.length)=true
  · rw[if_pos cL0] at h
    by_cases cL1:inI dU x10.2.2.1.length=true
    · rw[if_pos cL1] at h
      obtain⟨sE,eL2,h⟩:=bsm h
      let u3:List Ans:=[.n x10.2.2.1.length,dt,.n x10.2.2.1.length,.row [(.int .u8 sE.1)]]
      let w4:List Prf:=[⟨(aN (e:=aB) eL2 2 0 1 (by decide))⟩,⟨cL1⟩,⟨(aJ aB x10.2.2.1)⟩,⟨cL0⟩]++w2
      by_cases cL3:eqI sE.1 x8=true
      · rw[if_pos cL3] at h
        exact LT.next aF (hs:=⟨[(5,[]),(6,[]),(9,[]),(12,[]),(15,[]),(16,[])],[⟨.tmp 5,[],none⟩,⟨.tmp 6,[],none⟩,⟨.tmp 9,[],none⟩,⟨.tmp 12,[],none⟩],false,[],[]⟩) (es:=none) (u3++[dt,.n x10.2.2.1.length,.row [(.int .i64 sE.2)]]) ([⟨(aN (e:=aB) eL2 2 1 1 (by decide))⟩,⟨cL1⟩,⟨(aJ aB x10.2.2.1)⟩,⟨cL3⟩]++w4) (by kernel_rfl) (sP x1 x3 x4 x6 x7 x8 x9 x10 x11 y k (aL .i64 fB sE.2) (aL .i64 dU 1) h)
      rw[if_neg cL3] at h;replace cL3:=eqf cL3
      exact LT.next aF (hs:=⟨[(5,[]),(6,[]),(9,[]),(12,[]),(15,[]),(16,[])],[⟨.tmp 5,[],none⟩,⟨.tmp 6,[],none⟩,⟨.tmp 9,[],none⟩,⟨.tmp 12,[],none⟩],false,[],[]⟩) (es:=none) (u3++[df]) ([⟨cL3⟩]++w4) (by kernel_rfl) (sP x1 x3 x4 x6 x7 x8 x9 x10 x11 y k fB (aL .i64 dU 1) h)
    rw[if_neg cL1] at h;replace cL1:=eqf cL1
    cases h
  rw[if_neg cL0] at h;replace cL0:=eqf cL0
  obtain rfl:=osi h
  show LT _ _ _ _ (.st (.exit 0) (aOB x1 x3 x4 x11 fB))
  exact LT.done aF (hs:=⟨[],[],false,[],[]⟩) (es:=(some ⟨[(6,[]),(12,[]),(15,[])],[⟨.tmp 6,[],none⟩,⟨.tmp 12,[],none⟩],false,[],[]⟩)) [.n x10.2.2.1.length,df] ([⟨cL0⟩]++w2) (by kernel_rfl) (fun s h=>by cases h)
theorem aJP (k:Nat) (x1:aI) (x2:Ty8) (x3:Ty3) (x4:Ty7) (x5:Int) (x6:Int) (x7:Int) (x8:Int) (x9:Int) (r:aI × Ty8 × Ty3 × Ty7 × Int × Int) (h:rD k x1 x2 x3 x4 x5 x6 x7 x8 x9=some r):Tri Try.prog 63 [(.agg [(.sl 2 (List.map aB x1)),(.sl 3 (List.map aA x2)),(.sl 5 (List.map aH x3)),(.sl 4 (List.map aC x4))]),(.int .i64 x5),(.agg [(.int .i64 x6),(.int .i64 x7),(.int .u8 x8),(.int .i64 x9)])] [] (.tup [(.agg [(.sl 2 (List.map aB r.1)),(.sl 3 (List.map aA r.2.1)),(.sl 5 (List.map aH r.2.2.1)),(.sl 4 (List.map aC r.2.2.2.1))]),(.int .i64 r.2.2.2.2.1),(.int .i64 r.2.2.2.2.2)]) []:=by
 unfold rD at h
 by_cases c0:inI x5 x3.length=true
 · rw[if_pos c0] at h
   obtain⟨x10,e1,h⟩:=bsm h
   let u5:List Ans:=[.n x3.length,.row [(.int .i64 x10.2.1),(.sl 2 (List.map aB x10.2.2.1)),(.bool x10.2.2.2.1),(.int .i64 x10.2.2.2.2)]]
   let w6:List Prf:=[⟨(aN (e:=aH) e1 5 1 4 (by decide))⟩,⟨c0⟩,⟨(aJ aH x3)⟩]
   by_cases c2:eqI x10.2.1 0=true
   · rw[if_pos c2] at h
     obtain⟨x11,e3,h⟩:=bsm h
     let w8:List Prf:=[⟨(aMV k x2 x7 x8 (eqI x6 3) _ e3)⟩,⟨(nF c2)⟩]++w6
     by_cases c4:eqI x11.2 0=true
     · rw[if_pos c4] at h
       by_cases c5:eqI x6 3=true
       · rw[if_pos c5] at h
         obtain⟨x12,e6,h⟩:=bsm h
         let u11:List Ans:=u5++[df,(A63_0 x11),df,dt,.call ⟨true,[]⟩ (.tup [(.agg [(.int .i64 x12.1),(.sl 2 (List.map aB x12.2.1)),(.bool x12.2.2.1),(.int .i64 x12.2.2.2.1)]),(.int .i64 x12.2.2.2.2)]) []]
         let w12:List Prf:=[⟨(aPA k x10.2.1 x10.2.2.1 x10.2.2.2.1 x10.2.2.2.2 x8 x9 _ e6)⟩,⟨c5⟩,⟨(nF c4)⟩]++w8
         by_cases c7:eqI x12.2.2.2.2 0=true
         · rw[if_pos c7] at h
           obtain⟨x13,e8,h⟩:=bsm h
           obtain rfl:=osi h
           exact Tri.of (x:=X63) aF aHX (u11++[df,.call ⟨true,[]⟩ (.agg [(.sl 2 (List.map aB x13.1)),(.sl 3 (List.map aA x13.2.1)),(.sl 5 (List.map aH x13.2.2.1)),(.sl 4 (List.map aC x13.2.2.2))]) []]) ([⟨(pX k x1 x11.1 x3 x4 x5 x12.1 x12.2.1 x12.2.2.1 x12.2.2.2.1 _ e8)⟩,⟨(nF c7)⟩]++w12) (by kernel_rfl)
         rw[if_neg c7] at h;replace c7:=eqf c7
         obtain rfl:=osi h
         exact Tri.of (x:=X63) aF aHX (u11++[dt]) ([⟨(nT c7)⟩]++w12) (by kernel_rfl)
       rw[if_neg c5] at h;replace c5:=eqf c5
       obtain⟨x12,e6,h⟩:=bsm h
       obtain⟨x14,e7,h⟩:=bsm h
       obtain rfl:=osi h
       exact Tri.of (x:=X63) aF aHX (u5++[df,(A63_0 x11),df,df,.call ⟨true,[]⟩ (.int .i64 x12) [],.norm 2 ⟨[(5,[]),(6,[]),(9,[]),(12,[]),(15,[]),(16,[])],[⟨.tmp 5,[],none⟩,⟨.tmp 6,[],none⟩,⟨.tmp 9,[],none⟩,⟨.tmp 12,[],none⟩],false,[],[]⟩,.out (.st .normal (aOB x1 x3 x4 x11 x14))]) ([⟨(LT.block (sP x1 x3 x4 x6 x7 x8 x9 x10 x11 _ k x12 0 e7))⟩,⟨(aP8 k x1 x8 _ e6)⟩,⟨c5⟩,⟨(nF c4)⟩]++w8) (by kernel_rfl)
     rw[if_neg c4] at h;replace c4:=eqf c4
     obtain rfl:=osi h
     exact Tri.of (x:=X63) aF aHX (u5++[df,(A63_0 x11),dt]) ([⟨(nT c4)⟩]++w8) (by kernel_rfl)
   rw[if_neg c2] at h;replace c2:=eqf c2
   obtain rfl:=osi h
   exact Tri.of (x:=X63) aF aHX (u5++[dt]) ([⟨(nT c2)⟩]++w6) (by kernel_rfl)
 rw[if_neg c0] at h;replace c0:=eqf c0
 cases h
end Go.Ws

namespace Go.Ws
open Go.Proofs
set_option linter.unusedSimpArgs false
set_option linter.unusedVariables false
set_option maxRecDepth 1000000
set_option maxHeartbeats 4000000
noncomputable def X49:Ctx:=⟨Try.f49,[],true⟩
theorem aMZ (k:Nat) (x1:aI) (x2:Ty8) (x3:Ty3) (x4:Ty7) (x5:Int) (x6:Int) (x7:Int) (x8:Int) (r:aI × Ty8 × Ty3 × Ty7 × Int × Int) (h:vK k x1 x2 x3 x4 x5 x6 x7 x8=some r):Tri Try.prog 49 [(.agg [(.sl 2 (List.map aB x1)),(.sl 3 (List.map aA x2)),(.sl 5 (List.map aH x3)),(.sl 4 (List.map aC x4))]),(.agg [(.int .i64 x5),(.int .i64 x6),(.int .u8 x7),(.int .i64 x8)])] [] (.tup [(.agg [(.sl 2 (List.map aB r.1)),(.sl 3 (List.map aA r.2.1)),(.sl 5 (List.map aH r.2.2.1)),(.sl 4 (List.map aC r.2.2.2.1))]),(.int .i64 r.2.2.2.2.1),(.int .i64 r.2.2.2.2.2)]) []:=by
 unfold vK at h
 by_cases c0:ltI x5 1=true
 · rw[if_pos c0] at h
   obtain rfl:=osi h
   exact Tri.of (x:=X49) aF xR [dt,dt,dt,dt,dt,dt,dt,dt,dt,dt,dt,dt,dt] [⟨rT⟩,⟨rT⟩,⟨rT⟩,⟨rT⟩,⟨rT⟩,⟨rT⟩,⟨rT⟩,⟨rT⟩,⟨rT⟩,⟨c0⟩,⟨c0⟩,⟨c0⟩,⟨c0⟩] (by kernel_rfl)
 rw[if_neg c0] at h;replace c0:=eqf c0
 by_cases c1:ltI 6 x5=true
 · rw[if_pos c1] at h
   obtain rfl:=osi h
   exact Tri.of (x:=X49) aF xR [df,df,df,df,dt,dt,dt,dt,dt,dt,dt,dt,dt] [⟨rT⟩,⟨rT⟩,⟨rT⟩,⟨rT⟩,⟨rT⟩,⟨c1⟩,⟨c1⟩,⟨c1⟩,⟨c1⟩,⟨c0⟩,⟨c0⟩,⟨c0⟩,⟨c0⟩] (by kernel_rfl)
 rw[if_neg c1] at h;replace c1:=eqf c1
 let u3:List Ans:=[df,df,df,df,df,df,df,df]
 let w4:List Prf:=[⟨c1⟩,⟨c1⟩,⟨c1⟩,⟨c1⟩,⟨c0⟩,⟨c0⟩,⟨c0⟩,⟨c0⟩]
 by_cases c2:ltI x6 0=true
 · rw[if_pos c2] at h
   obtain rfl:=osi h
   exact Tri.of (x:=X49) aF xR (u3++[dt,dt,dt,dt,dt]) ([⟨rT⟩,⟨c2⟩,⟨c2⟩,⟨c2⟩,⟨c2⟩]++w4) (by kernel_rfl)
 rw[if_neg c2] at h;replace c2:=eqf c2
 by_cases c3:ltI x6 1000=true
 · rw[if_pos c3] at h
   obtain⟨x9,e4,h⟩:=bsm h
   let u7:List Ans:=u3++[df,df,df,df,df,.call ⟨true,[]⟩ (.int .i64 x9) []]
   let w8:List Prf:=[⟨(aM8 k x1 x2 x3 x4 x6 _ e4)⟩,⟨(nF c3)⟩,⟨c2⟩,⟨c2⟩,⟨c2⟩,⟨c2⟩]++w4
   by_cases c5:eqI x5 1=true
   · rw[if_pos c5] at h
     by_cases c6:ltI x9 0=true
     · rw[if_pos c6] at h
       by_cases c7:bC (x3.length*56)=true
       · rw[if_pos c7] at h
         by_cases c8:bC (((x3++[(x6,0,[],false,0)]).length)*56)=true
         · rw[if_pos c8] at h
           obtain rfl:=osi h
           exact Tri.of (x:=X49) aF xR (u7++[dt,df,.n x3.length,.rows (List.map aH [(x6,0,[],false,0)]),.n ((x3++[(x6,0,[],false,0)]).length),.n x3.length,dt,.rows (List.map aH (x3++[(x6,0,[],false,0)])),.rows (List.map aH (x3++[(x6,0,[],false,0)]))]) ([⟨(aV aH (l:=(x3++[(x6,0,[],false,0)])) (n:=((x3++[(x6,0,[],false,0)]).length)) rfl)⟩,⟨(bV aH (Nat.le_refl ((x3++[(x6,0,[],false,0)]).length)):0+(x3++[(x6,0,[],false,0)]).length≤(List.map aH (x3++[(x6,0,[],false,0)])).length)⟩,⟨(hU aH x3 [(x6,0,[],false,0)])⟩,⟨(fO x3.length)⟩,⟨(aJ aH x3)⟩,⟨c8⟩,⟨(by simp only[wl,List.length_map,List.map_nil,List.map_cons]<;>omega:x3.length+(List.map aH [(x6,0,[],false,0)]).length=(x3++[(x6,0,[],false,0)]).length)⟩,⟨(aV aH (l:=[(x6,0,[],false,0)]) (n:=1) rfl)⟩,⟨(bV aH (Nat.le_refl 1):0+1≤(List.map aH [(x6,0,[],false,0)]).length)⟩,⟨c7⟩,⟨(aJ aH x3)⟩,⟨(nF c6)⟩,⟨c5⟩]++w8) (by kernel_rfl)
         rw[if_neg c8] at h;replace c8:=eqf c8
         cases h
       rw[if_neg c7] at h;replace c7:=eqf c7
       cases h
     rw[if_neg c6] at h;replace c6:=eqf c6
     obtain rfl:=osi h
     exact Tri.of (x:=X49) aF xR (u7++[dt,dt]) ([⟨(nT c6)⟩,⟨c5⟩]++w8) (by kernel_rfl)
   rw[if_neg c5] at h;replace c5:=eqf c5
   by_cases c6:ltI x9 0=true
   · rw[if_pos c6] at h
     obtain rfl:=osi h
     exact Tri.of (x:=X49) aF xR (u7++[df,dt]) ([⟨c6⟩,⟨c5⟩]++w8) (by kernel_rfl)
   rw[if_neg c6] at h;replace c6:=eqf c6
   by_cases c7:ltI 3 x5=true
   · rw[if_pos c7] at h
     obtain⟨x10,e8,h⟩:=bsm h
     obtain rfl:=osi h
     exact Tri.of (x:=X49) aF xR (u7++[df,df,df,.call ⟨true,[]⟩ (.tup [(.agg [(.sl 2 (List.map aB x10.1)),(.sl 3 (List.map aA x10.2.1)),(.sl 5 (List.map aH x10.2.2.1)),(.sl 4 (List.map aC x10.2.2.2.1))]),(.int .i64 x10.2.2.2.2)]) []]) ([⟨(aPS k x1 x2 x3 x4 x9 x5 x6 x7 x8 _ e8)⟩,⟨(nF c7)⟩,⟨c6⟩,⟨c5⟩]++w8) (by kernel_rfl)
   rw[if_neg c7] at h;replace c7:=eqf c7
   obtain⟨x10,e8,h⟩:=bsm h
   obtain rfl:=osi h
   exact Tri.of (x:=X49) aF xR (u7++[df,df,dt,.call ⟨true,[]⟩ (.tup [(.agg [(.sl 2 (List.map aB x10.1)),(.sl 3 (List.map aA x10.2.1)),(.sl 5 (List.map aH x10.2.2.1)),(.sl 4 (List.map aC x10.2.2.2.1))]),(.int .i64 x10.2.2.2.2.1),(.int .i64 x10.2.2.2.2.2)]) []]) ([⟨(aJP k x1 x2 x3 x4 x9 x5 x6 x7 x8 _ e8)⟩,⟨(nT c7)⟩,⟨c6⟩,⟨c5⟩]++w8) (by kernel_rfl)
 rw[if_neg c3] at h;replace c3:=eqf c3
 obtain rfl:=osi h
 exact Tri.of (x:=X49) aF xR (u3++[df,df,df,df,dt]) ([⟨(nT c3)⟩,⟨c2⟩,⟨c2⟩,⟨c2⟩,⟨c2⟩]++w4) (by kernel_rfl)
end Go.Ws

namespace Go.Ws
open Go.Proofs
set_option linter.unusedSimpArgs false
set_option linter.unusedVariables false
set_option maxRecDepth 1000000
set_option maxHeartbeats 4000000
noncomputable def X38:Ctx:=⟨Try.f38,[],true⟩
def A38_0 (x9:aI × Ty8 × Ty3 × Ty7 × Int × Int):Ans:=.call ⟨true,[]⟩ (.tup [(.agg [(.sl 2 (List.map aB x9.1)),(.sl 3 (List.map aA x9.2.1)),(.sl 5 (List.map aH x9.2.2.1)),(.sl 4 (List.map aC x9.2.2.2.1))]),(.int .i64 x9.2.2.2.2.1),(.int .i64 x9.2.2.2.2.2)]) []
theorem aSD (k:Nat) (x1:aI) (x2:Ty8) (x3:Ty3) (x4:Ty7) (x5:Int) (x6:Int) (x7:Int) (x8:Int) (r:aI × Ty8 × Ty3 × Ty7 × Int × Int) (h:aBM k x1 x2 x3 x4 x5 x6 x7 x8=some r):Tri Try.prog 38 [(.agg [(.sl 2 (List.map aB x1)),(.sl 3 (List.map aA x2)),(.sl 5 (List.map aH x3)),(.sl 4 (List.map aC x4))]),(.agg [(.int .i64 x5),(.int .i64 x6),(.int .u8 x7),(.int .i64 x8)])] [] (.tup [(.agg [(.sl 2 (List.map aB r.1)),(.sl 3 (List.map aA r.2.1)),(.sl 5 (List.map aH r.2.2.1)),(.sl 4 (List.map aC r.2.2.2.1))]),(.int .i64 r.2.2.2.2.1),(.int .i64 r.2.2.2.2.2)]) []:=by
 unfold aBM at h
 obtain⟨x9,e0,h⟩:=bsm h
 let w2:List Prf:=[⟨(aMZ k x1 x2 x3 x4 x5 x6 x7 x8 _ e0)⟩]
 by_cases c1:eqI x9.2.2.2.2.2 0=true
 · rw[if_pos c1] at h
   by_cases c2:bC (x4.length*32)=true
   · rw[if_pos c2] at h
     by_cases c3:bC (((x4++[(x5,x6,x7,x8)]).length)*32)=true
     · rw[if_pos c3] at h
       obtain rfl:=osi h
       exact Tri.of (x:=X38) aF aWE [(A38_0 x9),df,.n x4.length,.rows (List.map aC [(x5,x6,x7,x8)]),.n ((x4++[(x5,x6,x7,x8)]).length),.n x4.length,dt,.rows (List.map aC (x4++[(x5,x6,x7,x8)])),.rows (List.map aC (x4++[(x5,x6,x7,x8)]))] ([⟨(aV aC (l:=(x4++[(x5,x6,x7,x8)])) (n:=((x4++[(x5,x6,x7,x8)]).length)) rfl)⟩,⟨(bV aC (Nat.le_refl ((x4++[(x5,x6,x7,x8)]).length)):0+(x4++[(x5,x6,x7,x8)]).length≤(List.map aC (x4++[(x5,x6,x7,x8)])).length)⟩,⟨(hU aC x4 [(x5,x6,x7,x8)])⟩,⟨(fO x4.length)⟩,⟨(aJ aC x4)⟩,⟨c3⟩,⟨(by simp only[wl,List.length_map,List.map_nil,List.map_cons]<;>omega:x4.length+(List.map aC [(x5,x6,x7,x8)]).length=(x4++[(x5,x6,x7,x8)]).length)⟩,⟨(aV aC (l:=[(x5,x6,x7,x8)]) (n:=1) rfl)⟩,⟨(bV aC (Nat.le_refl 1):0+1≤(List.map aC [(x5,x6,x7,x8)]).length)⟩,⟨c2⟩,⟨(aJ aC x4)⟩,⟨(nF c1)⟩]++w2) (by kernel_rfl)
     rw[if_neg c3] at h;replace c3:=eqf c3
     cases h
   rw[if_neg c2] at h;replace c2:=eqf c2
   cases h
 rw[if_neg c1] at h;replace c1:=eqf c1
 obtain rfl:=osi h
 exact Tri.of (x:=X38) aF aWE [(A38_0 x9),dt] ([⟨(nT c1)⟩]++w2) (by kernel_rfl)
end Go.Ws

namespace Go.Ws
open Go.Proofs
set_option linter.unusedSimpArgs false
set_option linter.unusedVariables false
set_option maxRecDepth 1000000
set_option maxHeartbeats 4000000
noncomputable def X28:Ctx:=⟨Try.f28,[],true⟩
noncomputable def L28_0:Code:=at_ Try.f28 [1,1,0,1,4,5]
def S28_0 (x1:Ty7) (eP:Int) (g4:aI) (g5:Ty8) (g6:Ty3) (g7:Ty7):St:=⟨mkT 27 [(0,(.sl 4 (List.map aC x1))),(3,(.hp 0 0)),(4,(.int .i64 eP))],[(.row [(.sl 2 (List.map aB g4)),(.sl 3 (List.map aA g5)),(.sl 5 (List.map aH g6)),(.sl 4 (List.map aC g7))])]⟩
def aOE:St:=⟨mkT 27 [],[]⟩
def O28_0 (x1:Ty7) (y:qG):GX:=match y with
 | .inl y=>.st (.exit 0) (aOE)
 | .inr y=>.fin (.bool y) []
def A28_0:Ans:=.norm 2 ⟨[(0,[]),(3,[]),(4,[])],[⟨.tmp 3,[(0,2),(1,3),(2,5),(3,4)],none⟩],false,[],[]⟩
theorem uC (x1:Ty7) (y:qG):∀(k:Nat) (eP:Int) (g4:aI) (g5:Ty8) (g6:Ty3) (g7:Ty7),gJ k x1 eP g4 g5 g6 g7=some y→LT Try.prog X28 L28_0 (S28_0 x1 eP g4 g5 g6 g7) (O28_0 x1 y)
 | 0,eP,g4,g5,g6,g7,h=>by cases h
 | k+1,eP,g4,g5,g6,g7,h=>by
  rw[gJ] at h
  let w2:List Prf:=[⟨(aJ aC x1)⟩]
  by_cases cL0:ltI eP (nI x1.length)=true
  · rw[if_pos cL0] at h
    by_cases cL1:inI eP x1.length=true
    · rw[if_pos cL1] at h
      obtain⟨j9,eL2,h⟩:=bsm h
      obtain⟨iC,eL3,h⟩:=bsm h
      let u3:List Ans:=[.n x1.length,dt,.n x1.length,.row [(.int .i64 j9.1),(.int .i64 j9.2.1),(.int .u8 j9.2.2.1),(.int .i64 j9.2.2.2)],.call ⟨true,[]⟩ (.tup [(.agg [(.sl 2 (List.map aB iC.1)),(.sl 3 (List.map aA iC.2.1)),(.sl 5 (List.map aH iC.2.2.1)),(.sl 4 (List.map aC iC.2.2.2.1))]),(.int .i64 iC.2.2.2.2.1),(.int .i64 iC.2.2.2.2.2)]) []]
      let w4:List Prf:=[⟨(aSD k g4 g5 g6 g7 j9.1 j9.2.1 j9.2.2.1 j9.2.2.2 _ eL3)⟩,⟨(aN (e:=aC) eL2 4 0 4 (by decide))⟩,⟨cL1⟩,⟨(aJ aC x1)⟩,⟨cL0⟩]++w2
      by_cases cL4:eqI iC.2.2.2.2.2 0=true
      · rw[if_pos cL4] at h
        exact LT.next aF (hs:=⟨[(0,[]),(3,[]),(4,[])],[⟨.tmp 3,[],none⟩],false,[],[]⟩) (es:=none) (u3++[df]) ([⟨(nF cL4)⟩]++w4) (by kernel_rfl) (uC x1 y k (aL .i64 eP 1) iC.1 iC.2.1 iC.2.2.1 iC.2.2.2.1 h)
      rw[if_neg cL4] at h;replace cL4:=eqf cL4
      obtain rfl:=osi h
      show LT _ _ _ _ (.fin (.bool false) [])
      exact LT.done aF (hs:=⟨[],[],false,[],[]⟩) (es:=none) (u3++[dt]) ([⟨(nT cL4)⟩]++w4) (by kernel_rfl) (fun s h=>by cases h)
    rw[if_neg cL1] at h;replace cL1:=eqf cL1
    cases h
  rw[if_neg cL0] at h;replace cL0:=eqf cL0
  obtain rfl:=osi h
  show LT _ _ _ _ (.st (.exit 0) (aOE))
  exact LT.done aF (hs:=⟨[],[],false,[],[]⟩) (es:=(some ⟨[],[],false,[],[]⟩)) [.n x1.length,df] ([⟨cL0⟩]++w2) (by kernel_rfl) (fun s h=>by cases h)
theorem oL (k:Nat) (x1:Ty7) (r:Bool) (h:oT k x1=some r):Tri Try.prog 28 [(.sl 4 (List.map aC x1))] [] (.bool r) []:=by
 unfold oT at h
 obtain⟨x2,e0,h⟩:=bsm h
 cases x2 with
 | inl x3 =>
  simp only[Sum.elim_inl] at h
  obtain rfl:=osi h
  exact Tri.of (x:=X28) aF aUV [A28_0,.out (.st .normal (aOE))] [⟨(LT.block (uC x1 _ k 0 [] [] [] [] e0))⟩] (by kernel_rfl)
 | inr x3 =>
  simp only[Sum.elim_inr] at h
  obtain rfl:=osi h
  exact Tri.of (x:=X28) aF aUV [A28_0,.out (.fin (.bool x3) [])] [⟨(LT.blockFin (id:=0) (uC x1 _ k 0 [] [] [] [] e0))⟩] (by kernel_rfl)
end Go.Ws

namespace Go.Ws
open Go.Proofs
set_option linter.unusedSimpArgs false
set_option linter.unusedVariables false
set_option maxRecDepth 1000000
set_option maxHeartbeats 4000000
noncomputable def X29:Ctx:=⟨Try.f29,[],true⟩
noncomputable def L29_0:Code:=at_ Try.f29 [1,0,1,4,5]
def S29_0 (x1:Ty7) (x2:Int) (dV:Int):St:=⟨mkT 32 [(0,(.sl 4 (List.map aC x1))),(1,(.int .i64 x2)),(5,(.int .i64 dV))],[]⟩
def aO6:St:=⟨mkT 32 [],[]⟩
def O29_0 (x1:Ty7) (x2:Int) (y:(Sum (Unit) (Int))):GX:=match y with
 | .inl y=>.st (.exit 0) (aO6)
 | .inr y=>.fin (.int .i64 y) []
theorem n8 (x1:Ty7) (x2:Int) (y:(Sum (Unit) (Int))):∀(k:Nat) (dV:Int),eQ k x1 x2 dV=some y→LT Try.prog X29 L29_0 (S29_0 x1 x2 dV) (O29_0 x1 x2 y)
 | 0,dV,h=>by cases h
 | k+1,dV,h=>by
  rw[eQ] at h
  let w2:List Prf:=[⟨(aJ aC x1)⟩]
  by_cases cL0:ltI dV (nI x1.length)=true
  · rw[if_pos cL0] at h
    by_cases cL1:inI dV x1.length=true
    · rw[if_pos cL1] at h
      obtain⟨nL,eL2,h⟩:=bsm h
      let u3:List Ans:=[.n x1.length,dt,.n x1.length,.row [(.int .i64 nL.1)]]
      let w4:List Prf:=[⟨(aN (e:=aC) eL2 4 0 1 (by decide))⟩,⟨cL1⟩,⟨(aJ aC x1)⟩,⟨cL0⟩]++w2
      by_cases cL3:eqI nL.1 6=true
      · rw[if_pos cL3] at h
        let u5:List Ans:=u3++[dt,dt,dt,.n x1.length,dt,dt,.row [(.int .i64 nL.2.1)],dt,dt,dt]
        let w6:List Prf:=[⟨cL3⟩,⟨cL3⟩,⟨cL3⟩,⟨(aN (e:=aC) eL2 4 1 1 (by decide))⟩,⟨cL3⟩,⟨cL3⟩,⟨cL1⟩,⟨(aJ aC x1)⟩,⟨cL3⟩,⟨cL3⟩,⟨cL3⟩]++w4
        by_cases cL4:eqI nL.2.1 x2=true
        · rw[if_pos cL4] at h
          obtain rfl:=osi h
          show LT _ _ _ _ (.fin (.int .i64 nL.2.2.2) [])
          exact LT.done aF (hs:=⟨[],[],false,[],[]⟩) (es:=none) (u5++[dt,.n x1.length,.row [(.int .i64 nL.2.2.2)]]) ([⟨(aN (e:=aC) eL2 4 3 1 (by decide))⟩,⟨cL1⟩,⟨(aJ aC x1)⟩,⟨cL4⟩]++w6) (by kernel_rfl) (fun s h=>by cases h)
        rw[if_neg cL4] at h;replace cL4:=eqf cL4
        exact LT.next aF (hs:=⟨[(0,[]),(1,[]),(5,[])],[],false,[],[]⟩) (es:=none) (u5++[df]) ([⟨cL4⟩]++w6) (by kernel_rfl) (n8 x1 x2 y k (aL .i64 dV 1) h)
      rw[if_neg cL3] at h;replace cL3:=eqf cL3
      exact LT.next aF (hs:=⟨[(0,[]),(1,[]),(5,[])],[],false,[],[]⟩) (es:=none) (u3++[df,df,df,df,df,df,df,df,df]) ([⟨rF⟩,⟨cL3⟩,⟨cL3⟩,⟨cL3⟩,⟨cL3⟩,⟨cL3⟩,⟨cL3⟩,⟨cL3⟩,⟨cL3⟩]++w4) (by kernel_rfl) (n8 x1 x2 y k (aL .i64 dV 1) h)
    rw[if_neg cL1] at h;replace cL1:=eqf cL1
    cases h
  rw[if_neg cL0] at h;replace cL0:=eqf cL0
  obtain rfl:=osi h
  show LT _ _ _ _ (.st (.exit 0) (aO6))
  exact LT.done aF (hs:=⟨[],[],false,[],[]⟩) (es:=(some ⟨[],[],false,[],[]⟩)) [.n x1.length,df] ([⟨cL0⟩]++w2) (by kernel_rfl) (fun s h=>by cases h)
theorem uT (k:Nat) (x1:Ty7) (x2:Int) (r:Int) (h:lY k x1 x2=some r):Tri Try.prog 29 [(.sl 4 (List.map aC x1)),(.int .i64 x2)] [] (.int .i64 r) []:=by
 unfold lY at h
 obtain⟨x3,e0,h⟩:=bsm h
 cases x3 with
 | inl x4 =>
  simp only[Sum.elim_inl] at h
  obtain rfl:=osi h
  exact Tri.of (x:=X29) aF aU4 [.norm 2 ⟨[(0,[]),(1,[]),(5,[])],[],false,[],[]⟩,.out (.st .normal (aO6))] [⟨(LT.block (n8 x1 x2 _ k 0 e0))⟩] (by kernel_rfl)
 | inr x4 =>
  simp only[Sum.elim_inr] at h
  obtain rfl:=osi h
  exact Tri.of (x:=X29) aF aU4 [.norm 2 ⟨[(0,[]),(1,[]),(5,[])],[],false,[],[]⟩,.out (.fin (.int .i64 x4) [])] [⟨(LT.blockFin (id:=0) (n8 x1 x2 _ k 0 e0))⟩] (by kernel_rfl)
end Go.Ws

namespace Go.Ws
open Go.Proofs
set_option linter.unusedSimpArgs false
set_option linter.unusedVariables false
set_option maxRecDepth 1000000
set_option maxHeartbeats 4000000
noncomputable def X11:Ctx:=⟨Try.f11,[],true⟩
noncomputable def L11_0:Code:=at_ Try.f11 [1,1,1,0,1,4,5]
def S11_0 (x1:Ty7) (bN:Int) (bG:aI):St:=⟨mkT 26 [(0,(.sl 4 (List.map aC x1))),(4,(.ref 2 0 0 0 bG.length .virt)),(5,(.int .i64 bN))],[(.arr 2 (List.map cW bG) 0 0 false)]⟩
def aO9 (aTA:aI):St:=⟨mkT 26 [(4,(.ref 2 0 0 0 aTA.length .virt))],[(.arr 2 (List.map cW aTA) 0 0 false)]⟩
def O11_0 (x1:Ty7) (y:(aI)):GX:=.st (.exit 0) (aO9 y)
theorem uU (x1:Ty7) (y:(aI)):∀(k:Nat) (bN:Int) (bG:aI),gQ k x1 bN bG=some y→LT Try.prog X11 L11_0 (S11_0 x1 bN bG) (O11_0 x1 y)
 | 0,bN,bG,h=>by cases h
 | k+1,bN,bG,h=>by
  rw[gQ] at h
  by_cases cL0:ltI bN 1000=true
  · rw[if_pos cL0] at h
    obtain⟨fS,eL1,h⟩:=bsm h
    let w2:List Prf:=[⟨(uT k x1 bN _ eL1)⟩,⟨cL0⟩]
    by_cases cL2:eqI fS 0=true
    · rw[if_pos cL2] at h
      exact LT.next aF (hs:=⟨[(0,[]),(4,[]),(5,[])],[⟨.tmp 4,[],some 2⟩],false,[],[]⟩) (es:=none) [dt,.call ⟨true,[]⟩ (.int .i64 fS) [],df,.n bG.length,.rows (List.map cW bG)] ([⟨(bK cW (l:=bG) (n:=bG.length) rfl)⟩,⟨(rfl:bG.length=bG.length)⟩,⟨(zle bG.length)⟩,⟨(nF cL2)⟩]++w2) (by kernel_rfl) (uU x1 y k (aL .i64 bN 1) bG h)
    rw[if_neg cL2] at h;replace cL2:=eqf cL2
    by_cases cL3:bC (((bG++[(bN,fS)]).length)*16)=true
    · rw[if_pos cL3] at h
      exact LT.next aF (hs:=⟨[(0,[]),(4,[]),(5,[])],[⟨.tmp 4,[],some 2⟩],false,[],[]⟩) (es:=none) [dt,.call ⟨true,[]⟩ (.int .i64 fS) [],dt,.rows (List.map cW [(bN,fS)]),.n ((bG++[(bN,fS)]).length),.n bG.length,dt,.rows (List.map cW (bG++[(bN,fS)])),.n ((bG++[(bN,fS)]).length),.rows (List.map cW (bG++[(bN,fS)]))] ([⟨(bK cW (l:=(bG++[(bN,fS)])) (n:=((bG++[(bN,fS)]).length)) rfl)⟩,⟨(rfl:(bG++[(bN,fS)]).length=(bG++[(bN,fS)]).length)⟩,⟨(zle ((bG++[(bN,fS)]).length))⟩,⟨(hU cW bG [(bN,fS)])⟩,⟨(fO bG.length)⟩,⟨(aJ cW bG)⟩,⟨cL3⟩,⟨(by simp only[wl,List.length_map,List.map_nil,List.map_cons]<;>omega:bG.length+(List.map cW [(bN,fS)]).length=(bG++[(bN,fS)]).length)⟩,⟨(aV cW (l:=[(bN,fS)]) (n:=1) rfl)⟩,⟨(bV cW (Nat.le_refl 1):0+1≤(List.map cW [(bN,fS)]).length)⟩,⟨(nT cL2)⟩]++w2) (by kernel_rfl) (uU x1 y k (aL .i64 bN 1) (bG++[(bN,fS)]) h)
    rw[if_neg cL3] at h;replace cL3:=eqf cL3
    cases h
  rw[if_neg cL0] at h;replace cL0:=eqf cL0
  obtain rfl:=osi h
  show LT _ _ _ _ (.st (.exit 0) (aO9 bG))
  exact LT.done aF (hs:=⟨[],[],false,[],[]⟩) (es:=(some ⟨[(4,[])],[⟨.tmp 4,[],none⟩],false,[],[]⟩)) [df] [⟨cL0⟩] (by kernel_rfl) (fun s h=>by cases h)
theorem aFH (k:Nat) (x1:Ty7) (r:aI × Int) (h:sW k x1=some r):Tri Try.prog 11 [(.sl 4 (List.map aC x1))] [] (.tup [(.sl 2 (List.map cW r.1)),(.int .i64 r.2)]) []:=by
 unfold sW at h
 obtain⟨x2,e0,h⟩:=bsm h
 let u3:List Ans:=[.call ⟨true,[]⟩ (.bool x2) []]
 by_cases c1:x2=true
 · rw[if_pos c1] at h
   obtain⟨x4,e2,h⟩:=bsm h
   obtain rfl:=osi h
   exact Tri.of (x:=X11) aF aVP (u3++[df,.norm 2 ⟨[(0,[]),(4,[]),(5,[])],[⟨.tmp 4,[],some 2⟩],false,[],[]⟩,.n 0,.rows (List.map cW []),.out (.st .normal (aO9 x4)),.rows (List.map cW x4)]) [⟨(aV cW (l:=x4) (n:=x4.length) rfl)⟩,⟨(bV cW (Nat.le_refl x4.length):0+x4.length≤(List.map cW x4).length)⟩,⟨(LT.block (uU x1 _ k 0 [] e2))⟩,⟨(bK cW (l:=[]) (n:=0) rfl)⟩,⟨(rfl:0=0)⟩,⟨(zle 0)⟩,⟨(nF c1)⟩,⟨(oL k x1 _ e0)⟩] (by kernel_rfl)
 rw[if_neg c1] at h;replace c1:=eqf c1
 obtain rfl:=osi h
 exact Tri.of (x:=X11) aF aVP (u3++[dt,.norm 0 ⟨[(2,[(0,2)]),(3,[])],[],false,[],[]⟩]) [⟨(nT c1)⟩,⟨(oL k x1 _ e0)⟩] (by kernel_rfl)
end Go.Ws

namespace Go.Ws
open Go.Proofs
set_option linter.unusedSimpArgs false
set_option linter.unusedVariables false
set_option maxRecDepth 1000000
set_option maxHeartbeats 4000000
noncomputable def X13:Ctx:=⟨Try.f13,[],true⟩
noncomputable def L13_0:Code:=at_ Try.f13 [1,1,1,0,1,4,5]
def S13_0 (x1:Ty7) (dC:Int) (aY:aI):St:=⟨mkT 47 [(0,(.sl 4 (List.map aC x1))),(4,(.ref 2 0 0 0 aY.length .virt)),(5,(.int .i64 dC))],[(.arr 2 (List.map aB aY) 0 0 false)]⟩
def aPT (aTF:aI):St:=⟨mkT 47 [(4,(.ref 2 0 0 0 aTF.length .virt))],[(.arr 2 (List.map aB aTF) 0 0 false)]⟩
def O13_0 (x1:Ty7) (y:(aI)):GX:=.st (.exit 0) (aPT y)
theorem pG (x1:Ty7) (y:(aI)):∀(k:Nat) (dC:Int) (aY:aI),eS k x1 dC aY=some y→LT Try.prog X13 L13_0 (S13_0 x1 dC aY) (O13_0 x1 y)
 | 0,dC,aY,h=>by cases h
 | k+1,dC,aY,h=>by
  rw[eS] at h
  let w2:List Prf:=[⟨(aJ aC x1)⟩]
  by_cases cL0:ltI dC (nI x1.length)=true
  · rw[if_pos cL0] at h
    by_cases cL1:inI dC x1.length=true
    · rw[if_pos cL1] at h
      obtain⟨eA,eL2,h⟩:=bsm h
      let u3:List Ans:=[.n x1.length,dt,.n x1.length,.row [(.int .i64 eA.1)]]
      let w4:List Prf:=[⟨(aN (e:=aC) eL2 4 0 1 (by decide))⟩,⟨cL1⟩,⟨(aJ aC x1)⟩,⟨cL0⟩]++w2
      by_cases cL3:eqI eA.1 3=true
      · rw[if_pos cL3] at h
        obtain⟨aBY,eL4,h⟩:=bsm h
        let u5:List Ans:=u3++[dt,dt,dt,dt,.n x1.length,dt,dt,.row [(.int .i64 eA.2.1)],dt,.call ⟨true,[]⟩ (.int .i64 aBY) [],dt,dt]
        let w6:List Prf:=[⟨cL3⟩,⟨cL3⟩,⟨(uT k x1 eA.2.1 _ eL4)⟩,⟨cL3⟩,⟨(aN (e:=aC) eL2 4 1 1 (by decide))⟩,⟨cL3⟩,⟨cL3⟩,⟨cL1⟩,⟨(aJ aC x1)⟩,⟨cL3⟩,⟨cL3⟩,⟨cL3⟩,⟨cL3⟩]++w4
        by_cases cL5:eqI aBY 1=true
        · rw[if_pos cL5] at h
          by_cases cL6:bC (((aY++[eA.2.2]).length)*16)=true
          · rw[if_pos cL6] at h
            exact LT.next aF (hs:=⟨[(0,[]),(4,[]),(5,[])],[⟨.tmp 4,[],some 2⟩],false,[],[]⟩) (es:=none) (u5++[dt,.n x1.length,.row [(.int .u8 eA.2.2.1)],.n x1.length,.row [(.int .i64 eA.2.2.2)],.rows (List.map aB [eA.2.2]),.n ((aY++[eA.2.2]).length),.n aY.length,dt,.rows (List.map aB (aY++[eA.2.2])),.n ((aY++[eA.2.2]).length),.rows (List.map aB (aY++[eA.2.2]))]) ([⟨(bK aB (l:=(aY++[eA.2.2])) (n:=((aY++[eA.2.2]).length)) rfl)⟩,⟨(rfl:(aY++[eA.2.2]).length=(aY++[eA.2.2]).length)⟩,⟨(zle ((aY++[eA.2.2]).length))⟩,⟨(hU aB aY [eA.2.2])⟩,⟨(fO aY.length)⟩,⟨(aJ aB aY)⟩,⟨cL6⟩,⟨(by simp only[wl,List.length_map,List.map_nil,List.map_cons]<;>omega:aY.length+(List.map aB [eA.2.2]).length=(aY++[eA.2.2]).length)⟩,⟨(aV aB (l:=[eA.2.2]) (n:=1) rfl)⟩,⟨(bV aB (Nat.le_refl 1):0+1≤(List.map aB [eA.2.2]).length)⟩,⟨(aN (e:=aC) eL2 4 3 1 (by decide))⟩,⟨cL1⟩,⟨(aJ aC x1)⟩,⟨(aN (e:=aC) eL2 4 2 1 (by decide))⟩,⟨cL1⟩,⟨(aJ aC x1)⟩,⟨cL5⟩]++w6) (by kernel_rfl) (pG x1 y k (aL .i64 dC 1) (aY++[eA.2.2]) h)
          rw[if_neg cL6] at h;replace cL6:=eqf cL6
          cases h
        rw[if_neg cL5] at h;replace cL5:=eqf cL5
        exact LT.next aF (hs:=⟨[(0,[]),(4,[]),(5,[])],[⟨.tmp 4,[],some 2⟩],false,[],[]⟩) (es:=none) (u5++[df,.n aY.length,.rows (List.map aB aY)]) ([⟨(bK aB (l:=aY) (n:=aY.length) rfl)⟩,⟨(rfl:aY.length=aY.length)⟩,⟨(zle aY.length)⟩,⟨cL5⟩]++w6) (by kernel_rfl) (pG x1 y k (aL .i64 dC 1) aY h)
      rw[if_neg cL3] at h;replace cL3:=eqf cL3
      exact LT.next aF (hs:=⟨[(0,[]),(4,[]),(5,[])],[⟨.tmp 4,[],some 2⟩],false,[],[]⟩) (es:=none) (u3++[df,df,df,df,df,df,df,df,df,df,.n aY.length,.rows (List.map aB aY)]) ([⟨(bK aB (l:=aY) (n:=aY.length) rfl)⟩,⟨(rfl:aY.length=aY.length)⟩,⟨(zle aY.length)⟩,⟨rF⟩,⟨cL3⟩,⟨cL3⟩,⟨cL3⟩,⟨cL3⟩,⟨cL3⟩,⟨cL3⟩,⟨cL3⟩,⟨cL3⟩,⟨cL3⟩]++w4) (by kernel_rfl) (pG x1 y k (aL .i64 dC 1) aY h)
    rw[if_neg cL1] at h;replace cL1:=eqf cL1
    cases h
  rw[if_neg cL0] at h;replace cL0:=eqf cL0
  obtain rfl:=osi h
  show LT _ _ _ _ (.st (.exit 0) (aPT aY))
  exact LT.done aF (hs:=⟨[],[],false,[],[]⟩) (es:=(some ⟨[(4,[])],[⟨.tmp 4,[],none⟩],false,[],[]⟩)) [.n x1.length,df] ([⟨cL0⟩]++w2) (by kernel_rfl) (fun s h=>by cases h)
theorem aCX (k:Nat) (x1:Ty7) (r:aI × Int) (h:oX k x1=some r):Tri Try.prog 13 [(.sl 4 (List.map aC x1))] [] (.tup [(.sl 2 (List.map aB r.1)),(.int .i64 r.2)]) []:=by
 unfold oX at h
 obtain⟨x2,e0,h⟩:=bsm h
 let u7:List Ans:=[.call ⟨true,[]⟩ (.bool x2) []]
 by_cases c1:x2=true
 · rw[if_pos c1] at h
   obtain⟨x4,e2,h⟩:=bsm h
   obtain⟨x5,e4,h⟩:=bsm h
   obtain rfl:=osi h
   exact Tri.of (x:=X13) aF aWD (u7++[df,.norm 2 ⟨[(0,[]),(4,[]),(5,[])],[⟨.tmp 4,[],some 2⟩],false,[],[]⟩,.n 0,.rows (List.map aB []),.out (.st .normal (aPT x4)),.call ⟨true,[]⟩ (.sl 2 (List.map aB x5)) [],.rows (List.map aB x4)]) [⟨(aI7 k x4 _ e4)⟩,⟨(aV aB (l:=x4) (n:=x4.length) rfl)⟩,⟨(bV aB (Nat.le_refl x4.length):0+x4.length≤(List.map aB x4).length)⟩,⟨(LT.block (pG x1 _ k 0 [] e2))⟩,⟨(bK aB (l:=[]) (n:=0) rfl)⟩,⟨(rfl:0=0)⟩,⟨(zle 0)⟩,⟨(nF c1)⟩,⟨(oL k x1 _ e0)⟩] (by kernel_rfl)
 rw[if_neg c1] at h;replace c1:=eqf c1
 obtain rfl:=osi h
 exact Tri.of (x:=X13) aF aWD (u7++[dt,.norm 0 ⟨[(2,[(0,2)]),(3,[])],[],false,[],[]⟩]) [⟨(nT c1)⟩,⟨(oL k x1 _ e0)⟩] (by kernel_rfl)
end Go.Ws

namespace Go.Ws
open Go.Proofs
set_option linter.unusedSimpArgs false
set_option linter.unusedVariables false
set_option maxRecDepth 1000000
set_option maxHeartbeats 4000000
noncomputable def X15:Ctx:=⟨Try.f15,[],true⟩
noncomputable def L15_0:Code:=at_ Try.f15 [1,1,1,0,1,4,5]
def S15_0 (x1:Ty7) (eB:Int) (dD:Int):St:=⟨mkT 34 [(0,(.sl 4 (List.map aC x1))),(4,(.int .i64 eB)),(5,(.int .i64 dD))],[]⟩
def aO5 (v15002_1:Int):St:=⟨mkT 34 [(4,(.int .i64 v15002_1))],[]⟩
def O15_0 (x1:Ty7) (y:(Int)):GX:=.st (.exit 0) (aO5 y)
theorem oW (x1:Ty7) (y:(Int)):∀(k:Nat) (eB:Int) (dD:Int),eT k x1 eB dD=some y→LT Try.prog X15 L15_0 (S15_0 x1 eB dD) (O15_0 x1 y)
 | 0,eB,dD,h=>by cases h
 | k+1,eB,dD,h=>by
  rw[eT] at h
  let w2:List Prf:=[⟨(aJ aC x1)⟩]
  by_cases cL0:ltI dD (nI x1.length)=true
  · rw[if_pos cL0] at h
    by_cases cL1:inI dD x1.length=true
    · rw[if_pos cL1] at h
      obtain⟨sF,eL2,h⟩:=bsm h
      let u3:List Ans:=[.n x1.length,dt,.n x1.length,.row [(.int .i64 sF.1)]]
      let w4:List Prf:=[⟨(aN (e:=aC) eL2 4 0 1 (by decide))⟩,⟨cL1⟩,⟨(aJ aC x1)⟩,⟨cL0⟩]++w2
      by_cases cL3:eqI sF.1 5=true
      · rw[if_pos cL3] at h
        obtain⟨aBZ,eL4,h⟩:=bsm h
        let u5:List Ans:=u3++[dt,dt,dt,dt,.n x1.length,dt,dt,.row [(.int .i64 sF.2.1)],dt,.call ⟨true,[]⟩ (.int .i64 aBZ) [],dt,dt]
        let w6:List Prf:=[⟨cL3⟩,⟨cL3⟩,⟨(uT k x1 sF.2.1 _ eL4)⟩,⟨cL3⟩,⟨(aN (e:=aC) eL2 4 1 1 (by decide))⟩,⟨cL3⟩,⟨cL3⟩,⟨cL1⟩,⟨(aJ aC x1)⟩,⟨cL3⟩,⟨cL3⟩,⟨cL3⟩,⟨cL3⟩]++w4
        by_cases cL5:eqI aBZ 2=true
        · rw[if_pos cL5] at h
          exact LT.next aF (hs:=⟨[(0,[]),(4,[]),(5,[])],[],false,[],[]⟩) (es:=none) (u5++[dt]) ([⟨cL5⟩]++w6) (by kernel_rfl) (oW x1 y k (aL .i64 eB 1) (aL .i64 dD 1) h)
        rw[if_neg cL5] at h;replace cL5:=eqf cL5
        exact LT.next aF (hs:=⟨[(0,[]),(4,[]),(5,[])],[],false,[],[]⟩) (es:=none) (u5++[df]) ([⟨cL5⟩]++w6) (by kernel_rfl) (oW x1 y k eB (aL .i64 dD 1) h)
      rw[if_neg cL3] at h;replace cL3:=eqf cL3
      exact LT.next aF (hs:=⟨[(0,[]),(4,[]),(5,[])],[],false,[],[]⟩) (es:=none) (u3++[df,df,df,df,df,df,df,df,df,df]) ([⟨rF⟩,⟨cL3⟩,⟨cL3⟩,⟨cL3⟩,⟨cL3⟩,⟨cL3⟩,⟨cL3⟩,⟨cL3⟩,⟨cL3⟩,⟨cL3⟩]++w4) (by kernel_rfl) (oW x1 y k eB (aL .i64 dD 1) h)
    rw[if_neg cL1] at h;replace cL1:=eqf cL1
    cases h
  rw[if_neg cL0] at h;replace cL0:=eqf cL0
  obtain rfl:=osi h
  show LT _ _ _ _ (.st (.exit 0) (aO5 eB))
  exact LT.done aF (hs:=⟨[],[],false,[],[]⟩) (es:=(some ⟨[(4,[])],[],false,[],[]⟩)) [.n x1.length,df] ([⟨cL0⟩]++w2) (by kernel_rfl) (fun s h=>by cases h)
theorem aCV (k:Nat) (x1:Ty7) (r:Int × Int) (h:oY k x1=some r):Tri Try.prog 15 [(.sl 4 (List.map aC x1))] [] (.tup [(.int .i64 r.1),(.int .i64 r.2)]) []:=by
 unfold oY at h
 obtain⟨x2,e0,h⟩:=bsm h
 let u7:List Ans:=[.call ⟨true,[]⟩ (.bool x2) []]
 by_cases c1:x2=true
 · rw[if_pos c1] at h
   obtain⟨x4,e2,h⟩:=bsm h
   obtain rfl:=osi h
   exact Tri.of (x:=X15) aF aU5 (u7++[df,.norm 2 ⟨[(0,[]),(4,[]),(5,[])],[],false,[],[]⟩,.out (.st .normal (aO5 x4))]) [⟨(LT.block (oW x1 _ k 0 0 e2))⟩,⟨(nF c1)⟩,⟨(oL k x1 _ e0)⟩] (by kernel_rfl)
 rw[if_neg c1] at h;replace c1:=eqf c1
 obtain rfl:=osi h
 exact Tri.of (x:=X15) aF aU5 (u7++[dt]) [⟨(nT c1)⟩,⟨(oL k x1 _ e0)⟩] (by kernel_rfl)
end Go.Ws

namespace Go.Ws
open Go.Proofs
set_option linter.unusedSimpArgs false
set_option linter.unusedVariables false
set_option maxRecDepth 1000000
set_option maxHeartbeats 4000000
noncomputable def X16:Ctx:=⟨Try.f16,[],true⟩
noncomputable def L16_0:Code:=at_ Try.f16 [1,1,0,1,4,5]
def S16_0 (x1:aI) (x2:aI) (dE:Int):St:=⟨mkT 26 [(0,(.sl 2 (List.map aB x1))),(1,(.sl 2 (List.map aB x2))),(5,(.int .i64 dE))],[]⟩
def aQG:St:=⟨mkT 26 [],[]⟩
def O16_0 (x1:aI) (x2:aI) (y:qG):GX:=match y with
 | .inl y=>.st (.exit 0) (aQG)
 | .inr y=>.fin (.bool y) []
theorem vA (x1:aI) (x2:aI) (y:qG):∀(k:Nat) (dE:Int),iD k x1 x2 dE=some y→LT Try.prog X16 L16_0 (S16_0 x1 x2 dE) (O16_0 x1 x2 y)
 | 0,dE,h=>by cases h
 | k+1,dE,h=>by
  rw[iD] at h
  by_cases cL0:ltI dE (nI x1.length)=true
  · rw[if_pos cL0] at h
    by_cases cL1:inI dE x1.length=true
    · rw[if_pos cL1] at h
      obtain⟨qZ,eL2,h⟩:=bsm h
      by_cases cL3:inI dE x2.length=true
      · rw[if_pos cL3] at h
        obtain⟨q7,eL4,h⟩:=bsm h
        let u3:List Ans:=[.n x1.length,dt,.n x1.length,.row [(.int .u8 qZ.1),(.int .i64 qZ.2)],.n x2.length,.row [(.int .u8 q7.1),(.int .i64 q7.2)]]
        let w4:List Prf:=[⟨(aN (e:=aB) eL4 2 0 2 (by decide))⟩,⟨cL3⟩,⟨(aJ aB x2)⟩,⟨(aN (e:=aB) eL2 2 0 2 (by decide))⟩,⟨cL1⟩,⟨(aJ aB x1)⟩,⟨cL0⟩,⟨(aJ aB x1)⟩]
        by_cases cL5:eqI qZ.1 q7.1=true
        · rw[if_pos cL5] at h
          by_cases cL6:eqI qZ.2 q7.2=true
          · rw[if_pos cL6] at h
            exact LT.next aF (hs:=⟨[(0,[]),(1,[]),(5,[])],[],false,[],[]⟩) (es:=none) (u3++[df]) ([⟨(nF (aT cL5 cL6))⟩]++w4) (by kernel_rfl) (vA x1 x2 y k (aL .i64 dE 1) h)
          rw[if_neg cL6] at h;replace cL6:=eqf cL6
          obtain rfl:=osi h
          show LT _ _ _ _ (.fin (.bool false) [])
          exact LT.done aF (hs:=⟨[],[],false,[],[]⟩) (es:=none) (u3++[dt]) ([⟨(nT (aF2 cL5 cL6))⟩]++w4) (by kernel_rfl) (fun s h=>by cases h)
        rw[if_neg cL5] at h;replace cL5:=eqf cL5
        obtain rfl:=osi h
        show LT _ _ _ _ (.fin (.bool false) [])
        exact LT.done aF (hs:=⟨[],[],false,[],[]⟩) (es:=none) (u3++[dt]) ([⟨(nT (aF1 (b:=eqI qZ.2 q7.2) cL5))⟩]++w4) (by kernel_rfl) (fun s h=>by cases h)
      rw[if_neg cL3] at h;replace cL3:=eqf cL3
      cases h
    rw[if_neg cL1] at h;replace cL1:=eqf cL1
    cases h
  rw[if_neg cL0] at h;replace cL0:=eqf cL0
  obtain rfl:=osi h
  show LT _ _ _ _ (.st (.exit 0) (aQG))
  exact LT.done aF (hs:=⟨[],[],false,[],[]⟩) (es:=(some ⟨[],[],false,[],[]⟩)) [.n x1.length,df] [⟨cL0⟩,⟨(aJ aB x1)⟩] (by kernel_rfl) (fun s h=>by cases h)
theorem aFM (k:Nat) (x1:aI) (x2:aI) (r:Bool) (h:sU k x1 x2=some r):Tri Try.prog 16 [(.sl 2 (List.map aB x1)),(.sl 2 (List.map aB x2))] [] (.bool r) []:=by
 unfold sU at h
 let w6:List Prf:=[⟨(aJ aB x2)⟩,⟨(aJ aB x1)⟩]
 by_cases c0:eqI (nI x1.length) (nI x2.length)=true
 · rw[if_pos c0] at h
   let u7:List Ans:=[.n x1.length,.n x2.length,df,.norm 2 ⟨[(0,[]),(1,[]),(5,[])],[],false,[],[]⟩]
   obtain⟨x3,e1,h⟩:=bsm h
   cases x3 with
   | inl x4 =>
    simp only[Sum.elim_inl] at h
    obtain rfl:=osi h
    exact Tri.of (x:=X16) aF aPV (u7++[.out (.st .normal (aQG))]) ([⟨(LT.block (vA x1 x2 _ k 0 e1))⟩,⟨(nF c0)⟩]++w6) (by kernel_rfl)
   | inr x4 =>
    simp only[Sum.elim_inr] at h
    obtain rfl:=osi h
    exact Tri.of (x:=X16) aF aPV (u7++[.out (.fin (.bool x4) [])]) ([⟨(LT.blockFin (id:=0) (vA x1 x2 _ k 0 e1))⟩,⟨(nF c0)⟩]++w6) (by kernel_rfl)
 rw[if_neg c0] at h;replace c0:=eqf c0
 obtain rfl:=osi h
 exact Tri.of (x:=X16) aF aPV [.n x1.length,.n x2.length,dt] ([⟨(nT c0)⟩]++w6) (by kernel_rfl)
end Go.Ws

namespace Go.Ws
open Go.Proofs
set_option linter.unusedSimpArgs false
set_option linter.unusedVariables false
set_option maxRecDepth 1000000
set_option maxHeartbeats 4000000
noncomputable def X3:Ctx:=⟨Try.f3,[],true⟩
noncomputable def L3_2:Code:=at_ Try.f3 [1,1,1,1,1,1,1,1,1,1,0,1,4,5]
def S3_2 (x6:aI × Int) (gG:Int):St:=⟨mkT 100 [(3,.mapn),(86,(.sl 2 (List.map cW x6.1))),(87,(.int .i64 (nI x6.1.length))),(88,(.int .i64 gG))],[]⟩
def aTR:St:=⟨mkT 100 [],[]⟩
def O3_2 (x6:aI × Int) (y:qG):GX:=match y with
 | .inl y=>.st (.exit 0) (aTR)
 | .inr y=>.fin (.bool y) []
noncomputable def L3_1:Code:=at_ Try.f3 [1,1,1,1,1,1,1,1,1,1,0,1,4,5]
def S3_1 (x5:aI) (x6:aI × Int) (fK:Int):St:=⟨mkT 100 [(3,(.mp 0)),(86,(.sl 2 (List.map cW x6.1))),(87,(.int .i64 (nI x6.1.length))),(88,(.int .i64 fK))],[(.map (dW .i64 (fun y=>(bW y).headD aP) x5) x5.length)]⟩
def aTI:St:=⟨mkT 100 [],[]⟩
def O3_1 (x5:aI) (x6:aI × Int) (y:qG):GX:=match y with
 | .inl y=>.st (.exit 0) (aTI)
 | .inr y=>.fin (.bool y) []
theorem oV (x6:aI × Int) (y:qG):∀(k:Nat) (gG:Int),dI k x6 gG=some y→LT Try.prog X3 L3_2 (S3_2 x6 gG) (O3_2 x6 y)
 | 0,gG,h=>by cases h
 | k+1,gG,h=>by
  rw[dI] at h
  by_cases cL0:ltI gG (nI x6.1.length)=true
  · rw[if_pos cL0] at h
    by_cases cL1:inI gG x6.1.length=true
    · rw[if_pos cL1] at h
      obtain⟨aCS,eL2,h⟩:=bsm h
      let u1:List Ans:=[dt,.n x6.1.length,.row [(.int .i64 aCS.1),(.int .i64 aCS.2)]]
      let w2:List Prf:=[⟨(aN (e:=cW) eL2 2 0 2 (by decide))⟩,⟨cL1⟩,⟨(aJ cW x6.1)⟩,⟨cL0⟩]
      by_cases cL3:eqI 0 aCS.2=true
      · rw[if_pos cL3] at h
        exact LT.next aF (hs:=⟨[(3,[]),(86,[]),(87,[]),(88,[])],[],false,[],[]⟩) (es:=none) (u1++[df]) ([⟨(nF cL3)⟩]++w2) (by kernel_rfl) (oV x6 y k (aL .i64 gG 1) h)
      rw[if_neg cL3] at h;replace cL3:=eqf cL3
      obtain rfl:=osi h
      show LT _ _ _ _ (.fin (.bool false) [])
      exact LT.done aF (hs:=⟨[],[],false,[],[]⟩) (es:=none) (u1++[dt]) ([⟨(nT cL3)⟩]++w2) (by kernel_rfl) (fun s h=>by cases h)
    rw[if_neg cL1] at h;replace cL1:=eqf cL1
    cases h
  rw[if_neg cL0] at h;replace cL0:=eqf cL0
  obtain rfl:=osi h
  show LT _ _ _ _ (.st (.exit 0) (aTR))
  exact LT.done aF (hs:=⟨[],[],false,[],[]⟩) (es:=(some ⟨[],[],false,[],[]⟩)) [df] [⟨cL0⟩] (by kernel_rfl) (fun s h=>by cases h)
theorem lQ (x5:aI) (x6:aI × Int) (y:qG):∀(k:Nat) (fK:Int),cV k x5 x6 fK=some y→LT Try.prog X3 L3_1 (S3_1 x5 x6 fK) (O3_1 x5 x6 y)
 | 0,fK,h=>by cases h
 | k+1,fK,h=>by
  rw[cV] at h
  by_cases cL0:ltI fK (nI x6.1.length)=true
  · rw[if_pos cL0] at h
    by_cases cL1:inI fK x6.1.length=true
    · rw[if_pos cL1] at h
      obtain⟨pH,eL2,h⟩:=bsm h
      let u3:List Ans:=[dt,.n x6.1.length,.row [(.int .i64 pH.1),(.int .i64 pH.2)]]
      let w4:List Prf:=[⟨(aN (e:=cW) eL2 2 0 2 (by decide))⟩,⟨cL1⟩,⟨(aJ cW x6.1)⟩,⟨cL0⟩]
      by_cases cL3:o8 x5 pH.1=true
      · rw[if_pos cL3] at h
        obtain⟨aE4,eL4,h⟩:=bsm h
        let u5:List Ans:=u3++[.opt (some (.int .i64 aE4))]
        let w6:List Prf:=[⟨(kD .i64 (fun y=>(bW y).headD aP) eL4)⟩]++w4
        by_cases cL5:eqI aE4 pH.2=true
        · rw[if_pos cL5] at h
          exact LT.next aF (hs:=⟨[(3,[]),(86,[]),(87,[]),(88,[])],[⟨.tmp 3,[],none⟩],false,[],[]⟩) (es:=none) (u5++[df]) ([⟨(nF cL5)⟩]++w6) (by kernel_rfl) (lQ x5 x6 y k (aL .i64 fK 1) h)
        rw[if_neg cL5] at h;replace cL5:=eqf cL5
        obtain rfl:=osi h
        show LT _ _ _ _ (.fin (.bool false) [])
        exact LT.done aF (hs:=⟨[],[],false,[],[]⟩) (es:=none) (u5++[dt]) ([⟨(nT cL5)⟩]++w6) (by kernel_rfl) (fun s h=>by cases h)
      rw[if_neg cL3] at h;replace cL3:=eqf cL3
      let w8:List Prf:=[⟨(oJ .i64 (fun y=>(bW y).headD aP) cL3)⟩]++w4
      by_cases cL4:eqI 0 pH.2=true
      · rw[if_pos cL4] at h
        exact LT.next aF (hs:=⟨[(3,[]),(86,[]),(87,[]),(88,[])],[⟨.tmp 3,[],none⟩],false,[],[]⟩) (es:=none) (u3++[.opt none,df]) ([⟨(nF cL4)⟩]++w8) (by kernel_rfl) (lQ x5 x6 y k (aL .i64 fK 1) h)
      rw[if_neg cL4] at h;replace cL4:=eqf cL4
      obtain rfl:=osi h
      show LT _ _ _ _ (.fin (.bool false) [])
      exact LT.done aF (hs:=⟨[],[],false,[],[]⟩) (es:=none) (u3++[.opt none,dt]) ([⟨(nT cL4)⟩]++w8) (by kernel_rfl) (fun s h=>by cases h)
    rw[if_neg cL1] at h;replace cL1:=eqf cL1
    cases h
  rw[if_neg cL0] at h;replace cL0:=eqf cL0
  obtain rfl:=osi h
  show LT _ _ _ _ (.st (.exit 0) (aTI))
  exact LT.done aF (hs:=⟨[],[],false,[],[]⟩) (es:=(some ⟨[],[],false,[],[]⟩)) [df] [⟨cL0⟩] (by kernel_rfl) (fun s h=>by cases h)
theorem aFB (k:Nat) (x1:Ty7) (r:Bool) (h:oB k x1=some r):Tri Try.prog 3 [(.sl 4 (List.map aC x1))] [] (.bool r) []:=by
 unfold oB at h
 obtain⟨x2,e0,h⟩:=bsm h
 let u9:List Ans:=[.call ⟨true,[]⟩ (.bool x2) []]
 by_cases c1:x2=true
 · rw[if_pos c1] at h
   let w12:List Prf:=[⟨(aJ aC x1)⟩,⟨(nF c1)⟩,⟨(aDZ k _ e0)⟩]
   by_cases c2:ltI 100 (nI x1.length)=true
   · rw[if_pos c2] at h
     obtain rfl:=osi h
     exact Tri.of (x:=X3) aF qA (u9++[df,.n x1.length,dt]) ([⟨c2⟩]++w12) (by kernel_rfl)
   rw[if_neg c2] at h;replace c2:=eqf c2
   obtain⟨x3,e3,h⟩:=bsm h
   let u13:List Ans:=u9++[df,.n x1.length,df,.call ⟨true,[]⟩ (.sl 4 (List.map aC x3)) []]
   let w14:List Prf:=[⟨(pM k x1 _ e3)⟩,⟨c2⟩]++w12
   obtain⟨x4,e4,h⟩:=bsm h
   cases x4 with
   | inl x5 =>
    simp only[Sum.elim_inl] at h
    obtain⟨x6,e6,h⟩:=bsm h
    obtain⟨x7,e7,h⟩:=bsm h
    obtain⟨x8,e8,h⟩:=bsm h
    obtain⟨x9,e9,h⟩:=bsm h
    obtain⟨x10,e10,h⟩:=bsm h
    obtain⟨x11,e11,h⟩:=bsm h
    obtain⟨x12,e12,h⟩:=bsm h
    let u15:List Ans:=u13++[.call ⟨true,[]⟩ (.tup [(.mp 0),(.int .i64 0)]) [(.map (dW .i64 (fun y=>(bW y).headD aP) x5) x5.length)],.call ⟨true,[]⟩ (.tup [(.sl 2 (List.map cW x6.1)),(.int .i64 x6.2)]) [],.call ⟨true,[]⟩ (.sl 4 (List.map aC x7)) [],.call ⟨true,[]⟩ (.tup [(.sl 2 (List.map aB x8.1)),(.int .i64 x8.2)]) [],.call ⟨true,[]⟩ (.tup [(.sl 2 (List.map aB x9.1)),(.int .i64 x9.2)]) [],.call ⟨true,[]⟩ (.sl 4 (List.map aC x10)) [],.call ⟨true,[]⟩ (.tup [(.int .i64 x11.1),(.int .i64 x11.2)]) [],.call ⟨true,[]⟩ (.tup [(.int .i64 x12.1),(.int .i64 x12.2)]) []]
    let w16:List Prf:=[⟨(aCV k x1 _ e12)⟩,⟨(sJ k x10 _ e11)⟩,⟨(pM k x1 _ e10)⟩,⟨(aCX k x1 _ e9)⟩,⟨(sL k x7 _ e8)⟩,⟨(pM k x1 _ e7)⟩,⟨(aFH k x1 _ e6)⟩,⟨(iE k x3 (.inl x5) e4)⟩]++w14
    by_cases c13:eqI 0 x6.2=true
    · rw[if_pos c13] at h
      let u17:List Ans:=u15++[df,df,.n x5.length,df,df,.n x6.1.length,df,df]
      let w18:List Prf:=[⟨(nF c13)⟩,⟨(nF c13)⟩,⟨(aJ cW x6.1)⟩,⟨(nF c13)⟩,⟨(nF c13)⟩,⟨(aD6 .i64 (fun y=>(bW y).headD aP) x5)⟩,⟨(nF c13)⟩,⟨(nF c13)⟩]++w16
      by_cases c14:eqI (nI x5.length) (nI x6.1.length)=true
      · rw[if_pos c14] at h
        obtain⟨x13,e15,h⟩:=bsm h
        let u19:List Ans:=u17++[df,df,df,.call ⟨true,[]⟩ (.bool x13) [],df,df]
        let w20:List Prf:=[⟨(nF c14)⟩,⟨(nF c14)⟩,⟨(aFM k x8.1 x9.1 _ e15)⟩,⟨(nF c14)⟩,⟨(nF c14)⟩,⟨(nF c14)⟩]++w18
        by_cases c16:x13=true
        · rw[if_pos c16] at h
          let w22:List Prf:=[⟨(nF c16)⟩,⟨(nF c16)⟩,⟨(nF c16)⟩,⟨(nF c16)⟩]++w20
          by_cases c17:eqI x8.2 x9.2=true
          · rw[if_pos c17] at h
            let u23:List Ans:=u19++[df,df,df,df,df,df,df,df]
            let w24:List Prf:=[⟨(nF c17)⟩,⟨(nF c17)⟩,⟨(nF c17)⟩,⟨(nF c17)⟩]++w22
            by_cases c18:eqI x11.1 x12.1=true
            · rw[if_pos c18] at h
              let w26:List Prf:=[⟨(nF c18)⟩,⟨(nF c18)⟩,⟨(nF c18)⟩,⟨(nF c18)⟩]++w24
              by_cases c19:eqI x11.2 x12.2=true
              · rw[if_pos c19] at h
                let u27:List Ans:=u23++[df,df,df,df,df,.n x6.1.length,.norm 2 ⟨[(3,[]),(86,[]),(87,[]),(88,[])],[⟨.tmp 3,[],none⟩],false,[],[]⟩]
                let w28:List Prf:=[⟨(aJ cW x6.1)⟩,⟨(nF c19)⟩]++w26
                obtain⟨x14,e20,h⟩:=bsm h
                cases x14 with
                | inl x15 =>
                 simp only[Sum.elim_inl] at h
                 obtain rfl:=osi h
                 exact Tri.of (x:=X3) aF qA (u27++[.out (.st .normal (aTI))]) ([⟨(LT.block (lQ x5 x6 _ k 0 e20))⟩]++w28) (by kernel_rfl)
                | inr x15 =>
                 simp only[Sum.elim_inr] at h
                 obtain rfl:=osi h
                 exact Tri.of (x:=X3) aF qA (u27++[.out (.fin (.bool x15) [])]) ([⟨(LT.blockFin (id:=0) (lQ x5 x6 _ k 0 e20))⟩]++w28) (by kernel_rfl)
              rw[if_neg c19] at h;replace c19:=eqf c19
              obtain rfl:=osi h
              exact Tri.of (x:=X3) aF qA (u23++[df,df,df,df,dt]) ([⟨(nT c19)⟩]++w26) (by kernel_rfl)
            rw[if_neg c18] at h;replace c18:=eqf c18
            obtain rfl:=osi h
            exact Tri.of (x:=X3) aF qA (u23++[dt,dt,dt,dt,dt]) ([⟨rT⟩,⟨(nT c18)⟩,⟨(nT c18)⟩,⟨(nT c18)⟩,⟨(nT c18)⟩]++w24) (by kernel_rfl)
          rw[if_neg c17] at h;replace c17:=eqf c17
          obtain rfl:=osi h
          exact Tri.of (x:=X3) aF qA (u19++[df,df,df,df,dt,dt,dt,dt,dt,dt,dt,dt,dt]) ([⟨rT⟩,⟨rT⟩,⟨rT⟩,⟨rT⟩,⟨rT⟩,⟨(nT c17)⟩,⟨(nT c17)⟩,⟨(nT c17)⟩,⟨(nT c17)⟩]++w22) (by kernel_rfl)
        rw[if_neg c16] at h;replace c16:=eqf c16
        obtain rfl:=osi h
        exact Tri.of (x:=X3) aF qA (u19++[dt,dt,dt,dt,dt,dt,dt,dt,dt,dt,dt,dt,dt]) ([⟨rT⟩,⟨rT⟩,⟨rT⟩,⟨rT⟩,⟨rT⟩,⟨rT⟩,⟨rT⟩,⟨rT⟩,⟨rT⟩,⟨(nT c16)⟩,⟨(nT c16)⟩,⟨(nT c16)⟩,⟨(nT c16)⟩]++w20) (by kernel_rfl)
      rw[if_neg c14] at h;replace c14:=eqf c14
      obtain rfl:=osi h
      exact Tri.of (x:=X3) aF qA (u17++[dt,dt,dt,dt,dt,dt,dt,dt,dt,dt,dt,dt,dt,dt,dt,dt,dt,dt]) ([⟨rT⟩,⟨rT⟩,⟨rT⟩,⟨rT⟩,⟨rT⟩,⟨rT⟩,⟨rT⟩,⟨rT⟩,⟨rT⟩,⟨rT⟩,⟨rT⟩,⟨rT⟩,⟨rT⟩,⟨(nT c14)⟩,⟨(nT c14)⟩,⟨(nT c14)⟩,⟨(nT c14)⟩,⟨(nT c14)⟩]++w18) (by kernel_rfl)
    rw[if_neg c13] at h;replace c13:=eqf c13
    obtain rfl:=osi h
    exact Tri.of (x:=X3) aF qA (u15++[dt,dt,dt,dt,dt,dt,dt,dt,dt,dt,dt,dt,dt,dt,dt,dt,dt,dt,dt,dt,dt,dt,dt,dt]) ([⟨rT⟩,⟨rT⟩,⟨rT⟩,⟨rT⟩,⟨rT⟩,⟨rT⟩,⟨rT⟩,⟨rT⟩,⟨rT⟩,⟨rT⟩,⟨rT⟩,⟨rT⟩,⟨rT⟩,⟨rT⟩,⟨rT⟩,⟨rT⟩,⟨rT⟩,⟨rT⟩,⟨(nT c13)⟩,⟨(nT c13)⟩,⟨(nT c13)⟩,⟨(nT c13)⟩,⟨(nT c13)⟩,⟨(nT c13)⟩]++w16) (by kernel_rfl)
   | inr x5 =>
    simp only[Sum.elim_inr] at h
    obtain⟨x6,e6,h⟩:=bsm h
    obtain⟨x7,e7,h⟩:=bsm h
    obtain⟨x8,e8,h⟩:=bsm h
    obtain⟨x9,e9,h⟩:=bsm h
    obtain⟨x10,e10,h⟩:=bsm h
    obtain⟨x11,e11,h⟩:=bsm h
    obtain⟨x12,e12,h⟩:=bsm h
    let u29:List Ans:=u13++[.call ⟨true,[]⟩ (.tup [.mapn,(.int .i64 4)]) [],.call ⟨true,[]⟩ (.tup [(.sl 2 (List.map cW x6.1)),(.int .i64 x6.2)]) [],.call ⟨true,[]⟩ (.sl 4 (List.map aC x7)) [],.call ⟨true,[]⟩ (.tup [(.sl 2 (List.map aB x8.1)),(.int .i64 x8.2)]) [],.call ⟨true,[]⟩ (.tup [(.sl 2 (List.map aB x9.1)),(.int .i64 x9.2)]) [],.call ⟨true,[]⟩ (.sl 4 (List.map aC x10)) [],.call ⟨true,[]⟩ (.tup [(.int .i64 x11.1),(.int .i64 x11.2)]) [],.call ⟨true,[]⟩ (.tup [(.int .i64 x12.1),(.int .i64 x12.2)]) []]
    let w30:List Prf:=[⟨(aCV k x1 _ e12)⟩,⟨(sJ k x10 _ e11)⟩,⟨(pM k x1 _ e10)⟩,⟨(aCX k x1 _ e9)⟩,⟨(sL k x7 _ e8)⟩,⟨(pM k x1 _ e7)⟩,⟨(aFH k x1 _ e6)⟩,⟨(iE k x3 (.inr x5) e4)⟩]++w14
    by_cases c13:eqI 4 x6.2=true
    · rw[if_pos c13] at h
      let u31:List Ans:=u29++[df,df,df,df,.n x6.1.length,df,df]
      let w32:List Prf:=[⟨(nF c13)⟩,⟨(nF c13)⟩,⟨(aJ cW x6.1)⟩,⟨(nF c13)⟩,⟨(nF c13)⟩,⟨(nF c13)⟩,⟨(nF c13)⟩]++w30
      by_cases c14:eqI 0 (nI x6.1.length)=true
      · rw[if_pos c14] at h
        obtain⟨x13,e15,h⟩:=bsm h
        let u33:List Ans:=u31++[df,df,df,.call ⟨true,[]⟩ (.bool x13) [],df,df]
        let w34:List Prf:=[⟨(nF c14)⟩,⟨(nF c14)⟩,⟨(aFM k x8.1 x9.1 _ e15)⟩,⟨(nF c14)⟩,⟨(nF c14)⟩,⟨(nF c14)⟩]++w32
        by_cases c16:x13=true
        · rw[if_pos c16] at h
          let w36:List Prf:=[⟨(nF c16)⟩,⟨(nF c16)⟩,⟨(nF c16)⟩,⟨(nF c16)⟩]++w34
          by_cases c17:eqI x8.2 x9.2=true
          · rw[if_pos c17] at h
            let u37:List Ans:=u33++[df,df,df,df,df,df,df,df]
            let w38:List Prf:=[⟨(nF c17)⟩,⟨(nF c17)⟩,⟨(nF c17)⟩,⟨(nF c17)⟩]++w36
            by_cases c18:eqI x11.1 x12.1=true
            · rw[if_pos c18] at h
              let w40:List Prf:=[⟨(nF c18)⟩,⟨(nF c18)⟩,⟨(nF c18)⟩,⟨(nF c18)⟩]++w38
              by_cases c19:eqI x11.2 x12.2=true
              · rw[if_pos c19] at h
                let u41:List Ans:=u37++[df,df,df,df,df,.n x6.1.length,.norm 2 ⟨[(3,[]),(86,[]),(87,[]),(88,[])],[],false,[],[]⟩]
                let w42:List Prf:=[⟨(aJ cW x6.1)⟩,⟨(nF c19)⟩]++w40
                obtain⟨x14,e20,h⟩:=bsm h
                cases x14 with
                | inl x15 =>
                 simp only[Sum.elim_inl] at h
                 obtain rfl:=osi h
                 exact Tri.of (x:=X3) aF qA (u41++[.out (.st .normal (aTR))]) ([⟨(LT.block (oV x6 _ k 0 e20))⟩]++w42) (by kernel_rfl)
                | inr x15 =>
                 simp only[Sum.elim_inr] at h
                 obtain rfl:=osi h
                 exact Tri.of (x:=X3) aF qA (u41++[.out (.fin (.bool x15) [])]) ([⟨(LT.blockFin (id:=0) (oV x6 _ k 0 e20))⟩]++w42) (by kernel_rfl)
              rw[if_neg c19] at h;replace c19:=eqf c19
              obtain rfl:=osi h
              exact Tri.of (x:=X3) aF qA (u37++[df,df,df,df,dt]) ([⟨(nT c19)⟩]++w40) (by kernel_rfl)
            rw[if_neg c18] at h;replace c18:=eqf c18
            obtain rfl:=osi h
            exact Tri.of (x:=X3) aF qA (u37++[dt,dt,dt,dt,dt]) ([⟨rT⟩,⟨(nT c18)⟩,⟨(nT c18)⟩,⟨(nT c18)⟩,⟨(nT c18)⟩]++w38) (by kernel_rfl)
          rw[if_neg c17] at h;replace c17:=eqf c17
          obtain rfl:=osi h
          exact Tri.of (x:=X3) aF qA (u33++[df,df,df,df,dt,dt,dt,dt,dt,dt,dt,dt,dt]) ([⟨rT⟩,⟨rT⟩,⟨rT⟩,⟨rT⟩,⟨rT⟩,⟨(nT c17)⟩,⟨(nT c17)⟩,⟨(nT c17)⟩,⟨(nT c17)⟩]++w36) (by kernel_rfl)
        rw[if_neg c16] at h;replace c16:=eqf c16
        obtain rfl:=osi h
        exact Tri.of (x:=X3) aF qA (u33++[dt,dt,dt,dt,dt,dt,dt,dt,dt,dt,dt,dt,dt]) ([⟨rT⟩,⟨rT⟩,⟨rT⟩,⟨rT⟩,⟨rT⟩,⟨rT⟩,⟨rT⟩,⟨rT⟩,⟨rT⟩,⟨(nT c16)⟩,⟨(nT c16)⟩,⟨(nT c16)⟩,⟨(nT c16)⟩]++w34) (by kernel_rfl)
      rw[if_neg c14] at h;replace c14:=eqf c14
      obtain rfl:=osi h
      exact Tri.of (x:=X3) aF qA (u31++[dt,dt,dt,dt,dt,dt,dt,dt,dt,dt,dt,dt,dt,dt,dt,dt,dt,dt]) ([⟨rT⟩,⟨rT⟩,⟨rT⟩,⟨rT⟩,⟨rT⟩,⟨rT⟩,⟨rT⟩,⟨rT⟩,⟨rT⟩,⟨rT⟩,⟨rT⟩,⟨rT⟩,⟨rT⟩,⟨(nT c14)⟩,⟨(nT c14)⟩,⟨(nT c14)⟩,⟨(nT c14)⟩,⟨(nT c14)⟩]++w32) (by kernel_rfl)
    rw[if_neg c13] at h;replace c13:=eqf c13
    obtain rfl:=osi h
    exact Tri.of (x:=X3) aF qA (u29++[dt,dt,dt,dt,dt,dt,dt,dt,dt,dt,dt,dt,dt,dt,dt,dt,dt,dt,dt,dt,dt,dt,dt,dt]) ([⟨rT⟩,⟨rT⟩,⟨rT⟩,⟨rT⟩,⟨rT⟩,⟨rT⟩,⟨rT⟩,⟨rT⟩,⟨rT⟩,⟨rT⟩,⟨rT⟩,⟨rT⟩,⟨rT⟩,⟨rT⟩,⟨rT⟩,⟨rT⟩,⟨rT⟩,⟨rT⟩,⟨(nT c13)⟩,⟨(nT c13)⟩,⟨(nT c13)⟩,⟨(nT c13)⟩,⟨(nT c13)⟩,⟨(nT c13)⟩]++w30) (by kernel_rfl)
 rw[if_neg c1] at h;replace c1:=eqf c1
 obtain rfl:=osi h
 exact Tri.of (x:=X3) aF qA (u9++[dt]) [⟨(nT c1)⟩,⟨(aDZ k _ e0)⟩] (by kernel_rfl)
end Go.Ws
