/-
  wheel_Tick: what the machine makes of it. (Printed by my own program.)
  Conditions: none.
-/
import Derived.Test.YtgaodljkmdafdaaZPre
import Derived.Test.YtgaodljkmdafdaaZPure
import Derived.Test.YtgaodljkmdafdaaZW20
import Derived.Test.YtgaodljkmdafdaaZW24_1
set_option linter.unusedVariables false
set_option linter.unusedSimpArgs false
namespace Go.Ws
open Go.Proofs
set_option linter.unusedSimpArgs false
set_option linter.unusedVariables false
set_option maxRecDepth 1000000
set_option maxHeartbeats 4000000
noncomputable def X16:Ctx:=⟨Try.f16,[],true⟩
noncomputable def L16_0:Code:=at_ Try.f16 [1,1,1,1,1,0,4,5]
def S16_0 (x1:Int) (x3:Int) (v16001_1:Ty1) (v16001_2:List Int):St:=⟨mkT 61 [(2,(.hp 0 0)),(4,(.hp 1 0)),(7,(.ref 1 2 0 0 v16001_2.length .virt))],[(.row [(.int .i64 (iadd .i64 x1 x3)),(.sl 2 (List.map e_i64_i64 v16001_1))]),(.row [(.int .i64 0),.nils]),(.arr 1 (List.map e_i64 v16001_2) 0 0 false)]⟩
def E16_0_1 (x1:Int) (x3:Int) (v16002_1:Ty1) (v16002_2:List Int):St:=⟨mkT 61 [(2,(.hp 0 0)),(4,(.hp 1 0)),(7,(.ref 1 2 0 0 v16002_2.length .virt))],[(.row [(.int .i64 (iadd .i64 x1 x3)),(.sl 2 (List.map e_i64_i64 v16002_1))]),(.row [(.int .i64 0),.nils]),(.arr 1 (List.map e_i64 v16002_2) 0 0 false)]⟩
def O16_0 (x1:Int) (x3:Int) (y:(Ty1 × (List Int))):GX:=.st (.exit 1) (E16_0_1 x1 x3 y.1 y.2)
def A16_0:Ans:=.norm 0 ⟨[(4,[]),(5,[(0,1)]),(6,[])],[⟨.tmp 4,[],none⟩],false,[],[]⟩
theorem ok_wheel_Tick_l0 (x1:Int) (x3:Int) (y:(Ty1 × (List Int))):∀(k:Nat) (v16001_1:Ty1) (v16001_2:List Int),wheel_Tick_l0 k x1 x3 v16001_1 v16001_2=some y→LT Try.prog X16 L16_0 (S16_0 x1 x3 v16001_1 v16001_2) (O16_0 x1 x3 y)
 | 0,v16001_1,v16001_2,h=>by cases h
 | k+1,v16001_1,v16001_2,h=>by
  rw[wheel_Tick_l0] at h
  let w2:List Prf:=[⟨(len_map e_i64_i64 v16001_1)⟩]
  by_cases cL0:ltI 0 (nI v16001_1.length)=true
  · rw[if_pos cL0] at h
    by_cases cL1:inI 0 v16001_1.length=true
    · rw[if_pos cL1] at h
      obtain⟨v16000_1,eL2,h⟩:=bsm h
      let u3:List Ans:=[.n v16001_1.length,dt,dt,dt,.n v16001_1.length,dt,dt,.row [(.int .i64 v16000_1.2)],dt,dt,dt,dt]
      let w4:List Prf:=[⟨cL0⟩,⟨cL0⟩,⟨cL0⟩,⟨cL0⟩,⟨(cells_map (e:=e_i64_i64) eL2 2 1 1 (by decide))⟩,⟨cL0⟩,⟨cL0⟩,⟨cL1⟩,⟨(len_map e_i64_i64 v16001_1)⟩,⟨cL0⟩,⟨cL0⟩,⟨cL0⟩]++w2
      by_cases cL3:ltI (iadd .i64 x1 x3) v16000_1.2=true
      · rw[if_pos cL3] at h
        obtain rfl:=osi h
        show LT _ _ _ _ (.st (.exit 1) (E16_0_1 x1 x3 v16001_1 v16001_2))
        exact LT.done mixed (hs:=⟨[],[],false,[],[]⟩) (es:=(some ⟨[(2,[]),(4,[]),(7,[])],[⟨.tmp 2,[],none⟩,⟨.tmp 4,[],none⟩,⟨.tmp 7,[],none⟩],false,[],[]⟩)) (u3++[df]) ([⟨(nF cL3)⟩]++w4) (by kernel_rfl) (fun s h=>by cases h)
      rw[if_neg cL3] at h;replace cL3:=eqf cL3
      by_cases cL4:roomI (((v16001_2++[v16000_1.1]).length)*8)=true
      · rw[if_pos cL4] at h
        by_cases cL5:leI 1 v16001_1.length=true
        · rw[if_pos cL5] at h
          exact LT.next mixed (hs:=⟨[(2,[]),(4,[]),(7,[])],[⟨.tmp 2,[],none⟩,⟨.tmp 4,[],none⟩,⟨.tmp 7,[],some 1⟩],false,[],[]⟩) (es:=none) (u3++[dt,.n v16001_1.length,.row [(.int .i64 v16000_1.1)],.rows (List.map e_i64 [v16000_1.1]),.n ((v16001_2++[v16000_1.1]).length),.n v16001_2.length,dt,.rows (List.map e_i64 (v16001_2++[v16000_1.1])),.n v16001_1.length,.rows (List.map e_i64_i64 (List.drop 1 v16001_1)),.n ((v16001_2++[v16000_1.1]).length),.rows (List.map e_i64 (v16001_2++[v16000_1.1]))]) ([⟨(take_all e_i64 (l:=(v16001_2++[v16000_1.1])) (n:=((v16001_2++[v16000_1.1]).length)) rfl)⟩,⟨(rfl:(v16001_2++[v16000_1.1]).length=(v16001_2++[v16000_1.1]).length)⟩,⟨(zle ((v16001_2++[v16000_1.1]).length))⟩,⟨(cut_drop e_i64_i64 (l:=v16001_1) (n:=v16001_1.length) rfl 1)⟩,⟨cL5⟩,⟨(len_map e_i64_i64 v16001_1)⟩,⟨(app_map e_i64 v16001_2 [v16000_1.1])⟩,⟨(eqN_self v16001_2.length)⟩,⟨(len_map e_i64 v16001_2)⟩,⟨cL4⟩,⟨(by simp only[wl,List.length_map,List.map_nil,List.map_cons]<;>omega:v16001_2.length+(List.map e_i64 [v16000_1.1]).length=(v16001_2++[v16000_1.1]).length)⟩,⟨(part_all e_i64 (l:=[v16000_1.1]) (n:=1) rfl)⟩,⟨(le_map e_i64 (Nat.le_refl 1):0+1≤(List.map e_i64 [v16000_1.1]).length)⟩,⟨(cells_map (e:=e_i64_i64) eL2 2 0 1 (by decide))⟩,⟨cL1⟩,⟨(len_map e_i64_i64 v16001_1)⟩,⟨(nT cL3)⟩]++w4) (by kernel_rfl) (ok_wheel_Tick_l0 x1 x3 y k (List.drop 1 v16001_1) (v16001_2++[v16000_1.1]) h)
        rw[if_neg cL5] at h;replace cL5:=eqf cL5
        cases h
      rw[if_neg cL4] at h;replace cL4:=eqf cL4
      cases h
    rw[if_neg cL1] at h;replace cL1:=eqf cL1
    cases h
  rw[if_neg cL0] at h;replace cL0:=eqf cL0
  obtain rfl:=osi h
  show LT _ _ _ _ (.st (.exit 1) (E16_0_1 x1 x3 v16001_1 v16001_2))
  exact LT.done mixed (hs:=⟨[],[],false,[],[]⟩) (es:=(some ⟨[(2,[]),(4,[]),(7,[])],[⟨.tmp 2,[],none⟩,⟨.tmp 4,[],none⟩,⟨.tmp 7,[],none⟩],false,[],[]⟩)) [.n v16001_1.length,df,df,df,df,df,df,df,df,df,df] ([⟨rF⟩,⟨cL0⟩,⟨cL0⟩,⟨cL0⟩,⟨cL0⟩,⟨cL0⟩,⟨cL0⟩,⟨cL0⟩,⟨cL0⟩,⟨cL0⟩]++w2) (by kernel_rfl) (fun s h=>by cases h)
theorem ok_wheel_Tick (k:Nat) (x1:Int) (x2:Ty1) (x3:Int) (r:Int × Ty1 × (List Int) × Int) (h:wheel_Tick k x1 x2 x3=some r):Tri Try.prog 16 [(.agg [(.int .i64 x1),(.sl 2 (List.map e_i64_i64 x2))]),(.int .i64 x3)] [] (.tup [(.agg [(.int .i64 r.1),(.sl 2 (List.map e_i64_i64 r.2.1))]),(.sl 1 (List.map e_i64 r.2.2.1)),(.int .i64 r.2.2.2)]) []:=by
 unfold wheel_Tick at h
 obtain⟨x4,e0,h⟩:=bsm h
 obtain⟨x5,e1,h⟩:=bsm h
 let u5:List Ans:=[.call ⟨true,[]⟩ (.sl 2 (List.map e_i64_i64 x2)) [],.call ⟨true,[]⟩ (.bool x5) []]
 let w6:List Prf:=[⟨(ok_wheel_Right k x1 x2 _ e1)⟩,⟨(ok_slices_Clone_1 k x2 _ e0)⟩]
 by_cases c2:x5=true
 · rw[if_pos c2] at h
   let w8:List Prf:=[⟨(nF c2)⟩,⟨(nF c2)⟩,⟨(nF c2)⟩]++w6
   by_cases c3:ltI x3 0=true
   · rw[if_pos c3] at h
     obtain rfl:=osi h
     exact Tri.of (x:=X16) mixed facts16 (u5++[df,df,df,dt,A16_0]) ([⟨c3⟩]++w8) (by kernel_rfl)
   rw[if_neg c3] at h;replace c3:=eqf c3
   by_cases c4:ltI (isub .i64 1099511627776 x1) x3=true
   · rw[if_pos c4] at h
     obtain rfl:=osi h
     exact Tri.of (x:=X16) mixed facts16 (u5++[df,df,df,df,dt,A16_0]) ([⟨c4⟩,⟨c3⟩]++w8) (by kernel_rfl)
   rw[if_neg c4] at h;replace c4:=eqf c4
   obtain⟨x7,e5,h⟩:=bsm h
   obtain rfl:=osi h
   exact Tri.of (x:=X16) mixed facts16 (u5++[df,df,df,df,df,.norm 5 ⟨[(2,[]),(4,[]),(7,[])],[⟨.tmp 2,[],none⟩,⟨.tmp 4,[],none⟩,⟨.tmp 7,[],some 1⟩],false,[],[]⟩,.n 0,.rows (List.map e_i64 []),.out (.st .normal (E16_0_1 x1 x3 x7.1 x7.2)),.rows (List.map e_i64 x7.2)]) ([⟨(part_all e_i64 (l:=x7.2) (n:=x7.2.length) rfl)⟩,⟨(le_map e_i64 (Nat.le_refl x7.2.length):0+x7.2.length≤(List.map e_i64 x7.2).length)⟩,⟨(LT.block (ok_wheel_Tick_l0 x1 x3 _ k x2 [] e5))⟩,⟨(take_all e_i64 (l:=[]) (n:=0) rfl)⟩,⟨(rfl:0=0)⟩,⟨(zle 0)⟩,⟨c4⟩,⟨c3⟩]++w8) (by kernel_rfl)
 rw[if_neg c2] at h;replace c2:=eqf c2
 obtain rfl:=osi h
 exact Tri.of (x:=X16) mixed facts16 (u5++[dt,dt,dt,dt,A16_0]) ([⟨rT⟩,⟨(nT c2)⟩,⟨(nT c2)⟩,⟨(nT c2)⟩]++w6) (by kernel_rfl)
end Go.Ws
