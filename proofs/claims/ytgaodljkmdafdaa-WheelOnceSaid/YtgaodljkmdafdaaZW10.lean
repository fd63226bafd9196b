/-
  law06_alive: what the machine makes of it. (Printed by my own program.)
  Conditions: none.
-/
import Derived.Test.YtgaodljkmdafdaaZPre
import Derived.Test.YtgaodljkmdafdaaZPure
import Derived.Test.YtgaodljkmdafdaaZW11
import Derived.Test.YtgaodljkmdafdaaZW16
import Derived.Test.YtgaodljkmdafdaaZW18
import Derived.Test.YtgaodljkmdafdaaZW20
import Derived.Test.YtgaodljkmdafdaaZW23
set_option linter.unusedVariables false
set_option linter.unusedSimpArgs false
namespace Go.Ws
open Go.Proofs
set_option linter.unusedSimpArgs false
set_option linter.unusedVariables false
set_option maxRecDepth 1000000
set_option maxHeartbeats 4000000
noncomputable def X10:Ctx:=⟨Try.f10,[],true⟩
theorem ok_law06_alive (k:Nat) (r:Bool) (h:law06_alive k=some r):Tri Try.prog 10 [] [] (.bool r) []:=by
 unfold law06_alive at h
 obtain⟨x1,e0,h⟩:=bsm h
 obtain⟨x2,e1,h⟩:=bsm h
 obtain⟨x3,e2,h⟩:=bsm h
 obtain⟨x4,e3,h⟩:=bsm h
 obtain⟨x5,e4,h⟩:=bsm h
 obtain⟨x6,e5,h⟩:=bsm h
 let u1:List Ans:=[.call ⟨true,[[(1,2)]]⟩ (.tup [(.agg [(.int .i64 x1.1),(.sl 2 (List.map e_i64_i64 x1.2.1))]),(.int .i64 x1.2.2)]) [],.call ⟨true,[]⟩ (.tup [(.agg [(.int .i64 x2.1),(.sl 2 (List.map e_i64_i64 x2.2.1))]),(.int .i64 x2.2.2)]) [],.call ⟨true,[]⟩ (.tup [(.int .i64 x3.1),(.bool x3.2)]) [],.call ⟨true,[]⟩ (.tup [(.agg [(.int .i64 x4.1),(.sl 2 (List.map e_i64_i64 x4.2.1))]),(.sl 1 (List.map e_i64 x4.2.2.1)),(.int .i64 x4.2.2.2)]) [],.call ⟨true,[]⟩ (.tup [(.agg [(.int .i64 x5.1),(.sl 2 (List.map e_i64_i64 x5.2.1))]),(.sl 1 (List.map e_i64 x5.2.2.1)),(.int .i64 x5.2.2.2)]) [],.call ⟨true,[]⟩ (.tup [(.agg [(.int .i64 x6.1),(.sl 2 (List.map e_i64_i64 x6.2.1))]),(.int .i64 x6.2.2)]) []]
 let w2:List Prf:=[⟨(ok_wheel_Set k x4.1 x4.2.1 9 4 _ e5)⟩,⟨(ok_wheel_Tick k x4.1 x4.2.1 1 _ e4)⟩,⟨(ok_wheel_Tick k x2.1 x2.2.1 4 _ e3)⟩,⟨(ok_wheel_Next k x2.1 x2.2.1 _ e2)⟩,⟨(ok_wheel_Set k x1.1 x1.2.1 8 3 _ e1)⟩,⟨(ok_wheel_Set k 0 [] 7 5 _ e0)⟩]
 by_cases c6:eqI x1.2.2 0=true
 · rw[if_pos c6] at h
   by_cases c7:eqI x2.2.2 0=true
   · rw[if_pos c7] at h
     let w6:List Prf:=[⟨c7⟩,⟨c7⟩,⟨c7⟩,⟨c6⟩,⟨c6⟩,⟨c6⟩]++w2
     by_cases c8:eqI x3.1 3=true
     · rw[if_pos c8] at h
       let u7:List Ans:=u1++[dt,dt,dt,dt,dt,dt,dt,dt]
       by_cases c9:x3.2=true
       · rw[if_pos c9] at h
         obtain⟨x7,e10,h⟩:=bsm h
         let u9:List Ans:=u7++[dt,dt,dt,.call ⟨true,[]⟩ (.bool x7) [],.rows (List.map e_i64 [8]),dt]
         let w10:List Prf:=[⟨c9⟩,⟨(ok_law06_same k x4.2.2.1 [8] _ e10)⟩,⟨(part_all e_i64 (l:=[8]) (n:=1) rfl)⟩,⟨(le_map e_i64 (Nat.le_refl 1):0+1≤(List.map e_i64 [8]).length)⟩,⟨c9⟩,⟨c9⟩,⟨c9⟩,⟨c8⟩,⟨c8⟩]++w6
         by_cases c11:x7=true
         · rw[if_pos c11] at h
           by_cases c12:eqI x4.2.2.2 0=true
           · rw[if_pos c12] at h
             obtain⟨x8,e13,h⟩:=bsm h
             let u13:List Ans:=u9++[dt,dt,dt,dt,dt,dt,.call ⟨true,[]⟩ (.bool x8) [],.rows (List.map e_i64 [7]),dt]
             let w14:List Prf:=[⟨c12⟩,⟨(ok_law06_same k x5.2.2.1 [7] _ e13)⟩,⟨(part_all e_i64 (l:=[7]) (n:=1) rfl)⟩,⟨(le_map e_i64 (Nat.le_refl 1):0+1≤(List.map e_i64 [7]).length)⟩,⟨c12⟩,⟨c12⟩,⟨c12⟩,⟨c11⟩,⟨c11⟩,⟨c11⟩]++w10
             by_cases c14:x8=true
             · rw[if_pos c14] at h
               by_cases c15:eqI x5.2.2.2 0=true
               · rw[if_pos c15] at h
                 let w18:List Prf:=[⟨c15⟩,⟨c15⟩,⟨c15⟩,⟨c14⟩,⟨c14⟩,⟨c14⟩]++w14
                 by_cases c16:eqI x6.2.2 10=true
                 · rw[if_pos c16] at h
                   obtain⟨x9,e17,h⟩:=bsm h
                   obtain rfl:=osi h
                   exact Tri.of (x:=X10) mixed facts10 (u13++[dt,dt,dt,dt,dt,dt,dt,dt,.call ⟨true,[]⟩ (.bool x9) [],dt]) ([⟨c16⟩,⟨(ok_wheel_Right k x2.1 x2.2.1 _ e17)⟩,⟨c16⟩,⟨c16⟩]++w18) (by kernel_rfl)
                 rw[if_neg c16] at h;replace c16:=eqf c16
                 obtain rfl:=osi h
                 exact Tri.of (x:=X10) mixed facts10 (u13++[dt,dt,dt,dt,dt,dt,df,df,df]) ([⟨c16⟩,⟨c16⟩,⟨c16⟩]++w18) (by kernel_rfl)
               rw[if_neg c15] at h;replace c15:=eqf c15
               obtain rfl:=osi h
               exact Tri.of (x:=X10) mixed facts10 (u13++[dt,dt,dt,df,df,df,df,df,df]) ([⟨rF⟩,⟨rF⟩,⟨rF⟩,⟨c15⟩,⟨c15⟩,⟨c15⟩,⟨c14⟩,⟨c14⟩,⟨c14⟩]++w14) (by kernel_rfl)
             rw[if_neg c14] at h;replace c14:=eqf c14
             obtain rfl:=osi h
             exact Tri.of (x:=X10) mixed facts10 (u13++[df,df,df,df,df,df,df,df,df]) ([⟨rF⟩,⟨rF⟩,⟨rF⟩,⟨rF⟩,⟨rF⟩,⟨rF⟩,⟨c14⟩,⟨c14⟩,⟨c14⟩]++w14) (by kernel_rfl)
           rw[if_neg c12] at h;replace c12:=eqf c12
           obtain rfl:=osi h
           exact Tri.of (x:=X10) mixed facts10 (u9++[dt,dt,dt,df,df,df,df,df,df,df,df,df,df,df,df,df]) ([⟨rF⟩,⟨rF⟩,⟨rF⟩,⟨rF⟩,⟨rF⟩,⟨rF⟩,⟨rF⟩,⟨rF⟩,⟨rF⟩,⟨c12⟩,⟨c12⟩,⟨c12⟩,⟨c12⟩,⟨c11⟩,⟨c11⟩,⟨c11⟩]++w10) (by kernel_rfl)
         rw[if_neg c11] at h;replace c11:=eqf c11
         obtain rfl:=osi h
         exact Tri.of (x:=X10) mixed facts10 (u9++[df,df,df,df,df,df,df,df,df,df,df,df,df,df,df,df]) ([⟨rF⟩,⟨rF⟩,⟨rF⟩,⟨rF⟩,⟨rF⟩,⟨rF⟩,⟨rF⟩,⟨rF⟩,⟨rF⟩,⟨rF⟩,⟨rF⟩,⟨rF⟩,⟨rF⟩,⟨c11⟩,⟨c11⟩,⟨c11⟩]++w10) (by kernel_rfl)
       rw[if_neg c9] at h;replace c9:=eqf c9
       obtain rfl:=osi h
       exact Tri.of (x:=X10) mixed facts10 (u7++[df,df,df,df,df,df,df,df,df,df,df,df,df,df,df,df,df,df,df,df]) ([⟨rF⟩,⟨rF⟩,⟨rF⟩,⟨rF⟩,⟨rF⟩,⟨rF⟩,⟨rF⟩,⟨rF⟩,⟨rF⟩,⟨rF⟩,⟨rF⟩,⟨rF⟩,⟨rF⟩,⟨rF⟩,⟨rF⟩,⟨rF⟩,⟨c9⟩,⟨c9⟩,⟨c9⟩,⟨c9⟩,⟨c8⟩,⟨c8⟩]++w6) (by kernel_rfl)
     rw[if_neg c8] at h;replace c8:=eqf c8
     obtain rfl:=osi h
     exact Tri.of (x:=X10) mixed facts10 (u1++[dt,dt,dt,dt,dt,dt,df,df,df,df,df,df,df,df,df,df,df,df,df,df,df,df,df,df,df,df,df,df]) ([⟨rF⟩,⟨rF⟩,⟨rF⟩,⟨rF⟩,⟨rF⟩,⟨rF⟩,⟨rF⟩,⟨rF⟩,⟨rF⟩,⟨rF⟩,⟨rF⟩,⟨rF⟩,⟨rF⟩,⟨rF⟩,⟨rF⟩,⟨rF⟩,⟨rF⟩,⟨rF⟩,⟨rF⟩,⟨rF⟩,⟨c8⟩,⟨c8⟩]++w6) (by kernel_rfl)
   rw[if_neg c7] at h;replace c7:=eqf c7
   obtain rfl:=osi h
   exact Tri.of (x:=X10) mixed facts10 (u1++[dt,dt,dt,df,df,df,df,df,df,df,df,df,df,df,df,df,df,df,df,df,df,df,df,df,df,df,df,df]) ([⟨rF⟩,⟨rF⟩,⟨rF⟩,⟨rF⟩,⟨rF⟩,⟨rF⟩,⟨rF⟩,⟨rF⟩,⟨rF⟩,⟨rF⟩,⟨rF⟩,⟨rF⟩,⟨rF⟩,⟨rF⟩,⟨rF⟩,⟨rF⟩,⟨rF⟩,⟨rF⟩,⟨rF⟩,⟨rF⟩,⟨rF⟩,⟨rF⟩,⟨c7⟩,⟨c7⟩,⟨c7⟩,⟨c6⟩,⟨c6⟩,⟨c6⟩]++w2) (by kernel_rfl)
 rw[if_neg c6] at h;replace c6:=eqf c6
 obtain rfl:=osi h
 exact Tri.of (x:=X10) mixed facts10 (u1++[df,df,df,df,df,df,df,df,df,df,df,df,df,df,df,df,df,df,df,df,df,df,df,df,df,df,df,df]) ([⟨rF⟩,⟨rF⟩,⟨rF⟩,⟨rF⟩,⟨rF⟩,⟨rF⟩,⟨rF⟩,⟨rF⟩,⟨rF⟩,⟨rF⟩,⟨rF⟩,⟨rF⟩,⟨rF⟩,⟨rF⟩,⟨rF⟩,⟨rF⟩,⟨rF⟩,⟨rF⟩,⟨rF⟩,⟨rF⟩,⟨rF⟩,⟨rF⟩,⟨rF⟩,⟨rF⟩,⟨rF⟩,⟨c6⟩,⟨c6⟩,⟨c6⟩]++w2) (by kernel_rfl)
end Go.Ws
