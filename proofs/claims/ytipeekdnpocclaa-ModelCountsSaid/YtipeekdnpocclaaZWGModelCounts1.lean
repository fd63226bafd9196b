/-
  Walks, merged.
  Conditions: none.
-/
import Derived.Test.YtipeekdnpocclaaZPre
import Derived.Test.YtipeekdnpocclaaZPure
import Derived.Test.YtipeekdnpocclaaZWGModelCounts0
set_option linter.unusedVariables false
set_option linter.unusedSimpArgs false
namespace Go.Ws
open Go.Proofs
set_option linter.unusedSimpArgs false
set_option linter.unusedVariables false
set_option maxRecDepth 1000000
set_option maxHeartbeats 4000000
noncomputable def X8:Ctx:=⟨Try.f8,[],true⟩
def vT:Ans:=.call ⟨true,[]⟩ (.sl 4 (List.map aA aC)) []
def xN (x2:aL):Ans:=.call ⟨true,[]⟩ (.tup [(.mp 0),(.int .i64 0)]) [(.map (aJ .i64 (fun y=>(aG y).headD aD) x2) x2.length)]
def v9 (x3:Int × Int):Ans:=.call ⟨true,[]⟩ (.tup [(.int .i64 x3.1),(.int .i64 x3.2)]) []
def vV (x4:aL × Int):Ans:=.call ⟨true,[]⟩ (.tup [(.sl 2 (List.map aB x4.1)),(.int .i64 x4.2)]) []
def v4:Ans:=.rows (List.map aA (List.drop 1 aC))
def A8_5 (x6:aL):Ans:=.call ⟨true,[]⟩ (.tup [(.mp 0),(.int .i64 0)]) [(.map (aJ .i64 (fun y=>(aG y).headD aD) x6) x6.length)]
def aDI:Ans:=.call ⟨true,[]⟩ (.tup [.mapn,(.int .i64 4)]) []
def A8_7 (x2:aL):Ans:=.call ⟨true,[]⟩ (.bool (pQ x2)) [(.map (aJ .i64 (fun y=>(aG y).headD aD) x2) x2.length)]
theorem iJ (k:Nat) (r:Bool) (h:pM k=some r):Tri Try.prog 8 [] [] (.bool r) []:=by
 unfold pM at h
 by_cases c0:eqI (nI aC.length) 0=true
 · rw[if_pos c0] at h
   obtain rfl:=osi h
   exact Tri.of (x:=X8) aH l9 [vT,.n aC.length,dt] [⟨c0⟩,⟨(aK aA aC)⟩,⟨(bQ)⟩] (by kernel_rfl)
 rw[if_neg c0] at h;replace c0:=eqf c0
 obtain⟨x1,e1,h⟩:=bsm h
 cases x1 with
 | inl x2 =>
  simp only[Sum.elim_inl] at h
  obtain⟨x3,e3,h⟩:=bsm h
  obtain⟨x4,e4,h⟩:=bsm h
  by_cases c5:leI 1 aC.length=true
  · rw[if_pos c5] at h
    obtain⟨x5,e6,h⟩:=bsm h
    cases x5 with
    | inl x6 =>
     simp only[Sum.elim_inl] at h
     by_cases c8:eqI (nI x2.length) 1=true
     · rw[if_pos c8] at h
       by_cases c9:nL x2 1=true
       · rw[if_pos c9] at h
         obtain⟨x7,e10,h⟩:=bsm h
         by_cases c11:eqI x7 2=true
         · rw[if_pos c11] at h
           by_cases c12:eqI x3.1 1=true
           · rw[if_pos c12] at h
             by_cases c13:eqI x3.2 0=true
             · rw[if_pos c13] at h
               by_cases c14:eqI (nI x4.1.length) 0=true
               · rw[if_pos c14] at h
                 by_cases c15:eqI x4.2 0=true
                 · rw[if_pos c15] at h
                   obtain rfl:=osi h
                   exact Tri.of (x:=X8) aH l9 [vT,.n aC.length,df,(xN x2),(v9 x3),(vV x4),.n aC.length,v4,(A8_5 x6),dt,dt,.n x2.length,dt,dt,dt,dt,.opt (some (.int .i64 x7)),dt,dt,dt,dt,dt,dt,dt,dt,dt,dt,.n x4.1.length,dt,dt,dt,dt,dt,dt,dt,dt,df,df,df,df,df,df,df,df,df,df,df,df,df] [⟨rF⟩,⟨rF⟩,⟨rF⟩,⟨rF⟩,⟨rF⟩,⟨rF⟩,⟨rF⟩,⟨rF⟩,⟨(rfl:eqI 0 4=false)⟩,⟨(rfl:eqI 0 4=false)⟩,⟨(rfl:eqI 0 4=false)⟩,⟨(rfl:eqI 0 4=false)⟩,⟨(rfl:eqI 0 4=false)⟩,⟨c15⟩,⟨c15⟩,⟨c15⟩,⟨c14⟩,⟨c14⟩,⟨c14⟩,⟨c13⟩,⟨c13⟩,⟨(aK aB x4.1)⟩,⟨c13⟩,⟨c13⟩,⟨c12⟩,⟨c12⟩,⟨c12⟩,⟨c11⟩,⟨c11⟩,⟨c11⟩,⟨c8⟩,⟨c8⟩,⟨(dC .i64 (fun y=>(aG y).headD aD) e10)⟩,⟨c8⟩,⟨c8⟩,⟨(rfl:eqI 0 0=true)⟩,⟨(rfl:eqI 0 0=true)⟩,⟨(eW .i64 (fun y=>(aG y).headD aD) x2)⟩,⟨(rfl:eqI 0 0=true)⟩,⟨(rfl:eqI 0 0=true)⟩,⟨(aQ k (List.drop 1 aC) (.inl x6) e6)⟩,⟨(iD aA (l:=aC) (n:=aC.length) rfl 1)⟩,⟨c5⟩,⟨(aK aA aC)⟩,⟨(bE k aC _ e4)⟩,⟨(aU k aC _ e3)⟩,⟨(aQ k aC (.inl x2) e1)⟩,⟨c0⟩,⟨(aK aA aC)⟩,⟨(bQ)⟩] (by kernel_rfl)
                 rw[if_neg c15] at h;replace c15:=eqf c15
                 obtain rfl:=osi h
                 exact Tri.of (x:=X8) aH l9 [vT,.n aC.length,df,(xN x2),(v9 x3),(vV x4),.n aC.length,v4,(A8_5 x6),dt,dt,.n x2.length,dt,dt,dt,dt,.opt (some (.int .i64 x7)),dt,dt,dt,dt,dt,dt,dt,dt,dt,dt,.n x4.1.length,dt,dt,dt,dt,dt,df,df,df,df,df,df,df,df,df,df,df,df,df,df,df,df] [⟨rF⟩,⟨rF⟩,⟨rF⟩,⟨rF⟩,⟨rF⟩,⟨rF⟩,⟨rF⟩,⟨rF⟩,⟨rF⟩,⟨rF⟩,⟨rF⟩,⟨rF⟩,⟨rF⟩,⟨c15⟩,⟨c15⟩,⟨c15⟩,⟨c14⟩,⟨c14⟩,⟨c14⟩,⟨c13⟩,⟨c13⟩,⟨(aK aB x4.1)⟩,⟨c13⟩,⟨c13⟩,⟨c12⟩,⟨c12⟩,⟨c12⟩,⟨c11⟩,⟨c11⟩,⟨c11⟩,⟨c8⟩,⟨c8⟩,⟨(dC .i64 (fun y=>(aG y).headD aD) e10)⟩,⟨c8⟩,⟨c8⟩,⟨(rfl:eqI 0 0=true)⟩,⟨(rfl:eqI 0 0=true)⟩,⟨(eW .i64 (fun y=>(aG y).headD aD) x2)⟩,⟨(rfl:eqI 0 0=true)⟩,⟨(rfl:eqI 0 0=true)⟩,⟨(aQ k (List.drop 1 aC) (.inl x6) e6)⟩,⟨(iD aA (l:=aC) (n:=aC.length) rfl 1)⟩,⟨c5⟩,⟨(aK aA aC)⟩,⟨(bE k aC _ e4)⟩,⟨(aU k aC _ e3)⟩,⟨(aQ k aC (.inl x2) e1)⟩,⟨c0⟩,⟨(aK aA aC)⟩,⟨(bQ)⟩] (by kernel_rfl)
               rw[if_neg c14] at h;replace c14:=eqf c14
               obtain rfl:=osi h
               exact Tri.of (x:=X8) aH l9 [vT,.n aC.length,df,(xN x2),(v9 x3),(vV x4),.n aC.length,v4,(A8_5 x6),dt,dt,.n x2.length,dt,dt,dt,dt,.opt (some (.int .i64 x7)),dt,dt,dt,dt,dt,dt,dt,dt,dt,dt,.n x4.1.length,dt,dt,df,df,df,df,df,df,df,df,df,df,df,df,df,df,df,df,df,df,df] [⟨rF⟩,⟨rF⟩,⟨rF⟩,⟨rF⟩,⟨rF⟩,⟨rF⟩,⟨rF⟩,⟨rF⟩,⟨rF⟩,⟨rF⟩,⟨rF⟩,⟨rF⟩,⟨rF⟩,⟨rF⟩,⟨rF⟩,⟨rF⟩,⟨c14⟩,⟨c14⟩,⟨c14⟩,⟨c13⟩,⟨c13⟩,⟨(aK aB x4.1)⟩,⟨c13⟩,⟨c13⟩,⟨c12⟩,⟨c12⟩,⟨c12⟩,⟨c11⟩,⟨c11⟩,⟨c11⟩,⟨c8⟩,⟨c8⟩,⟨(dC .i64 (fun y=>(aG y).headD aD) e10)⟩,⟨c8⟩,⟨c8⟩,⟨(rfl:eqI 0 0=true)⟩,⟨(rfl:eqI 0 0=true)⟩,⟨(eW .i64 (fun y=>(aG y).headD aD) x2)⟩,⟨(rfl:eqI 0 0=true)⟩,⟨(rfl:eqI 0 0=true)⟩,⟨(aQ k (List.drop 1 aC) (.inl x6) e6)⟩,⟨(iD aA (l:=aC) (n:=aC.length) rfl 1)⟩,⟨c5⟩,⟨(aK aA aC)⟩,⟨(bE k aC _ e4)⟩,⟨(aU k aC _ e3)⟩,⟨(aQ k aC (.inl x2) e1)⟩,⟨c0⟩,⟨(aK aA aC)⟩,⟨(bQ)⟩] (by kernel_rfl)
             rw[if_neg c13] at h;replace c13:=eqf c13
             obtain rfl:=osi h
             exact Tri.of (x:=X8) aH l9 [vT,.n aC.length,df,(xN x2),(v9 x3),(vV x4),.n aC.length,v4,(A8_5 x6),dt,dt,.n x2.length,dt,dt,dt,dt,.opt (some (.int .i64 x7)),dt,dt,dt,dt,dt,dt,dt,dt,df,df,df,df,df,df,df,df,df,df,df,df,df,df,df,df,df,df,df,df,df,df,df] [⟨rF⟩,⟨rF⟩,⟨rF⟩,⟨rF⟩,⟨rF⟩,⟨rF⟩,⟨rF⟩,⟨rF⟩,⟨rF⟩,⟨rF⟩,⟨rF⟩,⟨rF⟩,⟨rF⟩,⟨rF⟩,⟨rF⟩,⟨rF⟩,⟨rF⟩,⟨rF⟩,⟨rF⟩,⟨c13⟩,⟨c13⟩,⟨c13⟩,⟨c13⟩,⟨c12⟩,⟨c12⟩,⟨c12⟩,⟨c11⟩,⟨c11⟩,⟨c11⟩,⟨c8⟩,⟨c8⟩,⟨(dC .i64 (fun y=>(aG y).headD aD) e10)⟩,⟨c8⟩,⟨c8⟩,⟨(rfl:eqI 0 0=true)⟩,⟨(rfl:eqI 0 0=true)⟩,⟨(eW .i64 (fun y=>(aG y).headD aD) x2)⟩,⟨(rfl:eqI 0 0=true)⟩,⟨(rfl:eqI 0 0=true)⟩,⟨(aQ k (List.drop 1 aC) (.inl x6) e6)⟩,⟨(iD aA (l:=aC) (n:=aC.length) rfl 1)⟩,⟨c5⟩,⟨(aK aA aC)⟩,⟨(bE k aC _ e4)⟩,⟨(aU k aC _ e3)⟩,⟨(aQ k aC (.inl x2) e1)⟩,⟨c0⟩,⟨(aK aA aC)⟩,⟨(bQ)⟩] (by kernel_rfl)
           rw[if_neg c12] at h;replace c12:=eqf c12
           obtain rfl:=osi h
           exact Tri.of (x:=X8) aH l9 [vT,.n aC.length,df,(xN x2),(v9 x3),(vV x4),.n aC.length,v4,(A8_5 x6),dt,dt,.n x2.length,dt,dt,dt,dt,.opt (some (.int .i64 x7)),dt,dt,dt,dt,dt,df,df,df,df,df,df,df,df,df,df,df,df,df,df,df,df,df,df,df,df,df,df,df,df,df,df] [⟨rF⟩,⟨rF⟩,⟨rF⟩,⟨rF⟩,⟨rF⟩,⟨rF⟩,⟨rF⟩,⟨rF⟩,⟨rF⟩,⟨rF⟩,⟨rF⟩,⟨rF⟩,⟨rF⟩,⟨rF⟩,⟨rF⟩,⟨rF⟩,⟨rF⟩,⟨rF⟩,⟨rF⟩,⟨rF⟩,⟨rF⟩,⟨rF⟩,⟨rF⟩,⟨c12⟩,⟨c12⟩,⟨c12⟩,⟨c11⟩,⟨c11⟩,⟨c11⟩,⟨c8⟩,⟨c8⟩,⟨(dC .i64 (fun y=>(aG y).headD aD) e10)⟩,⟨c8⟩,⟨c8⟩,⟨(rfl:eqI 0 0=true)⟩,⟨(rfl:eqI 0 0=true)⟩,⟨(eW .i64 (fun y=>(aG y).headD aD) x2)⟩,⟨(rfl:eqI 0 0=true)⟩,⟨(rfl:eqI 0 0=true)⟩,⟨(aQ k (List.drop 1 aC) (.inl x6) e6)⟩,⟨(iD aA (l:=aC) (n:=aC.length) rfl 1)⟩,⟨c5⟩,⟨(aK aA aC)⟩,⟨(bE k aC _ e4)⟩,⟨(aU k aC _ e3)⟩,⟨(aQ k aC (.inl x2) e1)⟩,⟨c0⟩,⟨(aK aA aC)⟩,⟨(bQ)⟩] (by kernel_rfl)
         rw[if_neg c11] at h;replace c11:=eqf c11
         obtain rfl:=osi h
         exact Tri.of (x:=X8) aH l9 [vT,.n aC.length,df,(xN x2),(v9 x3),(vV x4),.n aC.length,v4,(A8_5 x6),dt,dt,.n x2.length,dt,dt,dt,dt,.opt (some (.int .i64 x7)),dt,dt,df,df,df,df,df,df,df,df,df,df,df,df,df,df,df,df,df,df,df,df,df,df,df,df,df,df,df,df,df] [⟨rF⟩,⟨rF⟩,⟨rF⟩,⟨rF⟩,⟨rF⟩,⟨rF⟩,⟨rF⟩,⟨rF⟩,⟨rF⟩,⟨rF⟩,⟨rF⟩,⟨rF⟩,⟨rF⟩,⟨rF⟩,⟨rF⟩,⟨rF⟩,⟨rF⟩,⟨rF⟩,⟨rF⟩,⟨rF⟩,⟨rF⟩,⟨rF⟩,⟨rF⟩,⟨rF⟩,⟨rF⟩,⟨rF⟩,⟨c11⟩,⟨c11⟩,⟨c11⟩,⟨c8⟩,⟨c8⟩,⟨(dC .i64 (fun y=>(aG y).headD aD) e10)⟩,⟨c8⟩,⟨c8⟩,⟨(rfl:eqI 0 0=true)⟩,⟨(rfl:eqI 0 0=true)⟩,⟨(eW .i64 (fun y=>(aG y).headD aD) x2)⟩,⟨(rfl:eqI 0 0=true)⟩,⟨(rfl:eqI 0 0=true)⟩,⟨(aQ k (List.drop 1 aC) (.inl x6) e6)⟩,⟨(iD aA (l:=aC) (n:=aC.length) rfl 1)⟩,⟨c5⟩,⟨(aK aA aC)⟩,⟨(bE k aC _ e4)⟩,⟨(aU k aC _ e3)⟩,⟨(aQ k aC (.inl x2) e1)⟩,⟨c0⟩,⟨(aK aA aC)⟩,⟨(bQ)⟩] (by kernel_rfl)
       rw[if_neg c9] at h;replace c9:=eqf c9
       obtain rfl:=osi h
       exact Tri.of (x:=X8) aH l9 [vT,.n aC.length,df,(xN x2),(v9 x3),(vV x4),.n aC.length,v4,(A8_5 x6),dt,dt,.n x2.length,dt,dt,dt,dt,.opt none,dt,dt,df,df,df,df,df,df,df,df,df,df,df,df,df,df,df,df,df,df,df,df,df,df,df,df,df,df,df,df,df] [⟨rF⟩,⟨rF⟩,⟨rF⟩,⟨rF⟩,⟨rF⟩,⟨rF⟩,⟨rF⟩,⟨rF⟩,⟨rF⟩,⟨rF⟩,⟨rF⟩,⟨rF⟩,⟨rF⟩,⟨rF⟩,⟨rF⟩,⟨rF⟩,⟨rF⟩,⟨rF⟩,⟨rF⟩,⟨rF⟩,⟨rF⟩,⟨rF⟩,⟨rF⟩,⟨rF⟩,⟨rF⟩,⟨rF⟩,⟨(rfl:eqI 0 2=false)⟩,⟨(rfl:eqI 0 2=false)⟩,⟨(rfl:eqI 0 2=false)⟩,⟨c8⟩,⟨c8⟩,⟨(kX .i64 (fun y=>(aG y).headD aD) c9)⟩,⟨c8⟩,⟨c8⟩,⟨(rfl:eqI 0 0=true)⟩,⟨(rfl:eqI 0 0=true)⟩,⟨(eW .i64 (fun y=>(aG y).headD aD) x2)⟩,⟨(rfl:eqI 0 0=true)⟩,⟨(rfl:eqI 0 0=true)⟩,⟨(aQ k (List.drop 1 aC) (.inl x6) e6)⟩,⟨(iD aA (l:=aC) (n:=aC.length) rfl 1)⟩,⟨c5⟩,⟨(aK aA aC)⟩,⟨(bE k aC _ e4)⟩,⟨(aU k aC _ e3)⟩,⟨(aQ k aC (.inl x2) e1)⟩,⟨c0⟩,⟨(aK aA aC)⟩,⟨(bQ)⟩] (by kernel_rfl)
     rw[if_neg c8] at h;replace c8:=eqf c8
     obtain rfl:=osi h
     exact Tri.of (x:=X8) aH l9 [vT,.n aC.length,df,(xN x2),(v9 x3),(vV x4),.n aC.length,v4,(A8_5 x6),dt,dt,.n x2.length,dt,dt,df,df,df,df,df,df,df,df,df,df,df,df,df,df,df,df,df,df,df,df,df,df,df,df,df,df,df,df,df,df,df,df,df] [⟨rF⟩,⟨rF⟩,⟨rF⟩,⟨rF⟩,⟨rF⟩,⟨rF⟩,⟨rF⟩,⟨rF⟩,⟨rF⟩,⟨rF⟩,⟨rF⟩,⟨rF⟩,⟨rF⟩,⟨rF⟩,⟨rF⟩,⟨rF⟩,⟨rF⟩,⟨rF⟩,⟨rF⟩,⟨rF⟩,⟨rF⟩,⟨rF⟩,⟨rF⟩,⟨rF⟩,⟨rF⟩,⟨rF⟩,⟨rF⟩,⟨rF⟩,⟨rF⟩,⟨c8⟩,⟨c8⟩,⟨c8⟩,⟨c8⟩,⟨(rfl:eqI 0 0=true)⟩,⟨(rfl:eqI 0 0=true)⟩,⟨(eW .i64 (fun y=>(aG y).headD aD) x2)⟩,⟨(rfl:eqI 0 0=true)⟩,⟨(rfl:eqI 0 0=true)⟩,⟨(aQ k (List.drop 1 aC) (.inl x6) e6)⟩,⟨(iD aA (l:=aC) (n:=aC.length) rfl 1)⟩,⟨c5⟩,⟨(aK aA aC)⟩,⟨(bE k aC _ e4)⟩,⟨(aU k aC _ e3)⟩,⟨(aQ k aC (.inl x2) e1)⟩,⟨c0⟩,⟨(aK aA aC)⟩,⟨(bQ)⟩] (by kernel_rfl)
    | inr x6 =>
     simp only[Sum.elim_inr] at h
     by_cases c8:eqI (nI x2.length) 1=true
     · rw[if_pos c8] at h
       by_cases c9:nL x2 1=true
       · rw[if_pos c9] at h
         obtain⟨x7,e10,h⟩:=bsm h
         by_cases c11:eqI x7 2=true
         · rw[if_pos c11] at h
           by_cases c12:eqI x3.1 1=true
           · rw[if_pos c12] at h
             by_cases c13:eqI x3.2 0=true
             · rw[if_pos c13] at h
               by_cases c14:eqI (nI x4.1.length) 0=true
               · rw[if_pos c14] at h
                 by_cases c15:eqI x4.2 0=true
                 · rw[if_pos c15] at h
                   by_cases c16:(pQ x2)=true
                   · rw[if_pos c16] at h
                     obtain rfl:=osi h
                     exact Tri.of (x:=X8) aH l9 [vT,.n aC.length,df,(xN x2),(v9 x3),(vV x4),.n aC.length,v4,aDI,dt,dt,.n x2.length,dt,dt,dt,dt,.opt (some (.int .i64 x7)),dt,dt,dt,dt,dt,dt,dt,dt,dt,dt,.n x4.1.length,dt,dt,dt,dt,dt,dt,dt,dt,dt,dt,dt,dt,(A8_7 x2),dt,dt,dt,dt,.ents (aJ .i64 (fun y=>(aG y).headD aD) (bF ([]:aL) 1 1)) (bF ([]:aL) 1 1).length,dt,dt,dt,.call ⟨true,[]⟩ (.bool (oR x2 (bF ([]:aL) 1 1))) [(.map (aJ .i64 (fun y=>(aG y).headD aD) x2) x2.length),(.map (aJ .i64 (fun y=>(aG y).headD aD) (bF ([]:aL) 1 1)) (bF ([]:aL) 1 1).length)],dt,dt] [⟨c16⟩,⟨c16⟩,⟨(aCK x2 (bF ([]:aL) 1 1))⟩,⟨c16⟩,⟨c16⟩,⟨c16⟩,⟨(lX .i64 (fun y=>(aG y).headD aD) ([]:aL) 1 1)⟩,⟨c16⟩,⟨c16⟩,⟨c16⟩,⟨(rfl:eqI 4 4=true)⟩,⟨(yH x2)⟩,⟨(rfl:eqI 4 4=true)⟩,⟨(rfl:eqI 4 4=true)⟩,⟨(rfl:eqI 4 4=true)⟩,⟨(rfl:eqI 4 4=true)⟩,⟨c15⟩,⟨c15⟩,⟨c15⟩,⟨c14⟩,⟨c14⟩,⟨c14⟩,⟨c13⟩,⟨c13⟩,⟨(aK aB x4.1)⟩,⟨c13⟩,⟨c13⟩,⟨c12⟩,⟨c12⟩,⟨c12⟩,⟨c11⟩,⟨c11⟩,⟨c11⟩,⟨c8⟩,⟨c8⟩,⟨(dC .i64 (fun y=>(aG y).headD aD) e10)⟩,⟨c8⟩,⟨c8⟩,⟨(rfl:eqI 0 0=true)⟩,⟨(rfl:eqI 0 0=true)⟩,⟨(eW .i64 (fun y=>(aG y).headD aD) x2)⟩,⟨(rfl:eqI 0 0=true)⟩,⟨(rfl:eqI 0 0=true)⟩,⟨(aQ k (List.drop 1 aC) (.inr x6) e6)⟩,⟨(iD aA (l:=aC) (n:=aC.length) rfl 1)⟩,⟨c5⟩,⟨(aK aA aC)⟩,⟨(bE k aC _ e4)⟩,⟨(aU k aC _ e3)⟩,⟨(aQ k aC (.inl x2) e1)⟩,⟨c0⟩,⟨(aK aA aC)⟩,⟨(bQ)⟩] (by kernel_rfl)
                   rw[if_neg c16] at h;replace c16:=eqf c16
                   obtain rfl:=osi h
                   exact Tri.of (x:=X8) aH l9 [vT,.n aC.length,df,(xN x2),(v9 x3),(vV x4),.n aC.length,v4,aDI,dt,dt,.n x2.length,dt,dt,dt,dt,.opt (some (.int .i64 x7)),dt,dt,dt,dt,dt,dt,dt,dt,dt,dt,.n x4.1.length,dt,dt,dt,dt,dt,dt,dt,dt,dt,dt,dt,dt,(A8_7 x2),dt,df,df,df,df,df,df,df,df] [⟨c16⟩,⟨c16⟩,⟨c16⟩,⟨c16⟩,⟨c16⟩,⟨c16⟩,⟨c16⟩,⟨c16⟩,⟨(rfl:eqI 4 4=true)⟩,⟨(yH x2)⟩,⟨(rfl:eqI 4 4=true)⟩,⟨(rfl:eqI 4 4=true)⟩,⟨(rfl:eqI 4 4=true)⟩,⟨(rfl:eqI 4 4=true)⟩,⟨c15⟩,⟨c15⟩,⟨c15⟩,⟨c14⟩,⟨c14⟩,⟨c14⟩,⟨c13⟩,⟨c13⟩,⟨(aK aB x4.1)⟩,⟨c13⟩,⟨c13⟩,⟨c12⟩,⟨c12⟩,⟨c12⟩,⟨c11⟩,⟨c11⟩,⟨c11⟩,⟨c8⟩,⟨c8⟩,⟨(dC .i64 (fun y=>(aG y).headD aD) e10)⟩,⟨c8⟩,⟨c8⟩,⟨(rfl:eqI 0 0=true)⟩,⟨(rfl:eqI 0 0=true)⟩,⟨(eW .i64 (fun y=>(aG y).headD aD) x2)⟩,⟨(rfl:eqI 0 0=true)⟩,⟨(rfl:eqI 0 0=true)⟩,⟨(aQ k (List.drop 1 aC) (.inr x6) e6)⟩,⟨(iD aA (l:=aC) (n:=aC.length) rfl 1)⟩,⟨c5⟩,⟨(aK aA aC)⟩,⟨(bE k aC _ e4)⟩,⟨(aU k aC _ e3)⟩,⟨(aQ k aC (.inl x2) e1)⟩,⟨c0⟩,⟨(aK aA aC)⟩,⟨(bQ)⟩] (by kernel_rfl)
                 rw[if_neg c15] at h;replace c15:=eqf c15
                 obtain rfl:=osi h
                 exact Tri.of (x:=X8) aH l9 [vT,.n aC.length,df,(xN x2),(v9 x3),(vV x4),.n aC.length,v4,aDI,dt,dt,.n x2.length,dt,dt,dt,dt,.opt (some (.int .i64 x7)),dt,dt,dt,dt,dt,dt,dt,dt,dt,dt,.n x4.1.length,dt,dt,dt,dt,dt,df,df,df,df,df,df,df,df,df,df,df,df,df,df,df,df] [⟨rF⟩,⟨rF⟩,⟨rF⟩,⟨rF⟩,⟨rF⟩,⟨rF⟩,⟨rF⟩,⟨rF⟩,⟨rF⟩,⟨rF⟩,⟨rF⟩,⟨rF⟩,⟨rF⟩,⟨c15⟩,⟨c15⟩,⟨c15⟩,⟨c14⟩,⟨c14⟩,⟨c14⟩,⟨c13⟩,⟨c13⟩,⟨(aK aB x4.1)⟩,⟨c13⟩,⟨c13⟩,⟨c12⟩,⟨c12⟩,⟨c12⟩,⟨c11⟩,⟨c11⟩,⟨c11⟩,⟨c8⟩,⟨c8⟩,⟨(dC .i64 (fun y=>(aG y).headD aD) e10)⟩,⟨c8⟩,⟨c8⟩,⟨(rfl:eqI 0 0=true)⟩,⟨(rfl:eqI 0 0=true)⟩,⟨(eW .i64 (fun y=>(aG y).headD aD) x2)⟩,⟨(rfl:eqI 0 0=true)⟩,⟨(rfl:eqI 0 0=true)⟩,⟨(aQ k (List.drop 1 aC) (.inr x6) e6)⟩,⟨(iD aA (l:=aC) (n:=aC.length) rfl 1)⟩,⟨c5⟩,⟨(aK aA aC)⟩,⟨(bE k aC _ e4)⟩,⟨(aU k aC _ e3)⟩,⟨(aQ k aC (.inl x2) e1)⟩,⟨c0⟩,⟨(aK aA aC)⟩,⟨(bQ)⟩] (by kernel_rfl)
               rw[if_neg c14] at h;replace c14:=eqf c14
               obtain rfl:=osi h
               exact Tri.of (x:=X8) aH l9 [vT,.n aC.length,df,(xN x2),(v9 x3),(vV x4),.n aC.length,v4,aDI,dt,dt,.n x2.length,dt,dt,dt,dt,.opt (some (.int .i64 x7)),dt,dt,dt,dt,dt,dt,dt,dt,dt,dt,.n x4.1.length,dt,dt,df,df,df,df,df,df,df,df,df,df,df,df,df,df,df,df,df,df,df] [⟨rF⟩,⟨rF⟩,⟨rF⟩,⟨rF⟩,⟨rF⟩,⟨rF⟩,⟨rF⟩,⟨rF⟩,⟨rF⟩,⟨rF⟩,⟨rF⟩,⟨rF⟩,⟨rF⟩,⟨rF⟩,⟨rF⟩,⟨rF⟩,⟨c14⟩,⟨c14⟩,⟨c14⟩,⟨c13⟩,⟨c13⟩,⟨(aK aB x4.1)⟩,⟨c13⟩,⟨c13⟩,⟨c12⟩,⟨c12⟩,⟨c12⟩,⟨c11⟩,⟨c11⟩,⟨c11⟩,⟨c8⟩,⟨c8⟩,⟨(dC .i64 (fun y=>(aG y).headD aD) e10)⟩,⟨c8⟩,⟨c8⟩,⟨(rfl:eqI 0 0=true)⟩,⟨(rfl:eqI 0 0=true)⟩,⟨(eW .i64 (fun y=>(aG y).headD aD) x2)⟩,⟨(rfl:eqI 0 0=true)⟩,⟨(rfl:eqI 0 0=true)⟩,⟨(aQ k (List.drop 1 aC) (.inr x6) e6)⟩,⟨(iD aA (l:=aC) (n:=aC.length) rfl 1)⟩,⟨c5⟩,⟨(aK aA aC)⟩,⟨(bE k aC _ e4)⟩,⟨(aU k aC _ e3)⟩,⟨(aQ k aC (.inl x2) e1)⟩,⟨c0⟩,⟨(aK aA aC)⟩,⟨(bQ)⟩] (by kernel_rfl)
             rw[if_neg c13] at h;replace c13:=eqf c13
             obtain rfl:=osi h
             exact Tri.of (x:=X8) aH l9 [vT,.n aC.length,df,(xN x2),(v9 x3),(vV x4),.n aC.length,v4,aDI,dt,dt,.n x2.length,dt,dt,dt,dt,.opt (some (.int .i64 x7)),dt,dt,dt,dt,dt,dt,dt,dt,df,df,df,df,df,df,df,df,df,df,df,df,df,df,df,df,df,df,df,df,df,df,df] [⟨rF⟩,⟨rF⟩,⟨rF⟩,⟨rF⟩,⟨rF⟩,⟨rF⟩,⟨rF⟩,⟨rF⟩,⟨rF⟩,⟨rF⟩,⟨rF⟩,⟨rF⟩,⟨rF⟩,⟨rF⟩,⟨rF⟩,⟨rF⟩,⟨rF⟩,⟨rF⟩,⟨rF⟩,⟨c13⟩,⟨c13⟩,⟨c13⟩,⟨c13⟩,⟨c12⟩,⟨c12⟩,⟨c12⟩,⟨c11⟩,⟨c11⟩,⟨c11⟩,⟨c8⟩,⟨c8⟩,⟨(dC .i64 (fun y=>(aG y).headD aD) e10)⟩,⟨c8⟩,⟨c8⟩,⟨(rfl:eqI 0 0=true)⟩,⟨(rfl:eqI 0 0=true)⟩,⟨(eW .i64 (fun y=>(aG y).headD aD) x2)⟩,⟨(rfl:eqI 0 0=true)⟩,⟨(rfl:eqI 0 0=true)⟩,⟨(aQ k (List.drop 1 aC) (.inr x6) e6)⟩,⟨(iD aA (l:=aC) (n:=aC.length) rfl 1)⟩,⟨c5⟩,⟨(aK aA aC)⟩,⟨(bE k aC _ e4)⟩,⟨(aU k aC _ e3)⟩,⟨(aQ k aC (.inl x2) e1)⟩,⟨c0⟩,⟨(aK aA aC)⟩,⟨(bQ)⟩] (by kernel_rfl)
           rw[if_neg c12] at h;replace c12:=eqf c12
           obtain rfl:=osi h
           exact Tri.of (x:=X8) aH l9 [vT,.n aC.length,df,(xN x2),(v9 x3),(vV x4),.n aC.length,v4,aDI,dt,dt,.n x2.length,dt,dt,dt,dt,.opt (some (.int .i64 x7)),dt,dt,dt,dt,dt,df,df,df,df,df,df,df,df,df,df,df,df,df,df,df,df,df,df,df,df,df,df,df,df,df,df] [⟨rF⟩,⟨rF⟩,⟨rF⟩,⟨rF⟩,⟨rF⟩,⟨rF⟩,⟨rF⟩,⟨rF⟩,⟨rF⟩,⟨rF⟩,⟨rF⟩,⟨rF⟩,⟨rF⟩,⟨rF⟩,⟨rF⟩,⟨rF⟩,⟨rF⟩,⟨rF⟩,⟨rF⟩,⟨rF⟩,⟨rF⟩,⟨rF⟩,⟨rF⟩,⟨c12⟩,⟨c12⟩,⟨c12⟩,⟨c11⟩,⟨c11⟩,⟨c11⟩,⟨c8⟩,⟨c8⟩,⟨(dC .i64 (fun y=>(aG y).headD aD) e10)⟩,⟨c8⟩,⟨c8⟩,⟨(rfl:eqI 0 0=true)⟩,⟨(rfl:eqI 0 0=true)⟩,⟨(eW .i64 (fun y=>(aG y).headD aD) x2)⟩,⟨(rfl:eqI 0 0=true)⟩,⟨(rfl:eqI 0 0=true)⟩,⟨(aQ k (List.drop 1 aC) (.inr x6) e6)⟩,⟨(iD aA (l:=aC) (n:=aC.length) rfl 1)⟩,⟨c5⟩,⟨(aK aA aC)⟩,⟨(bE k aC _ e4)⟩,⟨(aU k aC _ e3)⟩,⟨(aQ k aC (.inl x2) e1)⟩,⟨c0⟩,⟨(aK aA aC)⟩,⟨(bQ)⟩] (by kernel_rfl)
         rw[if_neg c11] at h;replace c11:=eqf c11
         obtain rfl:=osi h
         exact Tri.of (x:=X8) aH l9 [vT,.n aC.length,df,(xN x2),(v9 x3),(vV x4),.n aC.length,v4,aDI,dt,dt,.n x2.length,dt,dt,dt,dt,.opt (some (.int .i64 x7)),dt,dt,df,df,df,df,df,df,df,df,df,df,df,df,df,df,df,df,df,df,df,df,df,df,df,df,df,df,df,df,df] [⟨rF⟩,⟨rF⟩,⟨rF⟩,⟨rF⟩,⟨rF⟩,⟨rF⟩,⟨rF⟩,⟨rF⟩,⟨rF⟩,⟨rF⟩,⟨rF⟩,⟨rF⟩,⟨rF⟩,⟨rF⟩,⟨rF⟩,⟨rF⟩,⟨rF⟩,⟨rF⟩,⟨rF⟩,⟨rF⟩,⟨rF⟩,⟨rF⟩,⟨rF⟩,⟨rF⟩,⟨rF⟩,⟨rF⟩,⟨c11⟩,⟨c11⟩,⟨c11⟩,⟨c8⟩,⟨c8⟩,⟨(dC .i64 (fun y=>(aG y).headD aD) e10)⟩,⟨c8⟩,⟨c8⟩,⟨(rfl:eqI 0 0=true)⟩,⟨(rfl:eqI 0 0=true)⟩,⟨(eW .i64 (fun y=>(aG y).headD aD) x2)⟩,⟨(rfl:eqI 0 0=true)⟩,⟨(rfl:eqI 0 0=true)⟩,⟨(aQ k (List.drop 1 aC) (.inr x6) e6)⟩,⟨(iD aA (l:=aC) (n:=aC.length) rfl 1)⟩,⟨c5⟩,⟨(aK aA aC)⟩,⟨(bE k aC _ e4)⟩,⟨(aU k aC _ e3)⟩,⟨(aQ k aC (.inl x2) e1)⟩,⟨c0⟩,⟨(aK aA aC)⟩,⟨(bQ)⟩] (by kernel_rfl)
       rw[if_neg c9] at h;replace c9:=eqf c9
       obtain rfl:=osi h
       exact Tri.of (x:=X8) aH l9 [vT,.n aC.length,df,(xN x2),(v9 x3),(vV x4),.n aC.length,v4,aDI,dt,dt,.n x2.length,dt,dt,dt,dt,.opt none,dt,dt,df,df,df,df,df,df,df,df,df,df,df,df,df,df,df,df,df,df,df,df,df,df,df,df,df,df,df,df,df] [⟨rF⟩,⟨rF⟩,⟨rF⟩,⟨rF⟩,⟨rF⟩,⟨rF⟩,⟨rF⟩,⟨rF⟩,⟨rF⟩,⟨rF⟩,⟨rF⟩,⟨rF⟩,⟨rF⟩,⟨rF⟩,⟨rF⟩,⟨rF⟩,⟨rF⟩,⟨rF⟩,⟨rF⟩,⟨rF⟩,⟨rF⟩,⟨rF⟩,⟨rF⟩,⟨rF⟩,⟨rF⟩,⟨rF⟩,⟨(rfl:eqI 0 2=false)⟩,⟨(rfl:eqI 0 2=false)⟩,⟨(rfl:eqI 0 2=false)⟩,⟨c8⟩,⟨c8⟩,⟨(kX .i64 (fun y=>(aG y).headD aD) c9)⟩,⟨c8⟩,⟨c8⟩,⟨(rfl:eqI 0 0=true)⟩,⟨(rfl:eqI 0 0=true)⟩,⟨(eW .i64 (fun y=>(aG y).headD aD) x2)⟩,⟨(rfl:eqI 0 0=true)⟩,⟨(rfl:eqI 0 0=true)⟩,⟨(aQ k (List.drop 1 aC) (.inr x6) e6)⟩,⟨(iD aA (l:=aC) (n:=aC.length) rfl 1)⟩,⟨c5⟩,⟨(aK aA aC)⟩,⟨(bE k aC _ e4)⟩,⟨(aU k aC _ e3)⟩,⟨(aQ k aC (.inl x2) e1)⟩,⟨c0⟩,⟨(aK aA aC)⟩,⟨(bQ)⟩] (by kernel_rfl)
     rw[if_neg c8] at h;replace c8:=eqf c8
     obtain rfl:=osi h
     exact Tri.of (x:=X8) aH l9 [vT,.n aC.length,df,(xN x2),(v9 x3),(vV x4),.n aC.length,v4,aDI,dt,dt,.n x2.length,dt,dt,df,df,df,df,df,df,df,df,df,df,df,df,df,df,df,df,df,df,df,df,df,df,df,df,df,df,df,df,df,df,df,df,df] [⟨rF⟩,⟨rF⟩,⟨rF⟩,⟨rF⟩,⟨rF⟩,⟨rF⟩,⟨rF⟩,⟨rF⟩,⟨rF⟩,⟨rF⟩,⟨rF⟩,⟨rF⟩,⟨rF⟩,⟨rF⟩,⟨rF⟩,⟨rF⟩,⟨rF⟩,⟨rF⟩,⟨rF⟩,⟨rF⟩,⟨rF⟩,⟨rF⟩,⟨rF⟩,⟨rF⟩,⟨rF⟩,⟨rF⟩,⟨rF⟩,⟨rF⟩,⟨rF⟩,⟨c8⟩,⟨c8⟩,⟨c8⟩,⟨c8⟩,⟨(rfl:eqI 0 0=true)⟩,⟨(rfl:eqI 0 0=true)⟩,⟨(eW .i64 (fun y=>(aG y).headD aD) x2)⟩,⟨(rfl:eqI 0 0=true)⟩,⟨(rfl:eqI 0 0=true)⟩,⟨(aQ k (List.drop 1 aC) (.inr x6) e6)⟩,⟨(iD aA (l:=aC) (n:=aC.length) rfl 1)⟩,⟨c5⟩,⟨(aK aA aC)⟩,⟨(bE k aC _ e4)⟩,⟨(aU k aC _ e3)⟩,⟨(aQ k aC (.inl x2) e1)⟩,⟨c0⟩,⟨(aK aA aC)⟩,⟨(bQ)⟩] (by kernel_rfl)
  rw[if_neg c5] at h;replace c5:=eqf c5
  cases h
 | inr x2 =>
  simp only[Sum.elim_inr] at h
  obtain⟨x3,e3,h⟩:=bsm h
  obtain⟨x4,e4,h⟩:=bsm h
  by_cases c5:leI 1 aC.length=true
  · rw[if_pos c5] at h
    obtain⟨x5,e6,h⟩:=bsm h
    cases x5 with
    | inl x6 =>
     simp only[Sum.elim_inl] at h
     obtain rfl:=osi h
     exact Tri.of (x:=X8) aH l9 [vT,.n aC.length,df,aDI,(v9 x3),(vV x4),.n aC.length,v4,(A8_5 x6),df,df,df,df,df,df,df,df,df,df,df,df,df,df,df,df,df,df,df,df,df,df,df,df,df,df,df,df,df,df,df,df,df,df,df,df,df] [⟨rF⟩,⟨rF⟩,⟨rF⟩,⟨rF⟩,⟨rF⟩,⟨rF⟩,⟨rF⟩,⟨rF⟩,⟨rF⟩,⟨rF⟩,⟨rF⟩,⟨rF⟩,⟨rF⟩,⟨rF⟩,⟨rF⟩,⟨rF⟩,⟨rF⟩,⟨rF⟩,⟨rF⟩,⟨rF⟩,⟨rF⟩,⟨rF⟩,⟨rF⟩,⟨rF⟩,⟨rF⟩,⟨rF⟩,⟨rF⟩,⟨rF⟩,⟨rF⟩,⟨rF⟩,⟨rF⟩,⟨rF⟩,⟨rF⟩,⟨(rfl:eqI 4 0=false)⟩,⟨(rfl:eqI 4 0=false)⟩,⟨(rfl:eqI 4 0=false)⟩,⟨(rfl:eqI 4 0=false)⟩,⟨(aQ k (List.drop 1 aC) (.inl x6) e6)⟩,⟨(iD aA (l:=aC) (n:=aC.length) rfl 1)⟩,⟨c5⟩,⟨(aK aA aC)⟩,⟨(bE k aC _ e4)⟩,⟨(aU k aC _ e3)⟩,⟨(aQ k aC (.inr x2) e1)⟩,⟨c0⟩,⟨(aK aA aC)⟩,⟨(bQ)⟩] (by kernel_rfl)
    | inr x6 =>
     simp only[Sum.elim_inr] at h
     obtain rfl:=osi h
     exact Tri.of (x:=X8) aH l9 [vT,.n aC.length,df,aDI,(v9 x3),(vV x4),.n aC.length,v4,aDI,df,df,df,df,df,df,df,df,df,df,df,df,df,df,df,df,df,df,df,df,df,df,df,df,df,df,df,df,df,df,df,df,df,df,df,df,df] [⟨rF⟩,⟨rF⟩,⟨rF⟩,⟨rF⟩,⟨rF⟩,⟨rF⟩,⟨rF⟩,⟨rF⟩,⟨rF⟩,⟨rF⟩,⟨rF⟩,⟨rF⟩,⟨rF⟩,⟨rF⟩,⟨rF⟩,⟨rF⟩,⟨rF⟩,⟨rF⟩,⟨rF⟩,⟨rF⟩,⟨rF⟩,⟨rF⟩,⟨rF⟩,⟨rF⟩,⟨rF⟩,⟨rF⟩,⟨rF⟩,⟨rF⟩,⟨rF⟩,⟨rF⟩,⟨rF⟩,⟨rF⟩,⟨rF⟩,⟨(rfl:eqI 4 0=false)⟩,⟨(rfl:eqI 4 0=false)⟩,⟨(rfl:eqI 4 0=false)⟩,⟨(rfl:eqI 4 0=false)⟩,⟨(aQ k (List.drop 1 aC) (.inr x6) e6)⟩,⟨(iD aA (l:=aC) (n:=aC.length) rfl 1)⟩,⟨c5⟩,⟨(aK aA aC)⟩,⟨(bE k aC _ e4)⟩,⟨(aU k aC _ e3)⟩,⟨(aQ k aC (.inr x2) e1)⟩,⟨c0⟩,⟨(aK aA aC)⟩,⟨(bQ)⟩] (by kernel_rfl)
  rw[if_neg c5] at h;replace c5:=eqf c5
  cases h
end Go.Ws

namespace Go.Ws
open Go.Proofs
set_option linter.unusedSimpArgs false
set_option linter.unusedVariables false
set_option maxRecDepth 1000000
set_option maxHeartbeats 4000000
noncomputable def X35_1001:Ctx:=⟨Try.f35,[],false⟩
theorem vR (k:Nat) (x1:Ty7) (r:Unit) (h:gY k x1=some r):Tri Try.prog 35 [(.inl 4 (List.map aA x1))] [] (.ref 4 0 0 0 x1.length .virt) [(.arr 4 (List.map aA x1) 0 0 false)]:=by
 unfold gY at h
 by_cases c0:dR (x1.length*32)=true
 · rw[if_pos c0] at h
   obtain rfl:=osi h
   exact Tri.of (x:=X35_1001) aH aNI [df,.n x1.length,.norm 0 ⟨[(2,[])],[⟨.tmp 2,[],some 4⟩],false,[],[]⟩,.n x1.length,.rows (List.map aA x1)] [⟨(dW aA (l:=x1) (n:=x1.length) rfl)⟩,⟨(rfl:x1.length=x1.length)⟩,⟨(zle x1.length)⟩,⟨c0⟩,⟨(aK aA x1)⟩,⟨rF⟩] (by kernel_rfl)
 rw[if_neg c0] at h;replace c0:=eqf c0
 cases h
end Go.Ws

namespace Go.Ws
open Go.Proofs
set_option linter.unusedSimpArgs false
set_option linter.unusedVariables false
set_option maxRecDepth 1000000
set_option maxHeartbeats 4000000
noncomputable def X35_1002:Ctx:=⟨Try.f35,[],false⟩
theorem vA:Tri Try.prog 35 [.nils] [] (.ref 4 0 0 0 0 .virt) [(.arr 4 (List.map aA []) 0 0 false)]:=by
 obtain⟨r,h⟩:∃r,nQ=r:=⟨_,rfl⟩
 try rw[h]
 unfold nQ at h
 obtain rfl:=h
 exact Tri.of (x:=X35_1002) aH aNI [dt,.norm 0 ⟨[(2,[])],[⟨.tmp 2,[],some 4⟩],false,[],[]⟩,.n 0,.rows (List.map aA [])] [⟨(dW aA (l:=[]) (n:=0) rfl)⟩,⟨(rfl:0=0)⟩,⟨(zle 0)⟩,⟨rT⟩] (by kernel_rfl)
end Go.Ws

namespace Go.Ws
open Go.Proofs
set_option linter.unusedSimpArgs false
set_option linter.unusedVariables false
set_option maxRecDepth 1000000
set_option maxHeartbeats 4000000
theorem tV (k:Nat) (x1:Ty7) (r:Unit) (h:k7 k x1=some r):Tri Try.prog 35 [(.sl 4 (List.map aA x1))] [] (.ref 4 0 0 0 x1.length .virt) [(.arr 4 (List.map aA x1) 0 0 false)]:=by
 refine Tri.slOf (vR k x1 r h) fun h0=>?_
 have hx:x1=[]:=by simpa using h0
 subst hx
 exact vA
end Go.Ws

namespace Go.Ws
open Go.Proofs
set_option linter.unusedSimpArgs false
set_option linter.unusedVariables false
set_option maxRecDepth 1000000
set_option maxHeartbeats 4000000
noncomputable def X22 (x1:aL) (x2:Ty8) (x3:Ty2) (x4:Ty7):Ctx:=⟨Try.f22,[(.row [(.sl 2 (List.map aB x1)),(.sl 3 (List.map aE x2)),(.mp 1),(.ref 4 2 0 0 x4.length .virt)]),(.map (aJ .i64 (fun y=>AV.agg (aF y)) x3) x3.length),(.arr 4 (List.map aA x4) 0 0 false)],false⟩
theorem iU (k:Nat) (x1:aL) (x2:Ty8) (x3:Ty2) (x4:Ty7) (r:Unit) (h:nD k x1 x2 x3 x4=some r):Tri Try.prog 22 [(.hp 0 0)] [(.row [(.sl 2 (List.map aB x1)),(.sl 3 (List.map aE x2)),(.mp 1),(.ref 4 2 0 0 x4.length .virt)]),(.map (aJ .i64 (fun y=>AV.agg (aF y)) x3) x3.length),(.arr 4 (List.map aA x4) 0 0 false)] (.ref 4 3 0 0 x4.length .virt) [(.row [(.sl 2 (List.map aB x1)),(.sl 3 (List.map aE x2)),(.mp 1),(.ref 4 2 0 0 x4.length .virt)]),(.map (aJ .i64 (fun y=>AV.agg (aF y)) x3) x3.length),(.arr 4 (List.map aA x4) 0 0 true),(.arr 4 (List.map aA x4) 0 0 false)]:=by
 unfold nD at h
 obtain⟨x5,e0,h⟩:=bsm h
 obtain rfl:=osi h
 exact Tri.of (x:=(X22 x1 x2 x3 x4)) aH aMQ [.call ⟨true,[]⟩ (.bool (!false)) [(.row [(.sl 2 (List.map aB x1)),(.sl 3 (List.map aE x2)),(.mp 1),(.ref 4 2 0 0 x4.length .virt)]),(.map (aJ .i64 (fun y=>AV.agg (aF y)) x3) x3.length),(.arr 4 (List.map aA x4) 0 0 false)],df,.call ⟨true,[]⟩ (.ref 4 0 0 0 x4.length .virt) [(.arr 4 (List.map aA x4) 0 0 false)],.rows (List.map aA x4),.norm 0 ⟨[(2,[])],[⟨.tmp 2,[],none⟩],false,[],[]⟩] [⟨(tV k x4 _ e0)⟩,⟨(bC aA (l:=x4) (n:=x4.length) rfl)⟩,⟨(cJ aA (Nat.le_refl x4.length):0+x4.length≤(List.map aA x4).length)⟩,⟨(nF (nT rfl))⟩,⟨(dI x1 x2 x3 x4)⟩] (by kernel_rfl)
end Go.Ws

namespace Go.Ws
open Go.Proofs
set_option linter.unusedSimpArgs false
set_option linter.unusedVariables false
set_option maxRecDepth 1000000
set_option maxHeartbeats 4000000
noncomputable def X33_4 (x1:aL) (x2:Ty8) (x3:Ty2) (x4:Ty7):Ctx:=⟨Try.f33,[(.row [(.sl 2 (List.map aB x1)),(.sl 3 (List.map aE x2)),(.mp 1),(.ref 4 2 0 0 x4.length .virt)]),(.map (aJ .i64 (fun y=>AV.agg (aF y)) x3) x3.length),(.arr 4 (List.map aA x4) 0 0 true)],false⟩
theorem zL (x1:aL) (x2:Ty8) (x3:Ty2) (x4:Ty7):Tri Try.prog 33 [(.hp 0 0)] [(.row [(.sl 2 (List.map aB x1)),(.sl 3 (List.map aE x2)),(.mp 1),(.ref 4 2 0 0 x4.length .virt)]),(.map (aJ .i64 (fun y=>AV.agg (aF y)) x3) x3.length),(.arr 4 (List.map aA x4) 0 0 true)] (.bool (!false)) [(.row [(.sl 2 (List.map aB x1)),(.sl 3 (List.map aE x2)),(.mp 1),(.ref 4 2 0 0 x4.length .virt)]),(.map (aJ .i64 (fun y=>AV.agg (aF y)) x3) x3.length),(.arr 4 (List.map aA x4) 0 0 true)]:=by
 obtain⟨r,h⟩:∃r,rE x1 x2 x3 x4=r:=⟨_,rfl⟩
 try rw[h]
 unfold rE at h
 obtain rfl:=h
 exact Tri.of (x:=(X33_4 x1 x2 x3 x4)) aH aNQ [dt,dt,dt,dt,dt,dt,.norm 0 ⟨[(2,[])],[],false,[],[]⟩] [⟨(nT rfl)⟩,⟨(nT rfl)⟩,⟨(nT rfl)⟩,⟨(nT rfl)⟩,⟨(nT rfl)⟩,⟨(nT rfl)⟩] (by kernel_rfl)
end Go.Ws

namespace Go.Ws
open Go.Proofs
set_option linter.unusedSimpArgs false
set_option linter.unusedVariables false
set_option maxRecDepth 1000000
set_option maxHeartbeats 4000000
noncomputable def X22_1 (x1:aL) (x2:Ty8) (x3:Ty2) (x4:Ty7):Ctx:=⟨Try.f22,[(.row [(.sl 2 (List.map aB x1)),(.sl 3 (List.map aE x2)),(.mp 1),(.ref 4 2 0 0 x4.length .virt)]),(.map (aJ .i64 (fun y=>AV.agg (aF y)) x3) x3.length),(.arr 4 (List.map aA x4) 0 0 true)],false⟩
theorem gX (k:Nat) (x1:aL) (x2:Ty8) (x3:Ty2) (x4:Ty7) (r:Unit) (h:kV k x1 x2 x3 x4=some r):Tri Try.prog 22 [(.hp 0 0)] [(.row [(.sl 2 (List.map aB x1)),(.sl 3 (List.map aE x2)),(.mp 1),(.ref 4 2 0 0 x4.length .virt)]),(.map (aJ .i64 (fun y=>AV.agg (aF y)) x3) x3.length),(.arr 4 (List.map aA x4) 0 0 true)] (.ref 4 3 0 0 x4.length .virt) [(.row [(.sl 2 (List.map aB x1)),(.sl 3 (List.map aE x2)),(.mp 1),(.ref 4 2 0 0 x4.length .virt)]),(.map (aJ .i64 (fun y=>AV.agg (aF y)) x3) x3.length),(.arr 4 (List.map aA x4) 0 0 true),(.arr 4 (List.map aA x4) 0 0 false)]:=by
 unfold kV at h
 obtain⟨x5,e0,h⟩:=bsm h
 obtain rfl:=osi h
 exact Tri.of (x:=(X22_1 x1 x2 x3 x4)) aH aMQ [.call ⟨true,[]⟩ (.bool (!false)) [(.row [(.sl 2 (List.map aB x1)),(.sl 3 (List.map aE x2)),(.mp 1),(.ref 4 2 0 0 x4.length .virt)]),(.map (aJ .i64 (fun y=>AV.agg (aF y)) x3) x3.length),(.arr 4 (List.map aA x4) 0 0 true)],df,.call ⟨true,[]⟩ (.ref 4 0 0 0 x4.length .virt) [(.arr 4 (List.map aA x4) 0 0 false)],.rows (List.map aA x4),.norm 0 ⟨[(2,[])],[⟨.tmp 2,[],none⟩],false,[],[]⟩] [⟨(tV k x4 _ e0)⟩,⟨(bC aA (l:=x4) (n:=x4.length) rfl)⟩,⟨(cJ aA (Nat.le_refl x4.length):0+x4.length≤(List.map aA x4).length)⟩,⟨(nF (nT rfl))⟩,⟨(zL x1 x2 x3 x4)⟩] (by kernel_rfl)
end Go.Ws

namespace Go.Ws
open Go.Proofs
set_option linter.unusedSimpArgs false
set_option linter.unusedVariables false
set_option maxRecDepth 1000000
set_option maxHeartbeats 4000000
noncomputable def X5:Ctx:=⟨Try.f5,[],true⟩
noncomputable def L5_1:Code:=at_ Try.f5 [1,1,1,1,1,1,0,1,4,5]
def S5_1 (x4:aL × Ty8 × Ty2 × Ty7) (fD:Int) (eF:Int):St:=⟨mkT 92 [(3,(.hp 0 0)),(6,(.int .i64 fD)),(38,(.ref 4 1 0 0 x4.2.2.2.length .virt)),(39,(.int .i64 (nI x4.2.2.2.length))),(40,(.int .i64 eF))],[(.row [(.sl 2 (List.map aB x4.1)),(.sl 3 (List.map aE x4.2.1)),(.mp 2),(.ref 4 3 0 0 x4.2.2.2.length .virt)]),(.arr 4 (List.map aA x4.2.2.2) 0 0 false),(.map (aJ .i64 (fun y=>AV.agg (aF y)) x4.2.2.1) x4.2.2.1.length),(.arr 4 (List.map aA x4.2.2.2) 0 0 true)]⟩
def wA (x4:aL × Ty8 × Ty2 × Ty7) (v5012_1:Int):St:=⟨mkT 92 [(3,(.hp 0 0)),(6,(.int .i64 v5012_1))],[(.row [(.sl 2 (List.map aB x4.1)),(.sl 3 (List.map aE x4.2.1)),(.mp 1),(.ref 4 2 0 0 x4.2.2.2.length .virt)]),(.map (aJ .i64 (fun y=>AV.agg (aF y)) x4.2.2.1) x4.2.2.1.length),(.arr 4 (List.map aA x4.2.2.2) 0 0 true)]⟩
def O5_1 (x4:aL × Ty8 × Ty2 × Ty7) (y:(Int)):GX:=.st (.exit 2) (wA x4 y)
noncomputable def L5_0:Code:=at_ Try.f5 [1,1,1,1,0,1,4,5]
def S5_0 (x1:Ty7) (eU:Int) (gC:aL) (gD:Ty8) (fV:Ty2) (fW:Ty7):St:=⟨mkT 92 [(3,(.hp 0 0)),(27,(.sl 4 (List.map aA x1))),(28,(.int .i64 (nI x1.length))),(29,(.int .i64 eU))],[(.row [(.sl 2 (List.map aB gC)),(.sl 3 (List.map aE gD)),(.mp 1),(.ref 4 2 0 0 fW.length .virt)]),(.map (aJ .i64 (fun y=>AV.agg (aF y)) fV) fV.length),(.arr 4 (List.map aA fW) 0 0 false)]⟩
def aK3 (v5002_1:aL) (v5002_2:Ty8) (aNY:Ty2) (aNZ:Ty7):St:=⟨mkT 92 [(3,(.hp 0 0))],[(.row [(.sl 2 (List.map aB v5002_1)),(.sl 3 (List.map aE v5002_2)),(.mp 1),(.ref 4 2 0 0 aNZ.length .virt)]),(.map (aJ .i64 (fun y=>AV.agg (aF y)) aNY) aNY.length),(.arr 4 (List.map aA aNZ) 0 0 false)]⟩
def O5_0 (x1:Ty7) (y:(aL × Ty8 × Ty2 × Ty7)):GX:=.st (.exit 0) (aK3 y.1 y.2.1 y.2.2.1 y.2.2.2)
def A5_0:Ans:=.call ⟨true,[]⟩ (.hp 0 0) [(.row [.nils,.nils,(.mp 1),.nils]),(.map (aJ .i64 (fun y=>AV.agg (aF y)) ([]:Ty2)) ([]:Ty2).length)]
def A5_1:Ans:=.norm 2 ⟨[(3,[]),(27,[]),(28,[]),(29,[])],[⟨.tmp 3,[(0,2),(1,3)],none⟩,⟨.cell 0 2,[],none⟩,⟨.cell 0 3,[],some 4⟩],false,[],[]⟩
def A5_2 (x4:aL × Ty8 × Ty2 × Ty7):Ans:=.out (.st .normal (aK3 x4.1 x4.2.1 x4.2.2.1 x4.2.2.2))
def aBH (x4:aL × Ty8 × Ty2 × Ty7):Ans:=.call ⟨true,[]⟩ (.ref 4 3 0 0 x4.2.2.2.length .virt) [(.row [(.sl 2 (List.map aB x4.1)),(.sl 3 (List.map aE x4.2.1)),(.mp 1),(.ref 4 2 0 0 x4.2.2.2.length .virt)]),(.map (aJ .i64 (fun y=>AV.agg (aF y)) x4.2.2.1) x4.2.2.1.length),(.arr 4 (List.map aA x4.2.2.2) 0 0 true),(.arr 4 (List.map aA x4.2.2.2) 0 0 false)]
def A5_4:Ans:=.norm 8 ⟨[(3,[]),(6,[]),(38,[]),(39,[]),(40,[])],[⟨.tmp 3,[],none⟩,⟨.tmp 38,[],none⟩,⟨.cell 0 2,[],none⟩,⟨.cell 0 3,[],none⟩],false,[],[]⟩
def A5_5 (x9:Int × Int):Ans:=.call ⟨true,[]⟩ (.tup [(.int .i64 x9.1),(.int .i64 x9.2)]) []
def A5_6 (x10:Int × Int):Ans:=.call ⟨true,[[(0,4)]]⟩ (.tup [(.int .i64 x10.1),(.int .i64 x10.2)]) []
def A5_7 (x11:aL × Int):Ans:=.call ⟨true,[[(0,4)]]⟩ (.tup [(.sl 2 (List.map aB x11.1)),(.int .i64 x11.2)]) []
theorem dD (x4:aL × Ty8 × Ty2 × Ty7) (y:(Int)):∀(k:Nat) (fD:Int) (eF:Int),b7 k x4 fD eF=some y→LT Try.prog X5 L5_1 (S5_1 x4 fD eF) (O5_1 x4 y)
 | 0,fD,eF,h=>by cases h
 | k+1,fD,eF,h=>by
  rw[b7] at h
  by_cases cL0:ltI eF (nI x4.2.2.2.length)=true
  · rw[if_pos cL0] at h
    by_cases cL1:inI eF x4.2.2.2.length=true
    · rw[if_pos cL1] at h
      obtain⟨oI,eL2,h⟩:=bsm h
      by_cases cL3:eqI oI.1 5=true
      · rw[if_pos cL3] at h
        exact LT.next aH (hs:=⟨[(3,[]),(6,[]),(38,[]),(39,[]),(40,[])],[⟨.tmp 3,[],none⟩,⟨.tmp 38,[],none⟩,⟨.cell 0 2,[],none⟩,⟨.cell 0 3,[],none⟩],false,[],[]⟩) (es:=none) [dt,.row [(.int .i64 oI.1),(.int .i64 oI.2.1),(.int .u8 oI.2.2.1),(.int .i64 oI.2.2.2)],dt] [⟨cL3⟩,⟨(aO (e:=aA) eL2 4 0 4 (by decide))⟩,⟨cL1⟩,⟨cL0⟩] (by kernel_rfl) (dD x4 y k (aM .i64 fD 1) (aM .i64 eF 1) h)
      rw[if_neg cL3] at h;replace cL3:=eqf cL3
      exact LT.next aH (hs:=⟨[(3,[]),(6,[]),(38,[]),(39,[]),(40,[])],[⟨.tmp 3,[],none⟩,⟨.tmp 38,[],none⟩,⟨.cell 0 2,[],none⟩,⟨.cell 0 3,[],none⟩],false,[],[]⟩) (es:=none) [dt,.row [(.int .i64 oI.1),(.int .i64 oI.2.1),(.int .u8 oI.2.2.1),(.int .i64 oI.2.2.2)],df] [⟨cL3⟩,⟨(aO (e:=aA) eL2 4 0 4 (by decide))⟩,⟨cL1⟩,⟨cL0⟩] (by kernel_rfl) (dD x4 y k fD (aM .i64 eF 1) h)
    rw[if_neg cL1] at h;replace cL1:=eqf cL1
    cases h
  rw[if_neg cL0] at h;replace cL0:=eqf cL0
  obtain rfl:=osi h
  show LT _ _ _ _ (.st (.exit 2) (wA x4 fD))
  exact LT.done aH (hs:=⟨[],[],false,[],[]⟩) (es:=(some ⟨[(3,[]),(6,[])],[⟨.tmp 3,[],none⟩,⟨.cell 0 2,[],none⟩,⟨.cell 0 3,[],none⟩],false,[],[]⟩)) [df] [⟨cL0⟩] (by kernel_rfl) (fun s h=>by cases h)
theorem dX (x1:Ty7) (y:(aL × Ty8 × Ty2 × Ty7)):∀(k:Nat) (eU:Int) (gC:aL) (gD:Ty8) (fV:Ty2) (fW:Ty7),cL k x1 eU gC gD fV fW=some y→LT Try.prog X5 L5_0 (S5_0 x1 eU gC gD fV fW) (O5_0 x1 y)
 | 0,eU,gC,gD,fV,fW,h=>by cases h
 | k+1,eU,gC,gD,fV,fW,h=>by
  rw[cL] at h
  by_cases cL0:ltI eU (nI x1.length)=true
  · rw[if_pos cL0] at h
    by_cases cL1:inI eU x1.length=true
    · rw[if_pos cL1] at h
      obtain⟨kR,eL2,h⟩:=bsm h
      obtain⟨fO,eL3,h⟩:=bsm h
      exact LT.next aH (hs:=⟨[(3,[]),(27,[]),(28,[]),(29,[])],[⟨.tmp 3,[],none⟩,⟨.cell 0 2,[],none⟩,⟨.cell 0 3,[],some 4⟩],false,[],[]⟩) (es:=none) [dt,.n x1.length,.row [(.int .i64 kR.1),(.int .i64 kR.2.1),(.int .u8 kR.2.2.1),(.int .i64 kR.2.2.2)],.call ⟨true,[]⟩ (.tup [(.int .i64 fO.2.1),(.int .i64 fO.1)]) [(.row [(.sl 2 (List.map aB fO.2.2.1)),(.sl 3 (List.map aE fO.2.2.2.1)),(.mp 1),(.ref 4 2 1 0 fO.2.2.2.2.2.length .virt)]),(.map (aJ .i64 (fun y=>AV.agg (aF y)) fO.2.2.2.2.1) fO.2.2.2.2.1.length),(.arr 4 (List.map aA fO.2.2.2.2.2) 1 1 false)],.n fO.2.2.2.2.2.length,.rows (List.map aA fO.2.2.2.2.2)] [⟨(dW aA (l:=fO.2.2.2.2.2) (n:=fO.2.2.2.2.2.length) rfl)⟩,⟨(rfl:fO.2.2.2.2.2.length=fO.2.2.2.2.2.length)⟩,⟨(zle fO.2.2.2.2.2.length)⟩,⟨(qP k kR.1 kR.2.1 kR.2.2.1 kR.2.2.2 gC gD fV fW _ eL3)⟩,⟨(aO (e:=aA) eL2 4 0 4 (by decide))⟩,⟨cL1⟩,⟨(aK aA x1)⟩,⟨cL0⟩] (by kernel_rfl) (dX x1 y k (aM .i64 eU 1) fO.2.2.1 fO.2.2.2.1 fO.2.2.2.2.1 fO.2.2.2.2.2 h)
    rw[if_neg cL1] at h;replace cL1:=eqf cL1
    cases h
  rw[if_neg cL0] at h;replace cL0:=eqf cL0
  obtain rfl:=osi h
  show LT _ _ _ _ (.st (.exit 0) (aK3 gC gD fV fW))
  exact LT.done aH (hs:=⟨[],[],false,[],[]⟩) (es:=(some ⟨[(3,[])],[⟨.tmp 3,[],none⟩,⟨.cell 0 2,[],none⟩,⟨.cell 0 3,[],none⟩],false,[],[]⟩)) [df] [⟨cL0⟩] (by kernel_rfl) (fun s h=>by cases h)
theorem yL (k:Nat) (x1:Ty7) (r:Bool) (h:lE k x1=some r):Tri Try.prog 5 [(.sl 4 (List.map aA x1))] [] (.bool r) []:=by
 unfold lE at h
 obtain⟨x2,e0,h⟩:=bsm h
 by_cases c1:x2=true
 · rw[if_pos c1] at h
   by_cases c2:ltI 100 (nI x1.length)=true
   · rw[if_pos c2] at h
     obtain rfl:=osi h
     exact Tri.of (x:=X5) aH wG [.call ⟨true,[]⟩ (.bool x2) [],df,A5_0,df,df,.n x1.length,df,df,dt] [⟨c2⟩,⟨rF⟩,⟨rF⟩,⟨(aK aA x1)⟩,⟨rF⟩,⟨rF⟩,⟨(j1)⟩,⟨(nF c1)⟩,⟨(iJ k _ e0)⟩] (by kernel_rfl)
   rw[if_neg c2] at h;replace c2:=eqf c2
   obtain⟨x4,e3,h⟩:=bsm h
   obtain⟨x5,e5,h⟩:=bsm h
   obtain⟨x7,e6,h⟩:=bsm h
   obtain⟨x8,e8,h⟩:=bsm h
   obtain⟨x9,e9,h⟩:=bsm h
   obtain⟨x10,e10,h⟩:=bsm h
   obtain⟨x11,e11,h⟩:=bsm h
   by_cases c12:eqI x9.2 0=true
   · rw[if_pos c12] at h
     by_cases c13:ltI x9.1 0=true
     · rw[if_pos c13] at h
       obtain rfl:=osi h
       exact Tri.of (x:=X5) aH wG [.call ⟨true,[]⟩ (.bool x2) [],df,A5_0,df,df,.n x1.length,df,df,df,.n x1.length,A5_1,.n 0,.rows (List.map aA []),(A5_2 x4),(aBH x4),A5_4,.out (.st .normal (wA x4 x7)),(aBH x4),(A5_5 x9),.rows (List.map aA x4.2.2.2),(A5_6 x10),(A5_7 x11),dt,dt,dt,df,df,df,df,df,df,df,df,df,df,df,df,df,df,df,df,df] [⟨rF⟩,⟨rF⟩,⟨rF⟩,⟨rF⟩,⟨rF⟩,⟨rF⟩,⟨rF⟩,⟨rF⟩,⟨rF⟩,⟨rF⟩,⟨rF⟩,⟨rF⟩,⟨rF⟩,⟨(nF c13)⟩,⟨(nF c13)⟩,⟨(nF c13)⟩,⟨(nF c13)⟩,⟨c12⟩,⟨c12⟩,⟨c12⟩,⟨(bE k [] _ e11)⟩,⟨(aU k [] _ e10)⟩,⟨(aU k x4.2.2.2 _ e9)⟩,⟨(bC aA (l:=x4.2.2.2) (n:=x4.2.2.2.length) rfl)⟩,⟨(cJ aA (Nat.le_refl x4.2.2.2.length):0+x4.2.2.2.length≤(List.map aA x4.2.2.2).length)⟩,⟨(gX k x4.1 x4.2.1 x4.2.2.1 x4.2.2.2 _ e8)⟩,⟨(LT.block (dD x4 _ k 0 0 e6))⟩,⟨(iU k x4.1 x4.2.1 x4.2.2.1 x4.2.2.2 _ e5)⟩,⟨(LT.block (dX x1 _ k 0 [] [] ([]:Ty2) [] e3))⟩,⟨(dW aA (l:=[]) (n:=0) rfl)⟩,⟨(rfl:0=0)⟩,⟨(zle 0)⟩,⟨(aK aA x1)⟩,⟨c2⟩,⟨rF⟩,⟨rF⟩,⟨(aK aA x1)⟩,⟨rF⟩,⟨rF⟩,⟨(j1)⟩,⟨(nF c1)⟩,⟨(iJ k _ e0)⟩] (by kernel_rfl)
     rw[if_neg c13] at h;replace c13:=eqf c13
     by_cases c14:ltI x7 x9.1=true
     · rw[if_pos c14] at h
       obtain rfl:=osi h
       exact Tri.of (x:=X5) aH wG [.call ⟨true,[]⟩ (.bool x2) [],df,A5_0,df,df,.n x1.length,df,df,df,.n x1.length,A5_1,.n 0,.rows (List.map aA []),(A5_2 x4),(aBH x4),A5_4,.out (.st .normal (wA x4 x7)),(aBH x4),(A5_5 x9),.rows (List.map aA x4.2.2.2),(A5_6 x10),(A5_7 x11),dt,dt,dt,dt,dt,dt,dt,df,df,df,df,df,df,df,df,df,df,df,df,df] [⟨rF⟩,⟨rF⟩,⟨rF⟩,⟨rF⟩,⟨rF⟩,⟨rF⟩,⟨rF⟩,⟨rF⟩,⟨rF⟩,⟨rF⟩,⟨(nF c14)⟩,⟨(nF c14)⟩,⟨(nF c14)⟩,⟨(nT c13)⟩,⟨(nT c13)⟩,⟨(nT c13)⟩,⟨(nT c13)⟩,⟨c12⟩,⟨c12⟩,⟨c12⟩,⟨(bE k [] _ e11)⟩,⟨(aU k [] _ e10)⟩,⟨(aU k x4.2.2.2 _ e9)⟩,⟨(bC aA (l:=x4.2.2.2) (n:=x4.2.2.2.length) rfl)⟩,⟨(cJ aA (Nat.le_refl x4.2.2.2.length):0+x4.2.2.2.length≤(List.map aA x4.2.2.2).length)⟩,⟨(gX k x4.1 x4.2.1 x4.2.2.1 x4.2.2.2 _ e8)⟩,⟨(LT.block (dD x4 _ k 0 0 e6))⟩,⟨(iU k x4.1 x4.2.1 x4.2.2.1 x4.2.2.2 _ e5)⟩,⟨(LT.block (dX x1 _ k 0 [] [] ([]:Ty2) [] e3))⟩,⟨(dW aA (l:=[]) (n:=0) rfl)⟩,⟨(rfl:0=0)⟩,⟨(zle 0)⟩,⟨(aK aA x1)⟩,⟨c2⟩,⟨rF⟩,⟨rF⟩,⟨(aK aA x1)⟩,⟨rF⟩,⟨rF⟩,⟨(j1)⟩,⟨(nF c1)⟩,⟨(iJ k _ e0)⟩] (by kernel_rfl)
     rw[if_neg c14] at h;replace c14:=eqf c14
     by_cases c15:eqI x10.1 0=true
     · rw[if_pos c15] at h
       by_cases c16:eqI x10.2 0=true
       · rw[if_pos c16] at h
         by_cases c17:eqI (nI x11.1.length) 0=true
         · rw[if_pos c17] at h
           obtain rfl:=osi h
           exact Tri.of (x:=X5) aH wG [.call ⟨true,[]⟩ (.bool x2) [],df,A5_0,df,df,.n x1.length,df,df,df,.n x1.length,A5_1,.n 0,.rows (List.map aA []),(A5_2 x4),(aBH x4),A5_4,.out (.st .normal (wA x4 x7)),(aBH x4),(A5_5 x9),.rows (List.map aA x4.2.2.2),(A5_6 x10),(A5_7 x11),dt,dt,dt,dt,dt,dt,dt,dt,dt,dt,dt,dt,dt,dt,dt,.n x11.1.length,dt,dt,dt,dt,dt] [⟨c17⟩,⟨c17⟩,⟨c17⟩,⟨c16⟩,⟨c16⟩,⟨(aK aB x11.1)⟩,⟨c16⟩,⟨c16⟩,⟨c15⟩,⟨c15⟩,⟨c15⟩,⟨(nT c14)⟩,⟨(nT c14)⟩,⟨(nT c14)⟩,⟨(nT c13)⟩,⟨(nT c13)⟩,⟨(nT c13)⟩,⟨(nT c13)⟩,⟨c12⟩,⟨c12⟩,⟨c12⟩,⟨(bE k [] _ e11)⟩,⟨(aU k [] _ e10)⟩,⟨(aU k x4.2.2.2 _ e9)⟩,⟨(bC aA (l:=x4.2.2.2) (n:=x4.2.2.2.length) rfl)⟩,⟨(cJ aA (Nat.le_refl x4.2.2.2.length):0+x4.2.2.2.length≤(List.map aA x4.2.2.2).length)⟩,⟨(gX k x4.1 x4.2.1 x4.2.2.1 x4.2.2.2 _ e8)⟩,⟨(LT.block (dD x4 _ k 0 0 e6))⟩,⟨(iU k x4.1 x4.2.1 x4.2.2.1 x4.2.2.2 _ e5)⟩,⟨(LT.block (dX x1 _ k 0 [] [] ([]:Ty2) [] e3))⟩,⟨(dW aA (l:=[]) (n:=0) rfl)⟩,⟨(rfl:0=0)⟩,⟨(zle 0)⟩,⟨(aK aA x1)⟩,⟨c2⟩,⟨rF⟩,⟨rF⟩,⟨(aK aA x1)⟩,⟨rF⟩,⟨rF⟩,⟨(j1)⟩,⟨(nF c1)⟩,⟨(iJ k _ e0)⟩] (by kernel_rfl)
         rw[if_neg c17] at h;replace c17:=eqf c17
         obtain rfl:=osi h
         exact Tri.of (x:=X5) aH wG [.call ⟨true,[]⟩ (.bool x2) [],df,A5_0,df,df,.n x1.length,df,df,df,.n x1.length,A5_1,.n 0,.rows (List.map aA []),(A5_2 x4),(aBH x4),A5_4,.out (.st .normal (wA x4 x7)),(aBH x4),(A5_5 x9),.rows (List.map aA x4.2.2.2),(A5_6 x10),(A5_7 x11),dt,dt,dt,dt,dt,dt,dt,dt,dt,dt,dt,dt,dt,dt,dt,.n x11.1.length,dt,dt,df,df,df] [⟨c17⟩,⟨c17⟩,⟨c17⟩,⟨c16⟩,⟨c16⟩,⟨(aK aB x11.1)⟩,⟨c16⟩,⟨c16⟩,⟨c15⟩,⟨c15⟩,⟨c15⟩,⟨(nT c14)⟩,⟨(nT c14)⟩,⟨(nT c14)⟩,⟨(nT c13)⟩,⟨(nT c13)⟩,⟨(nT c13)⟩,⟨(nT c13)⟩,⟨c12⟩,⟨c12⟩,⟨c12⟩,⟨(bE k [] _ e11)⟩,⟨(aU k [] _ e10)⟩,⟨(aU k x4.2.2.2 _ e9)⟩,⟨(bC aA (l:=x4.2.2.2) (n:=x4.2.2.2.length) rfl)⟩,⟨(cJ aA (Nat.le_refl x4.2.2.2.length):0+x4.2.2.2.length≤(List.map aA x4.2.2.2).length)⟩,⟨(gX k x4.1 x4.2.1 x4.2.2.1 x4.2.2.2 _ e8)⟩,⟨(LT.block (dD x4 _ k 0 0 e6))⟩,⟨(iU k x4.1 x4.2.1 x4.2.2.1 x4.2.2.2 _ e5)⟩,⟨(LT.block (dX x1 _ k 0 [] [] ([]:Ty2) [] e3))⟩,⟨(dW aA (l:=[]) (n:=0) rfl)⟩,⟨(rfl:0=0)⟩,⟨(zle 0)⟩,⟨(aK aA x1)⟩,⟨c2⟩,⟨rF⟩,⟨rF⟩,⟨(aK aA x1)⟩,⟨rF⟩,⟨rF⟩,⟨(j1)⟩,⟨(nF c1)⟩,⟨(iJ k _ e0)⟩] (by kernel_rfl)
       rw[if_neg c16] at h;replace c16:=eqf c16
       obtain rfl:=osi h
       exact Tri.of (x:=X5) aH wG [.call ⟨true,[]⟩ (.bool x2) [],df,A5_0,df,df,.n x1.length,df,df,df,.n x1.length,A5_1,.n 0,.rows (List.map aA []),(A5_2 x4),(aBH x4),A5_4,.out (.st .normal (wA x4 x7)),(aBH x4),(A5_5 x9),.rows (List.map aA x4.2.2.2),(A5_6 x10),(A5_7 x11),dt,dt,dt,dt,dt,dt,dt,dt,dt,dt,dt,dt,dt,df,df,df,df,df,df,df] [⟨rF⟩,⟨rF⟩,⟨rF⟩,⟨c16⟩,⟨c16⟩,⟨c16⟩,⟨c16⟩,⟨c15⟩,⟨c15⟩,⟨c15⟩,⟨(nT c14)⟩,⟨(nT c14)⟩,⟨(nT c14)⟩,⟨(nT c13)⟩,⟨(nT c13)⟩,⟨(nT c13)⟩,⟨(nT c13)⟩,⟨c12⟩,⟨c12⟩,⟨c12⟩,⟨(bE k [] _ e11)⟩,⟨(aU k [] _ e10)⟩,⟨(aU k x4.2.2.2 _ e9)⟩,⟨(bC aA (l:=x4.2.2.2) (n:=x4.2.2.2.length) rfl)⟩,⟨(cJ aA (Nat.le_refl x4.2.2.2.length):0+x4.2.2.2.length≤(List.map aA x4.2.2.2).length)⟩,⟨(gX k x4.1 x4.2.1 x4.2.2.1 x4.2.2.2 _ e8)⟩,⟨(LT.block (dD x4 _ k 0 0 e6))⟩,⟨(iU k x4.1 x4.2.1 x4.2.2.1 x4.2.2.2 _ e5)⟩,⟨(LT.block (dX x1 _ k 0 [] [] ([]:Ty2) [] e3))⟩,⟨(dW aA (l:=[]) (n:=0) rfl)⟩,⟨(rfl:0=0)⟩,⟨(zle 0)⟩,⟨(aK aA x1)⟩,⟨c2⟩,⟨rF⟩,⟨rF⟩,⟨(aK aA x1)⟩,⟨rF⟩,⟨rF⟩,⟨(j1)⟩,⟨(nF c1)⟩,⟨(iJ k _ e0)⟩] (by kernel_rfl)
     rw[if_neg c15] at h;replace c15:=eqf c15
     obtain rfl:=osi h
     exact Tri.of (x:=X5) aH wG [.call ⟨true,[]⟩ (.bool x2) [],df,A5_0,df,df,.n x1.length,df,df,df,.n x1.length,A5_1,.n 0,.rows (List.map aA []),(A5_2 x4),(aBH x4),A5_4,.out (.st .normal (wA x4 x7)),(aBH x4),(A5_5 x9),.rows (List.map aA x4.2.2.2),(A5_6 x10),(A5_7 x11),dt,dt,dt,dt,dt,dt,dt,dt,dt,dt,df,df,df,df,df,df,df,df,df,df] [⟨rF⟩,⟨rF⟩,⟨rF⟩,⟨rF⟩,⟨rF⟩,⟨rF⟩,⟨rF⟩,⟨c15⟩,⟨c15⟩,⟨c15⟩,⟨(nT c14)⟩,⟨(nT c14)⟩,⟨(nT c14)⟩,⟨(nT c13)⟩,⟨(nT c13)⟩,⟨(nT c13)⟩,⟨(nT c13)⟩,⟨c12⟩,⟨c12⟩,⟨c12⟩,⟨(bE k [] _ e11)⟩,⟨(aU k [] _ e10)⟩,⟨(aU k x4.2.2.2 _ e9)⟩,⟨(bC aA (l:=x4.2.2.2) (n:=x4.2.2.2.length) rfl)⟩,⟨(cJ aA (Nat.le_refl x4.2.2.2.length):0+x4.2.2.2.length≤(List.map aA x4.2.2.2).length)⟩,⟨(gX k x4.1 x4.2.1 x4.2.2.1 x4.2.2.2 _ e8)⟩,⟨(LT.block (dD x4 _ k 0 0 e6))⟩,⟨(iU k x4.1 x4.2.1 x4.2.2.1 x4.2.2.2 _ e5)⟩,⟨(LT.block (dX x1 _ k 0 [] [] ([]:Ty2) [] e3))⟩,⟨(dW aA (l:=[]) (n:=0) rfl)⟩,⟨(rfl:0=0)⟩,⟨(zle 0)⟩,⟨(aK aA x1)⟩,⟨c2⟩,⟨rF⟩,⟨rF⟩,⟨(aK aA x1)⟩,⟨rF⟩,⟨rF⟩,⟨(j1)⟩,⟨(nF c1)⟩,⟨(iJ k _ e0)⟩] (by kernel_rfl)
   rw[if_neg c12] at h;replace c12:=eqf c12
   obtain rfl:=osi h
   exact Tri.of (x:=X5) aH wG [.call ⟨true,[]⟩ (.bool x2) [],df,A5_0,df,df,.n x1.length,df,df,df,.n x1.length,A5_1,.n 0,.rows (List.map aA []),(A5_2 x4),(aBH x4),A5_4,.out (.st .normal (wA x4 x7)),(aBH x4),(A5_5 x9),.rows (List.map aA x4.2.2.2),(A5_6 x10),(A5_7 x11),df,df,df,df,df,df,df,df,df,df,df,df,df,df,df,df,df,df,df,df] [⟨rF⟩,⟨rF⟩,⟨rF⟩,⟨rF⟩,⟨rF⟩,⟨rF⟩,⟨rF⟩,⟨rF⟩,⟨rF⟩,⟨rF⟩,⟨rF⟩,⟨rF⟩,⟨rF⟩,⟨rF⟩,⟨rF⟩,⟨rF⟩,⟨rF⟩,⟨c12⟩,⟨c12⟩,⟨c12⟩,⟨(bE k [] _ e11)⟩,⟨(aU k [] _ e10)⟩,⟨(aU k x4.2.2.2 _ e9)⟩,⟨(bC aA (l:=x4.2.2.2) (n:=x4.2.2.2.length) rfl)⟩,⟨(cJ aA (Nat.le_refl x4.2.2.2.length):0+x4.2.2.2.length≤(List.map aA x4.2.2.2).length)⟩,⟨(gX k x4.1 x4.2.1 x4.2.2.1 x4.2.2.2 _ e8)⟩,⟨(LT.block (dD x4 _ k 0 0 e6))⟩,⟨(iU k x4.1 x4.2.1 x4.2.2.1 x4.2.2.2 _ e5)⟩,⟨(LT.block (dX x1 _ k 0 [] [] ([]:Ty2) [] e3))⟩,⟨(dW aA (l:=[]) (n:=0) rfl)⟩,⟨(rfl:0=0)⟩,⟨(zle 0)⟩,⟨(aK aA x1)⟩,⟨c2⟩,⟨rF⟩,⟨rF⟩,⟨(aK aA x1)⟩,⟨rF⟩,⟨rF⟩,⟨(j1)⟩,⟨(nF c1)⟩,⟨(iJ k _ e0)⟩] (by kernel_rfl)
 rw[if_neg c1] at h;replace c1:=eqf c1
 obtain rfl:=osi h
 exact Tri.of (x:=X5) aH wG [.call ⟨true,[]⟩ (.bool x2) [],dt] [⟨(nT c1)⟩,⟨(iJ k _ e0)⟩] (by kernel_rfl)
end Go.Ws
