/-
  Walks, merged.
  Conditions: none.
-/
import Derived.Test.YtipeekdnpocclaaZPre
import Derived.Test.YtipeekdnpocclaaZPure
import Derived.Test.YtipeekdnpocclaaZWGModelSite0
set_option linter.unusedVariables false
set_option linter.unusedSimpArgs false
namespace Go.Ws
open Go.Proofs
set_option linter.unusedSimpArgs false
set_option linter.unusedVariables false
set_option maxRecDepth 1000000
set_option maxHeartbeats 4000000
noncomputable def X8:Ctx:=⟨Try.f8,[],true⟩
def wC:Ans:=.call ⟨true,[]⟩ (.sl 4 (List.map aA aC)) []
def yF (x2:aL):Ans:=.call ⟨true,[]⟩ (.tup [(.mp 0),(.int .i64 0)]) [(.map (aI .i64 (fun y=>(aG y).headD aD) x2) x2.length)]
def wM (x3:Int × Int):Ans:=.call ⟨true,[]⟩ (.tup [(.int .i64 x3.1),(.int .i64 x3.2)]) []
def wZ (x4:aL × Int):Ans:=.call ⟨true,[]⟩ (.tup [(.sl 2 (List.map aB x4.1)),(.int .i64 x4.2)]) []
def wS:Ans:=.rows (List.map aA (List.drop 1 aC))
def A8_5 (x6:aL):Ans:=.call ⟨true,[]⟩ (.tup [(.mp 0),(.int .i64 0)]) [(.map (aI .i64 (fun y=>(aG y).headD aD) x6) x6.length)]
def aED:Ans:=.call ⟨true,[]⟩ (.tup [.mapn,(.int .i64 4)]) []
def A8_7 (x2:aL):Ans:=.call ⟨true,[]⟩ (.bool (qH x2)) [(.map (aI .i64 (fun y=>(aG y).headD aD) x2) x2.length)]
theorem jF (k:Nat) (r:Bool) (h:qA k=some r):Tri Try.prog 8 [] [] (.bool r) []:=by
 unfold qA at h
 by_cases c0:eqI (nI aC.length) 0=true
 · rw[if_pos c0] at h
   obtain rfl:=osi h
   exact Tri.of (x:=X8) aH mB [wC,.n aC.length,dt] [⟨c0⟩,⟨(aK aA aC)⟩,⟨(bR)⟩] (by kernel_rfl)
 rw[if_neg c0] at h;replace c0:=eqf c0
 obtain⟨x1,e1,h⟩:=bsm h
 cases x1 with
 | inl x2 =>
  simp only[Sum.elim_inl] at h
  obtain⟨x3,e3,h⟩:=bsm h
  obtain⟨x4,e4,h⟩:=bsm h
  by_cases c5:leI 1 aC.length=true
  · rw[if_pos c5] at h
    obtain⟨x5,e6,h⟩:=bsm h
    cases x5 with
    | inl x6 =>
     simp only[Sum.elim_inl] at h
     by_cases c8:eqI (nI x2.length) 1=true
     · rw[if_pos c8] at h
       by_cases c9:lS x2 1=true
       · rw[if_pos c9] at h
         obtain⟨x7,e10,h⟩:=bsm h
         by_cases c11:eqI x7 2=true
         · rw[if_pos c11] at h
           by_cases c12:eqI x3.1 1=true
           · rw[if_pos c12] at h
             by_cases c13:eqI x3.2 0=true
             · rw[if_pos c13] at h
               by_cases c14:eqI (nI x4.1.length) 0=true
               · rw[if_pos c14] at h
                 by_cases c15:eqI x4.2 0=true
                 · rw[if_pos c15] at h
                   obtain rfl:=osi h
                   exact Tri.of (x:=X8) aH mB [wC,.n aC.length,df,(yF x2),(wM x3),(wZ x4),.n aC.length,wS,(A8_5 x6),dt,dt,.n x2.length,dt,dt,dt,dt,.opt (some (.int .i64 x7)),dt,dt,dt,dt,dt,dt,dt,dt,dt,dt,.n x4.1.length,dt,dt,dt,dt,dt,dt,dt,dt,df,df,df,df,df,df,df,df,df,df,df,df,df] [⟨rF⟩,⟨rF⟩,⟨rF⟩,⟨rF⟩,⟨rF⟩,⟨rF⟩,⟨rF⟩,⟨rF⟩,⟨(rfl:eqI 0 4=false)⟩,⟨(rfl:eqI 0 4=false)⟩,⟨(rfl:eqI 0 4=false)⟩,⟨(rfl:eqI 0 4=false)⟩,⟨(rfl:eqI 0 4=false)⟩,⟨c15⟩,⟨c15⟩,⟨c15⟩,⟨c14⟩,⟨c14⟩,⟨c14⟩,⟨c13⟩,⟨c13⟩,⟨(aK aB x4.1)⟩,⟨c13⟩,⟨c13⟩,⟨c12⟩,⟨c12⟩,⟨c12⟩,⟨c11⟩,⟨c11⟩,⟨c11⟩,⟨c8⟩,⟨c8⟩,⟨(bU .i64 (fun y=>(aG y).headD aD) e10)⟩,⟨c8⟩,⟨c8⟩,⟨(rfl:eqI 0 0=true)⟩,⟨(rfl:eqI 0 0=true)⟩,⟨(fA .i64 (fun y=>(aG y).headD aD) x2)⟩,⟨(rfl:eqI 0 0=true)⟩,⟨(rfl:eqI 0 0=true)⟩,⟨(aP k (List.drop 1 aC) (.inl x6) e6)⟩,⟨(iN aA (l:=aC) (n:=aC.length) rfl 1)⟩,⟨c5⟩,⟨(aK aA aC)⟩,⟨(bF k aC _ e4)⟩,⟨(b5 k aC _ e3)⟩,⟨(aP k aC (.inl x2) e1)⟩,⟨c0⟩,⟨(aK aA aC)⟩,⟨(bR)⟩] (by kernel_rfl)
                 rw[if_neg c15] at h;replace c15:=eqf c15
                 obtain rfl:=osi h
                 exact Tri.of (x:=X8) aH mB [wC,.n aC.length,df,(yF x2),(wM x3),(wZ x4),.n aC.length,wS,(A8_5 x6),dt,dt,.n x2.length,dt,dt,dt,dt,.opt (some (.int .i64 x7)),dt,dt,dt,dt,dt,dt,dt,dt,dt,dt,.n x4.1.length,dt,dt,dt,dt,dt,df,df,df,df,df,df,df,df,df,df,df,df,df,df,df,df] [⟨rF⟩,⟨rF⟩,⟨rF⟩,⟨rF⟩,⟨rF⟩,⟨rF⟩,⟨rF⟩,⟨rF⟩,⟨rF⟩,⟨rF⟩,⟨rF⟩,⟨rF⟩,⟨rF⟩,⟨c15⟩,⟨c15⟩,⟨c15⟩,⟨c14⟩,⟨c14⟩,⟨c14⟩,⟨c13⟩,⟨c13⟩,⟨(aK aB x4.1)⟩,⟨c13⟩,⟨c13⟩,⟨c12⟩,⟨c12⟩,⟨c12⟩,⟨c11⟩,⟨c11⟩,⟨c11⟩,⟨c8⟩,⟨c8⟩,⟨(bU .i64 (fun y=>(aG y).headD aD) e10)⟩,⟨c8⟩,⟨c8⟩,⟨(rfl:eqI 0 0=true)⟩,⟨(rfl:eqI 0 0=true)⟩,⟨(fA .i64 (fun y=>(aG y).headD aD) x2)⟩,⟨(rfl:eqI 0 0=true)⟩,⟨(rfl:eqI 0 0=true)⟩,⟨(aP k (List.drop 1 aC) (.inl x6) e6)⟩,⟨(iN aA (l:=aC) (n:=aC.length) rfl 1)⟩,⟨c5⟩,⟨(aK aA aC)⟩,⟨(bF k aC _ e4)⟩,⟨(b5 k aC _ e3)⟩,⟨(aP k aC (.inl x2) e1)⟩,⟨c0⟩,⟨(aK aA aC)⟩,⟨(bR)⟩] (by kernel_rfl)
               rw[if_neg c14] at h;replace c14:=eqf c14
               obtain rfl:=osi h
               exact Tri.of (x:=X8) aH mB [wC,.n aC.length,df,(yF x2),(wM x3),(wZ x4),.n aC.length,wS,(A8_5 x6),dt,dt,.n x2.length,dt,dt,dt,dt,.opt (some (.int .i64 x7)),dt,dt,dt,dt,dt,dt,dt,dt,dt,dt,.n x4.1.length,dt,dt,df,df,df,df,df,df,df,df,df,df,df,df,df,df,df,df,df,df,df] [⟨rF⟩,⟨rF⟩,⟨rF⟩,⟨rF⟩,⟨rF⟩,⟨rF⟩,⟨rF⟩,⟨rF⟩,⟨rF⟩,⟨rF⟩,⟨rF⟩,⟨rF⟩,⟨rF⟩,⟨rF⟩,⟨rF⟩,⟨rF⟩,⟨c14⟩,⟨c14⟩,⟨c14⟩,⟨c13⟩,⟨c13⟩,⟨(aK aB x4.1)⟩,⟨c13⟩,⟨c13⟩,⟨c12⟩,⟨c12⟩,⟨c12⟩,⟨c11⟩,⟨c11⟩,⟨c11⟩,⟨c8⟩,⟨c8⟩,⟨(bU .i64 (fun y=>(aG y).headD aD) e10)⟩,⟨c8⟩,⟨c8⟩,⟨(rfl:eqI 0 0=true)⟩,⟨(rfl:eqI 0 0=true)⟩,⟨(fA .i64 (fun y=>(aG y).headD aD) x2)⟩,⟨(rfl:eqI 0 0=true)⟩,⟨(rfl:eqI 0 0=true)⟩,⟨(aP k (List.drop 1 aC) (.inl x6) e6)⟩,⟨(iN aA (l:=aC) (n:=aC.length) rfl 1)⟩,⟨c5⟩,⟨(aK aA aC)⟩,⟨(bF k aC _ e4)⟩,⟨(b5 k aC _ e3)⟩,⟨(aP k aC (.inl x2) e1)⟩,⟨c0⟩,⟨(aK aA aC)⟩,⟨(bR)⟩] (by kernel_rfl)
             rw[if_neg c13] at h;replace c13:=eqf c13
             obtain rfl:=osi h
             exact Tri.of (x:=X8) aH mB [wC,.n aC.length,df,(yF x2),(wM x3),(wZ x4),.n aC.length,wS,(A8_5 x6),dt,dt,.n x2.length,dt,dt,dt,dt,.opt (some (.int .i64 x7)),dt,dt,dt,dt,dt,dt,dt,dt,df,df,df,df,df,df,df,df,df,df,df,df,df,df,df,df,df,df,df,df,df,df,df] [⟨rF⟩,⟨rF⟩,⟨rF⟩,⟨rF⟩,⟨rF⟩,⟨rF⟩,⟨rF⟩,⟨rF⟩,⟨rF⟩,⟨rF⟩,⟨rF⟩,⟨rF⟩,⟨rF⟩,⟨rF⟩,⟨rF⟩,⟨rF⟩,⟨rF⟩,⟨rF⟩,⟨rF⟩,⟨c13⟩,⟨c13⟩,⟨c13⟩,⟨c13⟩,⟨c12⟩,⟨c12⟩,⟨c12⟩,⟨c11⟩,⟨c11⟩,⟨c11⟩,⟨c8⟩,⟨c8⟩,⟨(bU .i64 (fun y=>(aG y).headD aD) e10)⟩,⟨c8⟩,⟨c8⟩,⟨(rfl:eqI 0 0=true)⟩,⟨(rfl:eqI 0 0=true)⟩,⟨(fA .i64 (fun y=>(aG y).headD aD) x2)⟩,⟨(rfl:eqI 0 0=true)⟩,⟨(rfl:eqI 0 0=true)⟩,⟨(aP k (List.drop 1 aC) (.inl x6) e6)⟩,⟨(iN aA (l:=aC) (n:=aC.length) rfl 1)⟩,⟨c5⟩,⟨(aK aA aC)⟩,⟨(bF k aC _ e4)⟩,⟨(b5 k aC _ e3)⟩,⟨(aP k aC (.inl x2) e1)⟩,⟨c0⟩,⟨(aK aA aC)⟩,⟨(bR)⟩] (by kernel_rfl)
           rw[if_neg c12] at h;replace c12:=eqf c12
           obtain rfl:=osi h
           exact Tri.of (x:=X8) aH mB [wC,.n aC.length,df,(yF x2),(wM x3),(wZ x4),.n aC.length,wS,(A8_5 x6),dt,dt,.n x2.length,dt,dt,dt,dt,.opt (some (.int .i64 x7)),dt,dt,dt,dt,dt,df,df,df,df,df,df,df,df,df,df,df,df,df,df,df,df,df,df,df,df,df,df,df,df,df,df] [⟨rF⟩,⟨rF⟩,⟨rF⟩,⟨rF⟩,⟨rF⟩,⟨rF⟩,⟨rF⟩,⟨rF⟩,⟨rF⟩,⟨rF⟩,⟨rF⟩,⟨rF⟩,⟨rF⟩,⟨rF⟩,⟨rF⟩,⟨rF⟩,⟨rF⟩,⟨rF⟩,⟨rF⟩,⟨rF⟩,⟨rF⟩,⟨rF⟩,⟨rF⟩,⟨c12⟩,⟨c12⟩,⟨c12⟩,⟨c11⟩,⟨c11⟩,⟨c11⟩,⟨c8⟩,⟨c8⟩,⟨(bU .i64 (fun y=>(aG y).headD aD) e10)⟩,⟨c8⟩,⟨c8⟩,⟨(rfl:eqI 0 0=true)⟩,⟨(rfl:eqI 0 0=true)⟩,⟨(fA .i64 (fun y=>(aG y).headD aD) x2)⟩,⟨(rfl:eqI 0 0=true)⟩,⟨(rfl:eqI 0 0=true)⟩,⟨(aP k (List.drop 1 aC) (.inl x6) e6)⟩,⟨(iN aA (l:=aC) (n:=aC.length) rfl 1)⟩,⟨c5⟩,⟨(aK aA aC)⟩,⟨(bF k aC _ e4)⟩,⟨(b5 k aC _ e3)⟩,⟨(aP k aC (.inl x2) e1)⟩,⟨c0⟩,⟨(aK aA aC)⟩,⟨(bR)⟩] (by kernel_rfl)
         rw[if_neg c11] at h;replace c11:=eqf c11
         obtain rfl:=osi h
         exact Tri.of (x:=X8) aH mB [wC,.n aC.length,df,(yF x2),(wM x3),(wZ x4),.n aC.length,wS,(A8_5 x6),dt,dt,.n x2.length,dt,dt,dt,dt,.opt (some (.int .i64 x7)),dt,dt,df,df,df,df,df,df,df,df,df,df,df,df,df,df,df,df,df,df,df,df,df,df,df,df,df,df,df,df,df] [⟨rF⟩,⟨rF⟩,⟨rF⟩,⟨rF⟩,⟨rF⟩,⟨rF⟩,⟨rF⟩,⟨rF⟩,⟨rF⟩,⟨rF⟩,⟨rF⟩,⟨rF⟩,⟨rF⟩,⟨rF⟩,⟨rF⟩,⟨rF⟩,⟨rF⟩,⟨rF⟩,⟨rF⟩,⟨rF⟩,⟨rF⟩,⟨rF⟩,⟨rF⟩,⟨rF⟩,⟨rF⟩,⟨rF⟩,⟨c11⟩,⟨c11⟩,⟨c11⟩,⟨c8⟩,⟨c8⟩,⟨(bU .i64 (fun y=>(aG y).headD aD) e10)⟩,⟨c8⟩,⟨c8⟩,⟨(rfl:eqI 0 0=true)⟩,⟨(rfl:eqI 0 0=true)⟩,⟨(fA .i64 (fun y=>(aG y).headD aD) x2)⟩,⟨(rfl:eqI 0 0=true)⟩,⟨(rfl:eqI 0 0=true)⟩,⟨(aP k (List.drop 1 aC) (.inl x6) e6)⟩,⟨(iN aA (l:=aC) (n:=aC.length) rfl 1)⟩,⟨c5⟩,⟨(aK aA aC)⟩,⟨(bF k aC _ e4)⟩,⟨(b5 k aC _ e3)⟩,⟨(aP k aC (.inl x2) e1)⟩,⟨c0⟩,⟨(aK aA aC)⟩,⟨(bR)⟩] (by kernel_rfl)
       rw[if_neg c9] at h;replace c9:=eqf c9
       obtain rfl:=osi h
       exact Tri.of (x:=X8) aH mB [wC,.n aC.length,df,(yF x2),(wM x3),(wZ x4),.n aC.length,wS,(A8_5 x6),dt,dt,.n x2.length,dt,dt,dt,dt,.opt none,dt,dt,df,df,df,df,df,df,df,df,df,df,df,df,df,df,df,df,df,df,df,df,df,df,df,df,df,df,df,df,df] [⟨rF⟩,⟨rF⟩,⟨rF⟩,⟨rF⟩,⟨rF⟩,⟨rF⟩,⟨rF⟩,⟨rF⟩,⟨rF⟩,⟨rF⟩,⟨rF⟩,⟨rF⟩,⟨rF⟩,⟨rF⟩,⟨rF⟩,⟨rF⟩,⟨rF⟩,⟨rF⟩,⟨rF⟩,⟨rF⟩,⟨rF⟩,⟨rF⟩,⟨rF⟩,⟨rF⟩,⟨rF⟩,⟨rF⟩,⟨(rfl:eqI 0 2=false)⟩,⟨(rfl:eqI 0 2=false)⟩,⟨(rfl:eqI 0 2=false)⟩,⟨c8⟩,⟨c8⟩,⟨(f4 .i64 (fun y=>(aG y).headD aD) c9)⟩,⟨c8⟩,⟨c8⟩,⟨(rfl:eqI 0 0=true)⟩,⟨(rfl:eqI 0 0=true)⟩,⟨(fA .i64 (fun y=>(aG y).headD aD) x2)⟩,⟨(rfl:eqI 0 0=true)⟩,⟨(rfl:eqI 0 0=true)⟩,⟨(aP k (List.drop 1 aC) (.inl x6) e6)⟩,⟨(iN aA (l:=aC) (n:=aC.length) rfl 1)⟩,⟨c5⟩,⟨(aK aA aC)⟩,⟨(bF k aC _ e4)⟩,⟨(b5 k aC _ e3)⟩,⟨(aP k aC (.inl x2) e1)⟩,⟨c0⟩,⟨(aK aA aC)⟩,⟨(bR)⟩] (by kernel_rfl)
     rw[if_neg c8] at h;replace c8:=eqf c8
     obtain rfl:=osi h
     exact Tri.of (x:=X8) aH mB [wC,.n aC.length,df,(yF x2),(wM x3),(wZ x4),.n aC.length,wS,(A8_5 x6),dt,dt,.n x2.length,dt,dt,df,df,df,df,df,df,df,df,df,df,df,df,df,df,df,df,df,df,df,df,df,df,df,df,df,df,df,df,df,df,df,df,df] [⟨rF⟩,⟨rF⟩,⟨rF⟩,⟨rF⟩,⟨rF⟩,⟨rF⟩,⟨rF⟩,⟨rF⟩,⟨rF⟩,⟨rF⟩,⟨rF⟩,⟨rF⟩,⟨rF⟩,⟨rF⟩,⟨rF⟩,⟨rF⟩,⟨rF⟩,⟨rF⟩,⟨rF⟩,⟨rF⟩,⟨rF⟩,⟨rF⟩,⟨rF⟩,⟨rF⟩,⟨rF⟩,⟨rF⟩,⟨rF⟩,⟨rF⟩,⟨rF⟩,⟨c8⟩,⟨c8⟩,⟨c8⟩,⟨c8⟩,⟨(rfl:eqI 0 0=true)⟩,⟨(rfl:eqI 0 0=true)⟩,⟨(fA .i64 (fun y=>(aG y).headD aD) x2)⟩,⟨(rfl:eqI 0 0=true)⟩,⟨(rfl:eqI 0 0=true)⟩,⟨(aP k (List.drop 1 aC) (.inl x6) e6)⟩,⟨(iN aA (l:=aC) (n:=aC.length) rfl 1)⟩,⟨c5⟩,⟨(aK aA aC)⟩,⟨(bF k aC _ e4)⟩,⟨(b5 k aC _ e3)⟩,⟨(aP k aC (.inl x2) e1)⟩,⟨c0⟩,⟨(aK aA aC)⟩,⟨(bR)⟩] (by kernel_rfl)
    | inr x6 =>
     simp only[Sum.elim_inr] at h
     by_cases c8:eqI (nI x2.length) 1=true
     · rw[if_pos c8] at h
       by_cases c9:lS x2 1=true
       · rw[if_pos c9] at h
         obtain⟨x7,e10,h⟩:=bsm h
         by_cases c11:eqI x7 2=true
         · rw[if_pos c11] at h
           by_cases c12:eqI x3.1 1=true
           · rw[if_pos c12] at h
             by_cases c13:eqI x3.2 0=true
             · rw[if_pos c13] at h
               by_cases c14:eqI (nI x4.1.length) 0=true
               · rw[if_pos c14] at h
                 by_cases c15:eqI x4.2 0=true
                 · rw[if_pos c15] at h
                   by_cases c16:(qH x2)=true
                   · rw[if_pos c16] at h
                     obtain rfl:=osi h
                     exact Tri.of (x:=X8) aH mB [wC,.n aC.length,df,(yF x2),(wM x3),(wZ x4),.n aC.length,wS,aED,dt,dt,.n x2.length,dt,dt,dt,dt,.opt (some (.int .i64 x7)),dt,dt,dt,dt,dt,dt,dt,dt,dt,dt,.n x4.1.length,dt,dt,dt,dt,dt,dt,dt,dt,dt,dt,dt,dt,(A8_7 x2),dt,dt,dt,dt,.ents (aI .i64 (fun y=>(aG y).headD aD) (bE ([]:aL) 1 1)) (bE ([]:aL) 1 1).length,dt,dt,dt,.call ⟨true,[]⟩ (.bool (pF x2 (bE ([]:aL) 1 1))) [(.map (aI .i64 (fun y=>(aG y).headD aD) x2) x2.length),(.map (aI .i64 (fun y=>(aG y).headD aD) (bE ([]:aL) 1 1)) (bE ([]:aL) 1 1).length)],dt,dt] [⟨c16⟩,⟨c16⟩,⟨(aDD x2 (bE ([]:aL) 1 1))⟩,⟨c16⟩,⟨c16⟩,⟨c16⟩,⟨(lT .i64 (fun y=>(aG y).headD aD) ([]:aL) 1 1)⟩,⟨c16⟩,⟨c16⟩,⟨c16⟩,⟨(rfl:eqI 4 4=true)⟩,⟨(yM x2)⟩,⟨(rfl:eqI 4 4=true)⟩,⟨(rfl:eqI 4 4=true)⟩,⟨(rfl:eqI 4 4=true)⟩,⟨(rfl:eqI 4 4=true)⟩,⟨c15⟩,⟨c15⟩,⟨c15⟩,⟨c14⟩,⟨c14⟩,⟨c14⟩,⟨c13⟩,⟨c13⟩,⟨(aK aB x4.1)⟩,⟨c13⟩,⟨c13⟩,⟨c12⟩,⟨c12⟩,⟨c12⟩,⟨c11⟩,⟨c11⟩,⟨c11⟩,⟨c8⟩,⟨c8⟩,⟨(bU .i64 (fun y=>(aG y).headD aD) e10)⟩,⟨c8⟩,⟨c8⟩,⟨(rfl:eqI 0 0=true)⟩,⟨(rfl:eqI 0 0=true)⟩,⟨(fA .i64 (fun y=>(aG y).headD aD) x2)⟩,⟨(rfl:eqI 0 0=true)⟩,⟨(rfl:eqI 0 0=true)⟩,⟨(aP k (List.drop 1 aC) (.inr x6) e6)⟩,⟨(iN aA (l:=aC) (n:=aC.length) rfl 1)⟩,⟨c5⟩,⟨(aK aA aC)⟩,⟨(bF k aC _ e4)⟩,⟨(b5 k aC _ e3)⟩,⟨(aP k aC (.inl x2) e1)⟩,⟨c0⟩,⟨(aK aA aC)⟩,⟨(bR)⟩] (by kernel_rfl)
                   rw[if_neg c16] at h;replace c16:=eqf c16
                   obtain rfl:=osi h
                   exact Tri.of (x:=X8) aH mB [wC,.n aC.length,df,(yF x2),(wM x3),(wZ x4),.n aC.length,wS,aED,dt,dt,.n x2.length,dt,dt,dt,dt,.opt (some (.int .i64 x7)),dt,dt,dt,dt,dt,dt,dt,dt,dt,dt,.n x4.1.length,dt,dt,dt,dt,dt,dt,dt,dt,dt,dt,dt,dt,(A8_7 x2),dt,df,df,df,df,df,df,df,df] [⟨c16⟩,⟨c16⟩,⟨c16⟩,⟨c16⟩,⟨c16⟩,⟨c16⟩,⟨c16⟩,⟨c16⟩,⟨(rfl:eqI 4 4=true)⟩,⟨(yM x2)⟩,⟨(rfl:eqI 4 4=true)⟩,⟨(rfl:eqI 4 4=true)⟩,⟨(rfl:eqI 4 4=true)⟩,⟨(rfl:eqI 4 4=true)⟩,⟨c15⟩,⟨c15⟩,⟨c15⟩,⟨c14⟩,⟨c14⟩,⟨c14⟩,⟨c13⟩,⟨c13⟩,⟨(aK aB x4.1)⟩,⟨c13⟩,⟨c13⟩,⟨c12⟩,⟨c12⟩,⟨c12⟩,⟨c11⟩,⟨c11⟩,⟨c11⟩,⟨c8⟩,⟨c8⟩,⟨(bU .i64 (fun y=>(aG y).headD aD) e10)⟩,⟨c8⟩,⟨c8⟩,⟨(rfl:eqI 0 0=true)⟩,⟨(rfl:eqI 0 0=true)⟩,⟨(fA .i64 (fun y=>(aG y).headD aD) x2)⟩,⟨(rfl:eqI 0 0=true)⟩,⟨(rfl:eqI 0 0=true)⟩,⟨(aP k (List.drop 1 aC) (.inr x6) e6)⟩,⟨(iN aA (l:=aC) (n:=aC.length) rfl 1)⟩,⟨c5⟩,⟨(aK aA aC)⟩,⟨(bF k aC _ e4)⟩,⟨(b5 k aC _ e3)⟩,⟨(aP k aC (.inl x2) e1)⟩,⟨c0⟩,⟨(aK aA aC)⟩,⟨(bR)⟩] (by kernel_rfl)
                 rw[if_neg c15] at h;replace c15:=eqf c15
                 obtain rfl:=osi h
                 exact Tri.of (x:=X8) aH mB [wC,.n aC.length,df,(yF x2),(wM x3),(wZ x4),.n aC.length,wS,aED,dt,dt,.n x2.length,dt,dt,dt,dt,.opt (some (.int .i64 x7)),dt,dt,dt,dt,dt,dt,dt,dt,dt,dt,.n x4.1.length,dt,dt,dt,dt,dt,df,df,df,df,df,df,df,df,df,df,df,df,df,df,df,df] [⟨rF⟩,⟨rF⟩,⟨rF⟩,⟨rF⟩,⟨rF⟩,⟨rF⟩,⟨rF⟩,⟨rF⟩,⟨rF⟩,⟨rF⟩,⟨rF⟩,⟨rF⟩,⟨rF⟩,⟨c15⟩,⟨c15⟩,⟨c15⟩,⟨c14⟩,⟨c14⟩,⟨c14⟩,⟨c13⟩,⟨c13⟩,⟨(aK aB x4.1)⟩,⟨c13⟩,⟨c13⟩,⟨c12⟩,⟨c12⟩,⟨c12⟩,⟨c11⟩,⟨c11⟩,⟨c11⟩,⟨c8⟩,⟨c8⟩,⟨(bU .i64 (fun y=>(aG y).headD aD) e10)⟩,⟨c8⟩,⟨c8⟩,⟨(rfl:eqI 0 0=true)⟩,⟨(rfl:eqI 0 0=true)⟩,⟨(fA .i64 (fun y=>(aG y).headD aD) x2)⟩,⟨(rfl:eqI 0 0=true)⟩,⟨(rfl:eqI 0 0=true)⟩,⟨(aP k (List.drop 1 aC) (.inr x6) e6)⟩,⟨(iN aA (l:=aC) (n:=aC.length) rfl 1)⟩,⟨c5⟩,⟨(aK aA aC)⟩,⟨(bF k aC _ e4)⟩,⟨(b5 k aC _ e3)⟩,⟨(aP k aC (.inl x2) e1)⟩,⟨c0⟩,⟨(aK aA aC)⟩,⟨(bR)⟩] (by kernel_rfl)
               rw[if_neg c14] at h;replace c14:=eqf c14
               obtain rfl:=osi h
               exact Tri.of (x:=X8) aH mB [wC,.n aC.length,df,(yF x2),(wM x3),(wZ x4),.n aC.length,wS,aED,dt,dt,.n x2.length,dt,dt,dt,dt,.opt (some (.int .i64 x7)),dt,dt,dt,dt,dt,dt,dt,dt,dt,dt,.n x4.1.length,dt,dt,df,df,df,df,df,df,df,df,df,df,df,df,df,df,df,df,df,df,df] [⟨rF⟩,⟨rF⟩,⟨rF⟩,⟨rF⟩,⟨rF⟩,⟨rF⟩,⟨rF⟩,⟨rF⟩,⟨rF⟩,⟨rF⟩,⟨rF⟩,⟨rF⟩,⟨rF⟩,⟨rF⟩,⟨rF⟩,⟨rF⟩,⟨c14⟩,⟨c14⟩,⟨c14⟩,⟨c13⟩,⟨c13⟩,⟨(aK aB x4.1)⟩,⟨c13⟩,⟨c13⟩,⟨c12⟩,⟨c12⟩,⟨c12⟩,⟨c11⟩,⟨c11⟩,⟨c11⟩,⟨c8⟩,⟨c8⟩,⟨(bU .i64 (fun y=>(aG y).headD aD) e10)⟩,⟨c8⟩,⟨c8⟩,⟨(rfl:eqI 0 0=true)⟩,⟨(rfl:eqI 0 0=true)⟩,⟨(fA .i64 (fun y=>(aG y).headD aD) x2)⟩,⟨(rfl:eqI 0 0=true)⟩,⟨(rfl:eqI 0 0=true)⟩,⟨(aP k (List.drop 1 aC) (.inr x6) e6)⟩,⟨(iN aA (l:=aC) (n:=aC.length) rfl 1)⟩,⟨c5⟩,⟨(aK aA aC)⟩,⟨(bF k aC _ e4)⟩,⟨(b5 k aC _ e3)⟩,⟨(aP k aC (.inl x2) e1)⟩,⟨c0⟩,⟨(aK aA aC)⟩,⟨(bR)⟩] (by kernel_rfl)
             rw[if_neg c13] at h;replace c13:=eqf c13
             obtain rfl:=osi h
             exact Tri.of (x:=X8) aH mB [wC,.n aC.length,df,(yF x2),(wM x3),(wZ x4),.n aC.length,wS,aED,dt,dt,.n x2.length,dt,dt,dt,dt,.opt (some (.int .i64 x7)),dt,dt,dt,dt,dt,dt,dt,dt,df,df,df,df,df,df,df,df,df,df,df,df,df,df,df,df,df,df,df,df,df,df,df] [⟨rF⟩,⟨rF⟩,⟨rF⟩,⟨rF⟩,⟨rF⟩,⟨rF⟩,⟨rF⟩,⟨rF⟩,⟨rF⟩,⟨rF⟩,⟨rF⟩,⟨rF⟩,⟨rF⟩,⟨rF⟩,⟨rF⟩,⟨rF⟩,⟨rF⟩,⟨rF⟩,⟨rF⟩,⟨c13⟩,⟨c13⟩,⟨c13⟩,⟨c13⟩,⟨c12⟩,⟨c12⟩,⟨c12⟩,⟨c11⟩,⟨c11⟩,⟨c11⟩,⟨c8⟩,⟨c8⟩,⟨(bU .i64 (fun y=>(aG y).headD aD) e10)⟩,⟨c8⟩,⟨c8⟩,⟨(rfl:eqI 0 0=true)⟩,⟨(rfl:eqI 0 0=true)⟩,⟨(fA .i64 (fun y=>(aG y).headD aD) x2)⟩,⟨(rfl:eqI 0 0=true)⟩,⟨(rfl:eqI 0 0=true)⟩,⟨(aP k (List.drop 1 aC) (.inr x6) e6)⟩,⟨(iN aA (l:=aC) (n:=aC.length) rfl 1)⟩,⟨c5⟩,⟨(aK aA aC)⟩,⟨(bF k aC _ e4)⟩,⟨(b5 k aC _ e3)⟩,⟨(aP k aC (.inl x2) e1)⟩,⟨c0⟩,⟨(aK aA aC)⟩,⟨(bR)⟩] (by kernel_rfl)
           rw[if_neg c12] at h;replace c12:=eqf c12
           obtain rfl:=osi h
           exact Tri.of (x:=X8) aH mB [wC,.n aC.length,df,(yF x2),(wM x3),(wZ x4),.n aC.length,wS,aED,dt,dt,.n x2.length,dt,dt,dt,dt,.opt (some (.int .i64 x7)),dt,dt,dt,dt,dt,df,df,df,df,df,df,df,df,df,df,df,df,df,df,df,df,df,df,df,df,df,df,df,df,df,df] [⟨rF⟩,⟨rF⟩,⟨rF⟩,⟨rF⟩,⟨rF⟩,⟨rF⟩,⟨rF⟩,⟨rF⟩,⟨rF⟩,⟨rF⟩,⟨rF⟩,⟨rF⟩,⟨rF⟩,⟨rF⟩,⟨rF⟩,⟨rF⟩,⟨rF⟩,⟨rF⟩,⟨rF⟩,⟨rF⟩,⟨rF⟩,⟨rF⟩,⟨rF⟩,⟨c12⟩,⟨c12⟩,⟨c12⟩,⟨c11⟩,⟨c11⟩,⟨c11⟩,⟨c8⟩,⟨c8⟩,⟨(bU .i64 (fun y=>(aG y).headD aD) e10)⟩,⟨c8⟩,⟨c8⟩,⟨(rfl:eqI 0 0=true)⟩,⟨(rfl:eqI 0 0=true)⟩,⟨(fA .i64 (fun y=>(aG y).headD aD) x2)⟩,⟨(rfl:eqI 0 0=true)⟩,⟨(rfl:eqI 0 0=true)⟩,⟨(aP k (List.drop 1 aC) (.inr x6) e6)⟩,⟨(iN aA (l:=aC) (n:=aC.length) rfl 1)⟩,⟨c5⟩,⟨(aK aA aC)⟩,⟨(bF k aC _ e4)⟩,⟨(b5 k aC _ e3)⟩,⟨(aP k aC (.inl x2) e1)⟩,⟨c0⟩,⟨(aK aA aC)⟩,⟨(bR)⟩] (by kernel_rfl)
         rw[if_neg c11] at h;replace c11:=eqf c11
         obtain rfl:=osi h
         exact Tri.of (x:=X8) aH mB [wC,.n aC.length,df,(yF x2),(wM x3),(wZ x4),.n aC.length,wS,aED,dt,dt,.n x2.length,dt,dt,dt,dt,.opt (some (.int .i64 x7)),dt,dt,df,df,df,df,df,df,df,df,df,df,df,df,df,df,df,df,df,df,df,df,df,df,df,df,df,df,df,df,df] [⟨rF⟩,⟨rF⟩,⟨rF⟩,⟨rF⟩,⟨rF⟩,⟨rF⟩,⟨rF⟩,⟨rF⟩,⟨rF⟩,⟨rF⟩,⟨rF⟩,⟨rF⟩,⟨rF⟩,⟨rF⟩,⟨rF⟩,⟨rF⟩,⟨rF⟩,⟨rF⟩,⟨rF⟩,⟨rF⟩,⟨rF⟩,⟨rF⟩,⟨rF⟩,⟨rF⟩,⟨rF⟩,⟨rF⟩,⟨c11⟩,⟨c11⟩,⟨c11⟩,⟨c8⟩,⟨c8⟩,⟨(bU .i64 (fun y=>(aG y).headD aD) e10)⟩,⟨c8⟩,⟨c8⟩,⟨(rfl:eqI 0 0=true)⟩,⟨(rfl:eqI 0 0=true)⟩,⟨(fA .i64 (fun y=>(aG y).headD aD) x2)⟩,⟨(rfl:eqI 0 0=true)⟩,⟨(rfl:eqI 0 0=true)⟩,⟨(aP k (List.drop 1 aC) (.inr x6) e6)⟩,⟨(iN aA (l:=aC) (n:=aC.length) rfl 1)⟩,⟨c5⟩,⟨(aK aA aC)⟩,⟨(bF k aC _ e4)⟩,⟨(b5 k aC _ e3)⟩,⟨(aP k aC (.inl x2) e1)⟩,⟨c0⟩,⟨(aK aA aC)⟩,⟨(bR)⟩] (by kernel_rfl)
       rw[if_neg c9] at h;replace c9:=eqf c9
       obtain rfl:=osi h
       exact Tri.of (x:=X8) aH mB [wC,.n aC.length,df,(yF x2),(wM x3),(wZ x4),.n aC.length,wS,aED,dt,dt,.n x2.length,dt,dt,dt,dt,.opt none,dt,dt,df,df,df,df,df,df,df,df,df,df,df,df,df,df,df,df,df,df,df,df,df,df,df,df,df,df,df,df,df] [⟨rF⟩,⟨rF⟩,⟨rF⟩,⟨rF⟩,⟨rF⟩,⟨rF⟩,⟨rF⟩,⟨rF⟩,⟨rF⟩,⟨rF⟩,⟨rF⟩,⟨rF⟩,⟨rF⟩,⟨rF⟩,⟨rF⟩,⟨rF⟩,⟨rF⟩,⟨rF⟩,⟨rF⟩,⟨rF⟩,⟨rF⟩,⟨rF⟩,⟨rF⟩,⟨rF⟩,⟨rF⟩,⟨rF⟩,⟨(rfl:eqI 0 2=false)⟩,⟨(rfl:eqI 0 2=false)⟩,⟨(rfl:eqI 0 2=false)⟩,⟨c8⟩,⟨c8⟩,⟨(f4 .i64 (fun y=>(aG y).headD aD) c9)⟩,⟨c8⟩,⟨c8⟩,⟨(rfl:eqI 0 0=true)⟩,⟨(rfl:eqI 0 0=true)⟩,⟨(fA .i64 (fun y=>(aG y).headD aD) x2)⟩,⟨(rfl:eqI 0 0=true)⟩,⟨(rfl:eqI 0 0=true)⟩,⟨(aP k (List.drop 1 aC) (.inr x6) e6)⟩,⟨(iN aA (l:=aC) (n:=aC.length) rfl 1)⟩,⟨c5⟩,⟨(aK aA aC)⟩,⟨(bF k aC _ e4)⟩,⟨(b5 k aC _ e3)⟩,⟨(aP k aC (.inl x2) e1)⟩,⟨c0⟩,⟨(aK aA aC)⟩,⟨(bR)⟩] (by kernel_rfl)
     rw[if_neg c8] at h;replace c8:=eqf c8
     obtain rfl:=osi h
     exact Tri.of (x:=X8) aH mB [wC,.n aC.length,df,(yF x2),(wM x3),(wZ x4),.n aC.length,wS,aED,dt,dt,.n x2.length,dt,dt,df,df,df,df,df,df,df,df,df,df,df,df,df,df,df,df,df,df,df,df,df,df,df,df,df,df,df,df,df,df,df,df,df] [⟨rF⟩,⟨rF⟩,⟨rF⟩,⟨rF⟩,⟨rF⟩,⟨rF⟩,⟨rF⟩,⟨rF⟩,⟨rF⟩,⟨rF⟩,⟨rF⟩,⟨rF⟩,⟨rF⟩,⟨rF⟩,⟨rF⟩,⟨rF⟩,⟨rF⟩,⟨rF⟩,⟨rF⟩,⟨rF⟩,⟨rF⟩,⟨rF⟩,⟨rF⟩,⟨rF⟩,⟨rF⟩,⟨rF⟩,⟨rF⟩,⟨rF⟩,⟨rF⟩,⟨c8⟩,⟨c8⟩,⟨c8⟩,⟨c8⟩,⟨(rfl:eqI 0 0=true)⟩,⟨(rfl:eqI 0 0=true)⟩,⟨(fA .i64 (fun y=>(aG y).headD aD) x2)⟩,⟨(rfl:eqI 0 0=true)⟩,⟨(rfl:eqI 0 0=true)⟩,⟨(aP k (List.drop 1 aC) (.inr x6) e6)⟩,⟨(iN aA (l:=aC) (n:=aC.length) rfl 1)⟩,⟨c5⟩,⟨(aK aA aC)⟩,⟨(bF k aC _ e4)⟩,⟨(b5 k aC _ e3)⟩,⟨(aP k aC (.inl x2) e1)⟩,⟨c0⟩,⟨(aK aA aC)⟩,⟨(bR)⟩] (by kernel_rfl)
  rw[if_neg c5] at h;replace c5:=eqf c5
  cases h
 | inr x2 =>
  simp only[Sum.elim_inr] at h
  obtain⟨x3,e3,h⟩:=bsm h
  obtain⟨x4,e4,h⟩:=bsm h
  by_cases c5:leI 1 aC.length=true
  · rw[if_pos c5] at h
    obtain⟨x5,e6,h⟩:=bsm h
    cases x5 with
    | inl x6 =>
     simp only[Sum.elim_inl] at h
     obtain rfl:=osi h
     exact Tri.of (x:=X8) aH mB [wC,.n aC.length,df,aED,(wM x3),(wZ x4),.n aC.length,wS,(A8_5 x6),df,df,df,df,df,df,df,df,df,df,df,df,df,df,df,df,df,df,df,df,df,df,df,df,df,df,df,df,df,df,df,df,df,df,df,df,df] [⟨rF⟩,⟨rF⟩,⟨rF⟩,⟨rF⟩,⟨rF⟩,⟨rF⟩,⟨rF⟩,⟨rF⟩,⟨rF⟩,⟨rF⟩,⟨rF⟩,⟨rF⟩,⟨rF⟩,⟨rF⟩,⟨rF⟩,⟨rF⟩,⟨rF⟩,⟨rF⟩,⟨rF⟩,⟨rF⟩,⟨rF⟩,⟨rF⟩,⟨rF⟩,⟨rF⟩,⟨rF⟩,⟨rF⟩,⟨rF⟩,⟨rF⟩,⟨rF⟩,⟨rF⟩,⟨rF⟩,⟨rF⟩,⟨rF⟩,⟨(rfl:eqI 4 0=false)⟩,⟨(rfl:eqI 4 0=false)⟩,⟨(rfl:eqI 4 0=false)⟩,⟨(rfl:eqI 4 0=false)⟩,⟨(aP k (List.drop 1 aC) (.inl x6) e6)⟩,⟨(iN aA (l:=aC) (n:=aC.length) rfl 1)⟩,⟨c5⟩,⟨(aK aA aC)⟩,⟨(bF k aC _ e4)⟩,⟨(b5 k aC _ e3)⟩,⟨(aP k aC (.inr x2) e1)⟩,⟨c0⟩,⟨(aK aA aC)⟩,⟨(bR)⟩] (by kernel_rfl)
    | inr x6 =>
     simp only[Sum.elim_inr] at h
     obtain rfl:=osi h
     exact Tri.of (x:=X8) aH mB [wC,.n aC.length,df,aED,(wM x3),(wZ x4),.n aC.length,wS,aED,df,df,df,df,df,df,df,df,df,df,df,df,df,df,df,df,df,df,df,df,df,df,df,df,df,df,df,df,df,df,df,df,df,df,df,df,df] [⟨rF⟩,⟨rF⟩,⟨rF⟩,⟨rF⟩,⟨rF⟩,⟨rF⟩,⟨rF⟩,⟨rF⟩,⟨rF⟩,⟨rF⟩,⟨rF⟩,⟨rF⟩,⟨rF⟩,⟨rF⟩,⟨rF⟩,⟨rF⟩,⟨rF⟩,⟨rF⟩,⟨rF⟩,⟨rF⟩,⟨rF⟩,⟨rF⟩,⟨rF⟩,⟨rF⟩,⟨rF⟩,⟨rF⟩,⟨rF⟩,⟨rF⟩,⟨rF⟩,⟨rF⟩,⟨rF⟩,⟨rF⟩,⟨rF⟩,⟨(rfl:eqI 4 0=false)⟩,⟨(rfl:eqI 4 0=false)⟩,⟨(rfl:eqI 4 0=false)⟩,⟨(rfl:eqI 4 0=false)⟩,⟨(aP k (List.drop 1 aC) (.inr x6) e6)⟩,⟨(iN aA (l:=aC) (n:=aC.length) rfl 1)⟩,⟨c5⟩,⟨(aK aA aC)⟩,⟨(bF k aC _ e4)⟩,⟨(b5 k aC _ e3)⟩,⟨(aP k aC (.inr x2) e1)⟩,⟨c0⟩,⟨(aK aA aC)⟩,⟨(bR)⟩] (by kernel_rfl)
  rw[if_neg c5] at h;replace c5:=eqf c5
  cases h
end Go.Ws

namespace Go.Ws
open Go.Proofs
set_option linter.unusedSimpArgs false
set_option linter.unusedVariables false
set_option maxRecDepth 1000000
set_option maxHeartbeats 4000000
noncomputable def X35_1001:Ctx:=⟨Try.f35,[],false⟩
theorem wB (k:Nat) (x1:Ty7) (r:Unit) (h:iA k x1=some r):Tri Try.prog 35 [(.inl 4 (List.map aA x1))] [] (.ref 4 0 0 0 x1.length .virt) [(.arr 4 (List.map aA x1) 0 0 false)]:=by
 unfold iA at h
 by_cases c0:dV (x1.length*32)=true
 · rw[if_pos c0] at h
   obtain rfl:=osi h
   exact Tri.of (x:=X35_1001) aH aNC [df,.n x1.length,.norm 0 ⟨[(2,[])],[⟨.tmp 2,[],some 4⟩],false,[],[]⟩,.n x1.length,.rows (List.map aA x1)] [⟨(dZ aA (l:=x1) (n:=x1.length) rfl)⟩,⟨(rfl:x1.length=x1.length)⟩,⟨(zle x1.length)⟩,⟨c0⟩,⟨(aK aA x1)⟩,⟨rF⟩] (by kernel_rfl)
 rw[if_neg c0] at h;replace c0:=eqf c0
 cases h
end Go.Ws

namespace Go.Ws
open Go.Proofs
set_option linter.unusedSimpArgs false
set_option linter.unusedVariables false
set_option maxRecDepth 1000000
set_option maxHeartbeats 4000000
noncomputable def X35_1002:Ctx:=⟨Try.f35,[],false⟩
theorem vY:Tri Try.prog 35 [.nils] [] (.ref 4 0 0 0 0 .virt) [(.arr 4 (List.map aA []) 0 0 false)]:=by
 obtain⟨r,h⟩:∃r,oI=r:=⟨_,rfl⟩
 try rw[h]
 unfold oI at h
 obtain rfl:=h
 exact Tri.of (x:=X35_1002) aH aNC [dt,.norm 0 ⟨[(2,[])],[⟨.tmp 2,[],some 4⟩],false,[],[]⟩,.n 0,.rows (List.map aA [])] [⟨(dZ aA (l:=[]) (n:=0) rfl)⟩,⟨(rfl:0=0)⟩,⟨(zle 0)⟩,⟨rT⟩] (by kernel_rfl)
end Go.Ws

namespace Go.Ws
open Go.Proofs
set_option linter.unusedSimpArgs false
set_option linter.unusedVariables false
set_option maxRecDepth 1000000
set_option maxHeartbeats 4000000
theorem aA5 (k:Nat) (x1:Ty7) (r:Unit) (h:nE k x1=some r):Tri Try.prog 35 [(.sl 4 (List.map aA x1))] [] (.ref 4 0 0 0 x1.length .virt) [(.arr 4 (List.map aA x1) 0 0 false)]:=by
 refine Tri.slOf (wB k x1 r h) fun h0=>?_
 have hx:x1=[]:=by simpa using h0
 subst hx
 exact vY
end Go.Ws

namespace Go.Ws
open Go.Proofs
set_option linter.unusedSimpArgs false
set_option linter.unusedVariables false
set_option maxRecDepth 1000000
set_option maxHeartbeats 4000000
noncomputable def X22 (x1:aL) (x2:Ty8) (x3:Ty2) (x4:Ty7):Ctx:=⟨Try.f22,[(.row [(.sl 2 (List.map aB x1)),(.sl 3 (List.map aE x2)),(.mp 1),(.ref 4 2 0 0 x4.length .virt)]),(.map (aI .i64 (fun y=>AV.agg (aF y)) x3) x3.length),(.arr 4 (List.map aA x4) 0 0 false)],false⟩
theorem kF (k:Nat) (x1:aL) (x2:Ty8) (x3:Ty2) (x4:Ty7) (r:Unit) (h:nM k x1 x2 x3 x4=some r):Tri Try.prog 22 [(.hp 0 0)] [(.row [(.sl 2 (List.map aB x1)),(.sl 3 (List.map aE x2)),(.mp 1),(.ref 4 2 0 0 x4.length .virt)]),(.map (aI .i64 (fun y=>AV.agg (aF y)) x3) x3.length),(.arr 4 (List.map aA x4) 0 0 false)] (.ref 4 3 0 0 x4.length .virt) [(.row [(.sl 2 (List.map aB x1)),(.sl 3 (List.map aE x2)),(.mp 1),(.ref 4 2 0 0 x4.length .virt)]),(.map (aI .i64 (fun y=>AV.agg (aF y)) x3) x3.length),(.arr 4 (List.map aA x4) 0 0 true),(.arr 4 (List.map aA x4) 0 0 false)]:=by
 unfold nM at h
 obtain⟨x5,e0,h⟩:=bsm h
 obtain rfl:=osi h
 exact Tri.of (x:=(X22 x1 x2 x3 x4)) aH facts22 [.call ⟨true,[]⟩ (.bool (!false)) [(.row [(.sl 2 (List.map aB x1)),(.sl 3 (List.map aE x2)),(.mp 1),(.ref 4 2 0 0 x4.length .virt)]),(.map (aI .i64 (fun y=>AV.agg (aF y)) x3) x3.length),(.arr 4 (List.map aA x4) 0 0 false)],df,.call ⟨true,[]⟩ (.ref 4 0 0 0 x4.length .virt) [(.arr 4 (List.map aA x4) 0 0 false)],.rows (List.map aA x4),.norm 0 ⟨[(2,[])],[⟨.tmp 2,[],none⟩],false,[],[]⟩] [⟨(aA5 k x4 _ e0)⟩,⟨(bA aA (l:=x4) (n:=x4.length) rfl)⟩,⟨(b8 aA (Nat.le_refl x4.length):0+x4.length≤(List.map aA x4).length)⟩,⟨(nF (nT rfl))⟩,⟨(dH x1 x2 x3 x4)⟩] (by kernel_rfl)
end Go.Ws

namespace Go.Ws
open Go.Proofs
set_option linter.unusedSimpArgs false
set_option linter.unusedVariables false
set_option maxRecDepth 1000000
set_option maxHeartbeats 4000000
noncomputable def X33_4 (x1:aL) (x2:Ty8) (x3:Ty2) (x4:Ty7):Ctx:=⟨Try.f33,[(.row [(.sl 2 (List.map aB x1)),(.sl 3 (List.map aE x2)),(.mp 1),(.ref 4 2 0 0 x4.length .virt)]),(.map (aI .i64 (fun y=>AV.agg (aF y)) x3) x3.length),(.arr 4 (List.map aA x4) 0 0 true)],false⟩
theorem oX (x1:aL) (x2:Ty8) (x3:Ty2) (x4:Ty7):Tri Try.prog 33 [(.hp 0 0)] [(.row [(.sl 2 (List.map aB x1)),(.sl 3 (List.map aE x2)),(.mp 1),(.ref 4 2 0 0 x4.length .virt)]),(.map (aI .i64 (fun y=>AV.agg (aF y)) x3) x3.length),(.arr 4 (List.map aA x4) 0 0 true)] (.bool (!false)) [(.row [(.sl 2 (List.map aB x1)),(.sl 3 (List.map aE x2)),(.mp 1),(.ref 4 2 0 0 x4.length .virt)]),(.map (aI .i64 (fun y=>AV.agg (aF y)) x3) x3.length),(.arr 4 (List.map aA x4) 0 0 true)]:=by
 obtain⟨r,h⟩:∃r,rU x1 x2 x3 x4=r:=⟨_,rfl⟩
 try rw[h]
 unfold rU at h
 obtain rfl:=h
 exact Tri.of (x:=(X33_4 x1 x2 x3 x4)) aH aNA [dt,dt,dt,dt,dt,dt,.norm 0 ⟨[(2,[])],[],false,[],[]⟩] [⟨(nT rfl)⟩,⟨(nT rfl)⟩,⟨(nT rfl)⟩,⟨(nT rfl)⟩,⟨(nT rfl)⟩,⟨(nT rfl)⟩] (by kernel_rfl)
end Go.Ws

namespace Go.Ws
open Go.Proofs
set_option linter.unusedSimpArgs false
set_option linter.unusedVariables false
set_option maxRecDepth 1000000
set_option maxHeartbeats 4000000
noncomputable def X25:Ctx:=⟨Try.f25,[],true⟩
noncomputable def L25_0:Code:=at_ Try.f25 [1,0,1,4,5]
def S25_0 (x1:aL) (x2:Int) (dQ:Int):St:=⟨mkT 24 [(0,(.sl 2 (List.map aB x1))),(1,(.int .u8 x2)),(5,(.int .i64 dQ))],[]⟩
def aIW:St:=⟨mkT 24 [],[]⟩
def O25_0 (x1:aL) (x2:Int) (y:(Sum (Unit) (Int))):GX:=match y with
 | .inl y=>.st (.exit 0) (aIW)
 | .inr y=>.fin (.int .i64 y) []
theorem sY (x1:aL) (x2:Int) (y:(Sum (Unit) (Int))):∀(k:Nat) (dQ:Int),g7 k x1 x2 dQ=some y→LT Try.prog X25 L25_0 (S25_0 x1 x2 dQ) (O25_0 x1 x2 y)
 | 0,dQ,h=>by cases h
 | k+1,dQ,h=>by
  rw[g7] at h
  by_cases cL0:ltI dQ (nI x1.length)=true
  · rw[if_pos cL0] at h
    by_cases cL1:inI dQ x1.length=true
    · rw[if_pos cL1] at h
      obtain⟨oN,eL2,h⟩:=bsm h
      by_cases cL3:eqI oN.1 x2=true
      · rw[if_pos cL3] at h
        obtain rfl:=osi h
        show LT _ _ _ _ (.fin (.int .i64 oN.2) [])
        exact LT.done aH (hs:=⟨[],[],false,[],[]⟩) (es:=none) [.n x1.length,dt,.n x1.length,.row [(.int .u8 oN.1)],dt,.n x1.length,.row [(.int .i64 oN.2)]] [⟨(aN (e:=aB) eL2 2 1 1 (by decide))⟩,⟨cL1⟩,⟨(aK aB x1)⟩,⟨cL3⟩,⟨(aN (e:=aB) eL2 2 0 1 (by decide))⟩,⟨cL1⟩,⟨(aK aB x1)⟩,⟨cL0⟩,⟨(aK aB x1)⟩] (by kernel_rfl) (fun s h=>by cases h)
      rw[if_neg cL3] at h;replace cL3:=eqf cL3
      exact LT.next aH (hs:=⟨[(0,[]),(1,[]),(5,[])],[],false,[],[]⟩) (es:=none) [.n x1.length,dt,.n x1.length,.row [(.int .u8 oN.1)],df] [⟨cL3⟩,⟨(aN (e:=aB) eL2 2 0 1 (by decide))⟩,⟨cL1⟩,⟨(aK aB x1)⟩,⟨cL0⟩,⟨(aK aB x1)⟩] (by kernel_rfl) (sY x1 x2 y k (aM .i64 dQ 1) h)
    rw[if_neg cL1] at h;replace cL1:=eqf cL1
    cases h
  rw[if_neg cL0] at h;replace cL0:=eqf cL0
  obtain rfl:=osi h
  show LT _ _ _ _ (.st (.exit 0) (aIW))
  exact LT.done aH (hs:=⟨[],[],false,[],[]⟩) (es:=(some ⟨[],[],false,[],[]⟩)) [.n x1.length,df] [⟨cL0⟩,⟨(aK aB x1)⟩] (by kernel_rfl) (fun s h=>by cases h)
theorem aBW (k:Nat) (x1:aL) (x2:Int) (r:Int) (h:tP k x1 x2=some r):Tri Try.prog 25 [(.sl 2 (List.map aB x1)),(.int .u8 x2)] [] (.int .i64 r) []:=by
 unfold tP at h
 obtain⟨x3,e0,h⟩:=bsm h
 cases x3 with
 | inl x4 =>
  simp only[Sum.elim_inl] at h
  obtain rfl:=osi h
  exact Tri.of (x:=X25) aH aNG [.norm 2 ⟨[(0,[]),(1,[]),(5,[])],[],false,[],[]⟩,.out (.st .normal (aIW))] [⟨(LT.block (sY x1 x2 _ k 0 e0))⟩] (by kernel_rfl)
 | inr x4 =>
  simp only[Sum.elim_inr] at h
  obtain rfl:=osi h
  exact Tri.of (x:=X25) aH aNG [.norm 2 ⟨[(0,[]),(1,[]),(5,[])],[],false,[],[]⟩,.out (.fin (.int .i64 x4) [])] [⟨(LT.blockFin (id:=0) (sY x1 x2 _ k 0 e0))⟩] (by kernel_rfl)
end Go.Ws

namespace Go.Ws
open Go.Proofs
set_option linter.unusedSimpArgs false
set_option linter.unusedVariables false
set_option maxRecDepth 1000000
set_option maxHeartbeats 4000000
noncomputable def X23 (x2:aL) (x3:Ty8) (x4:Ty2) (x5:Ty7):Ctx:=⟨Try.f23,[(.row [(.sl 2 (List.map aB x2)),(.sl 3 (List.map aE x3)),(.mp 1),(.ref 4 2 0 0 x5.length .virt)]),(.map (aI .i64 (fun y=>AV.agg (aF y)) x4) x4.length),(.arr 4 (List.map aA x5) 0 0 true)],false⟩
def A23_0 (x2:aL) (x3:Ty8) (x4:Ty2) (x5:Ty7):Ans:=.call ⟨true,[]⟩ (.bool (!false)) [(.row [(.sl 2 (List.map aB x2)),(.sl 3 (List.map aE x3)),(.mp 1),(.ref 4 2 0 0 x5.length .virt)]),(.map (aI .i64 (fun y=>AV.agg (aF y)) x4) x4.length),(.arr 4 (List.map aA x5) 0 0 true)]
def A23_1:Ans:=.norm 0 ⟨[(4,[]),(5,[])],[⟨.tmp 4,[],none⟩,⟨.cell 3 1,[],none⟩],false,[],[]⟩
theorem fT (k:Nat) (x1:Int) (x2:aL) (x3:Ty8) (x4:Ty2) (x5:Ty7) (r:Int × Bool × Int × aL × Bool) (h:mD k x1 x2 x3 x4 x5=some r):Tri Try.prog 23 [(.hp 0 0),(.int .i64 x1)] [(.row [(.sl 2 (List.map aB x2)),(.sl 3 (List.map aE x3)),(.mp 1),(.ref 4 2 0 0 x5.length .virt)]),(.map (aI .i64 (fun y=>AV.agg (aF y)) x4) x4.length),(.arr 4 (List.map aA x5) 0 0 true)] (.tup [(.agg [(.int .i64 r.1),(.ref 2 3 0 0 r.2.2.2.1.length .virt),(.bool r.2.1),(.int .i64 r.2.2.1)]),(.bool r.2.2.2.2)]) [(.row [(.sl 2 (List.map aB x2)),(.sl 3 (List.map aE x3)),(.mp 1),(.ref 4 2 0 0 x5.length .virt)]),(.map (aI .i64 (fun y=>AV.agg (aF y)) x4) x4.length),(.arr 4 (List.map aA x5) 0 0 true),(.arr 2 (List.map aB r.2.2.2.1) 0 0 false)]:=by
 unfold mD at h
 by_cases c0:lS x4 x1=true
 · rw[if_pos c0] at h
   obtain⟨x6,e1,h⟩:=bsm h
   obtain⟨x7,e2,h⟩:=bsm h
   obtain rfl:=osi h
   exact Tri.of (x:=(X23 x2 x3 x4 x5)) aH aOQ [(A23_0 x2 x3 x4 x5),df,.opt (some (.agg [(.int .i64 x6.1),(.sl 2 (List.map aB x6.2.1)),(.bool x6.2.2.1),(.int .i64 x6.2.2.2)])),.call ⟨true,[]⟩ (.ref 2 0 0 0 x6.2.1.length .virt) [(.arr 2 (List.map aB x6.2.1) 0 0 false)],A23_1] [⟨(hI k x6.2.1 _ e2)⟩,⟨(bU .i64 (fun y=>AV.agg (aF y)) e1)⟩,⟨(nF (nT rfl))⟩,⟨(oX x2 x3 x4 x5)⟩] (by kernel_rfl)
 rw[if_neg c0] at h;replace c0:=eqf c0
 obtain⟨x6,e1,h⟩:=bsm h
 obtain rfl:=osi h
 exact Tri.of (x:=(X23 x2 x3 x4 x5)) aH aOQ [(A23_0 x2 x3 x4 x5),df,.opt none,.call ⟨true,[]⟩ (.ref 2 0 0 0 0 .virt) [(.arr 2 (List.map aB []) 0 0 false)],A23_1] [⟨(hI k [] _ e1)⟩,⟨(f4 .i64 (fun y=>AV.agg (aF y)) c0)⟩,⟨(nF (nT rfl))⟩,⟨(oX x2 x3 x4 x5)⟩] (by kernel_rfl)
end Go.Ws

namespace Go.Ws
open Go.Proofs
set_option linter.unusedSimpArgs false
set_option linter.unusedVariables false
set_option maxRecDepth 1000000
set_option maxHeartbeats 4000000
noncomputable def X24 (x2:aL) (x3:Ty8) (x4:Ty2) (x5:Ty7):Ctx:=⟨Try.f24,[(.row [(.sl 2 (List.map aB x2)),(.sl 3 (List.map aE x3)),(.mp 1),(.ref 4 2 0 0 x5.length .virt)]),(.map (aI .i64 (fun y=>AV.agg (aF y)) x4) x4.length),(.arr 4 (List.map aA x5) 0 0 true)],false⟩
theorem vV (k:Nat) (x1:Int) (x2:aL) (x3:Ty8) (x4:Ty2) (x5:Ty7) (r:Int) (h:nL k x1 x2 x3 x4 x5=some r):Tri Try.prog 24 [(.hp 0 0),(.int .u8 x1)] [(.row [(.sl 2 (List.map aB x2)),(.sl 3 (List.map aE x3)),(.mp 1),(.ref 4 2 0 0 x5.length .virt)]),(.map (aI .i64 (fun y=>AV.agg (aF y)) x4) x4.length),(.arr 4 (List.map aA x5) 0 0 true)] (.int .i64 r) [(.row [(.sl 2 (List.map aB x2)),(.sl 3 (List.map aE x3)),(.mp 1),(.ref 4 2 0 0 x5.length .virt)]),(.map (aI .i64 (fun y=>AV.agg (aF y)) x4) x4.length),(.arr 4 (List.map aA x5) 0 0 true)]:=by
 unfold nL at h
 obtain⟨x6,e0,h⟩:=bsm h
 obtain rfl:=osi h
 exact Tri.of (x:=(X24 x2 x3 x4 x5)) aH facts24 [.call ⟨true,[]⟩ (.bool (!false)) [(.row [(.sl 2 (List.map aB x2)),(.sl 3 (List.map aE x3)),(.mp 1),(.ref 4 2 0 0 x5.length .virt)]),(.map (aI .i64 (fun y=>AV.agg (aF y)) x4) x4.length),(.arr 4 (List.map aA x5) 0 0 true)],df,.call ⟨true,[]⟩ (.int .i64 x6) [],.norm 0 ⟨[(4,[])],[],false,[],[]⟩] [⟨(aAG k x2 x1 _ e0)⟩,⟨(nF (nT rfl))⟩,⟨(oX x2 x3 x4 x5)⟩] (by kernel_rfl)
end Go.Ws

namespace Go.Ws
open Go.Proofs
set_option linter.unusedSimpArgs false
set_option linter.unusedVariables false
set_option maxRecDepth 1000000
set_option maxHeartbeats 4000000
noncomputable def X6:Ctx:=⟨Try.f6,[],true⟩
noncomputable def L6_2:Code:=at_ Try.f6 [1,1,1,1,1,1,1,1,1,1,1,0,1,4,5]
def S6_2 (x4:aL × Ty8 × Ty2 × Ty7) (x6:aL × Int) (x10:Bool) (dW:Int):St:=⟨mkT 113 [(3,(.hp 0 0)),(7,(.sl 2 (List.map aB x6.1))),(11,(.bool x10)),(99,(.int .u8 dW))],[(.row [(.sl 2 (List.map aB x4.1)),(.sl 3 (List.map aE x4.2.1)),(.mp 1),(.ref 4 2 0 0 x4.2.2.2.length .virt)]),(.map (aI .i64 (fun y=>AV.agg (aF y)) x4.2.2.1) x4.2.2.1.length),(.arr 4 (List.map aA x4.2.2.2) 0 0 true)]⟩
def aM2:St:=⟨mkT 113 [],[]⟩
def O6_2 (x4:aL × Ty8 × Ty2 × Ty7) (x6:aL × Int) (x10:Bool) (y:z7):GX:=match y with
 | .inl y=>.st (.exit 4) (aM2)
 | .inr y=>.fin (.bool y) []
noncomputable def L6_1:Code:=at_ Try.f6 [1,1,1,1,1,1,1,1,1,1,0,1,4,5]
def S6_1 (x4:aL × Ty8 × Ty2 × Ty7) (x6:aL × Int) (x8:aL) (fK:Bool) (dC:Int):St:=⟨mkT 113 [(3,(.hp 0 0)),(7,(.sl 2 (List.map aB x6.1))),(9,(.mp 1)),(11,(.bool fK)),(57,(.ref 4 2 0 0 x4.2.2.2.length .virt)),(58,(.int .i64 (nI x4.2.2.2.length))),(59,(.int .i64 dC))],[(.row [(.sl 2 (List.map aB x4.1)),(.sl 3 (List.map aE x4.2.1)),(.mp 3),(.ref 4 4 0 0 x4.2.2.2.length .virt)]),(.map (aI .i64 (fun y=>(aG y).headD aD) x8) x8.length),(.arr 4 (List.map aA x4.2.2.2) 0 0 true),(.map (aI .i64 (fun y=>AV.agg (aF y)) x4.2.2.1) x4.2.2.1.length),(.arr 4 (List.map aA x4.2.2.2) 0 0 true)]⟩
def aI7 (x4:aL × Ty8 × Ty2 × Ty7) (x6:aL × Int) (v6012_1:Bool):St:=⟨mkT 113 [(3,(.hp 0 0)),(7,(.sl 2 (List.map aB x6.1))),(11,(.bool v6012_1))],[(.row [(.sl 2 (List.map aB x4.1)),(.sl 3 (List.map aE x4.2.1)),(.mp 1),(.ref 4 2 0 0 x4.2.2.2.length .virt)]),(.map (aI .i64 (fun y=>AV.agg (aF y)) x4.2.2.1) x4.2.2.1.length),(.arr 4 (List.map aA x4.2.2.2) 0 0 true)]⟩
def O6_1 (x4:aL × Ty8 × Ty2 × Ty7) (x6:aL × Int) (x8:aL) (y:(Sum (Bool) (Bool))):GX:=match y with
 | .inl y=>.st (.exit 2) (aI7 x4 x6 y)
 | .inr y=>.fin (.bool y) []
noncomputable def L6_0:Code:=at_ Try.f6 [1,1,1,1,0,1,4,5]
def S6_0 (x1:Ty7) (eZ:Int) (gL:aL) (gM:Ty8) (gB:Ty2) (gC:Ty7):St:=⟨mkT 113 [(3,(.hp 0 0)),(29,(.sl 4 (List.map aA x1))),(30,(.int .i64 (nI x1.length))),(31,(.int .i64 eZ))],[(.row [(.sl 2 (List.map aB gL)),(.sl 3 (List.map aE gM)),(.mp 1),(.ref 4 2 0 0 gC.length .virt)]),(.map (aI .i64 (fun y=>AV.agg (aF y)) gB) gB.length),(.arr 4 (List.map aA gC) 0 0 false)]⟩
def aL9 (v6002_1:aL) (v6002_2:Ty8) (aO1:Ty2) (aO2:Ty7):St:=⟨mkT 113 [(3,(.hp 0 0))],[(.row [(.sl 2 (List.map aB v6002_1)),(.sl 3 (List.map aE v6002_2)),(.mp 1),(.ref 4 2 0 0 aO2.length .virt)]),(.map (aI .i64 (fun y=>AV.agg (aF y)) aO1) aO1.length),(.arr 4 (List.map aA aO2) 0 0 false)]⟩
def O6_0 (x1:Ty7) (y:(aL × Ty8 × Ty2 × Ty7)):GX:=.st (.exit 0) (aL9 y.1 y.2.1 y.2.2.1 y.2.2.2)
def A6_0 (x4:aL × Ty8 × Ty2 × Ty7) (tO:Int):Ans:=.call ⟨true,[]⟩ (.int .i64 tO) [(.row [(.sl 2 (List.map aB x4.1)),(.sl 3 (List.map aE x4.2.1)),(.mp 1),(.ref 4 2 0 0 x4.2.2.2.length .virt)]),(.map (aI .i64 (fun y=>AV.agg (aF y)) x4.2.2.1) x4.2.2.1.length),(.arr 4 (List.map aA x4.2.2.2) 0 0 true)]
def A6_1 (eY:Int × Int × Int × Int):Ans:=.row [(.int .i64 eY.1),(.int .i64 eY.2.1),(.int .u8 eY.2.2.1),(.int .i64 eY.2.2.2)]
def A6_2 (x4:aL × Ty8 × Ty2 × Ty7) (dK:Int × Bool × Int × aL × Bool):Ans:=.call ⟨true,[]⟩ (.tup [(.agg [(.int .i64 dK.1),(.ref 2 3 0 0 dK.2.2.2.1.length .virt),(.bool dK.2.1),(.int .i64 dK.2.2.1)]),(.bool dK.2.2.2.2)]) [(.row [(.sl 2 (List.map aB x4.1)),(.sl 3 (List.map aE x4.2.1)),(.mp 1),(.ref 4 2 0 0 x4.2.2.2.length .virt)]),(.map (aI .i64 (fun y=>AV.agg (aF y)) x4.2.2.1) x4.2.2.1.length),(.arr 4 (List.map aA x4.2.2.2) 0 0 true),(.arr 2 (List.map aB dK.2.2.2.1) 0 0 false)]
def A6_3:Ans:=.call ⟨true,[]⟩ (.hp 0 0) [(.row [.nils,.nils,(.mp 1),.nils]),(.map (aI .i64 (fun y=>AV.agg (aF y)) ([]:Ty2)) ([]:Ty2).length)]
def A6_4:Ans:=.norm 2 ⟨[(3,[]),(29,[]),(30,[]),(31,[])],[⟨.tmp 3,[(0,2),(1,3)],none⟩,⟨.cell 0 2,[],none⟩,⟨.cell 0 3,[],some 4⟩],false,[],[]⟩
def A6_5 (x4:aL × Ty8 × Ty2 × Ty7):Ans:=.out (.st .normal (aL9 x4.1 x4.2.1 x4.2.2.1 x4.2.2.2))
def A6_6 (x4:aL × Ty8 × Ty2 × Ty7):Ans:=.call ⟨true,[]⟩ (.ref 4 3 0 0 x4.2.2.2.length .virt) [(.row [(.sl 2 (List.map aB x4.1)),(.sl 3 (List.map aE x4.2.1)),(.mp 1),(.ref 4 2 0 0 x4.2.2.2.length .virt)]),(.map (aI .i64 (fun y=>AV.agg (aF y)) x4.2.2.1) x4.2.2.1.length),(.arr 4 (List.map aA x4.2.2.2) 0 0 true),(.arr 4 (List.map aA x4.2.2.2) 0 0 false)]
def A6_7 (x6:aL × Int):Ans:=.call ⟨true,[]⟩ (.tup [(.sl 2 (List.map aB x6.1)),(.int .i64 x6.2)]) []
def aEK (x4:aL × Ty8 × Ty2 × Ty7):Ans:=.rows (List.map aA x4.2.2.2)
def A6_9 (x8:aL):Ans:=.call ⟨true,[]⟩ (.tup [(.mp 0),(.int .i64 0)]) [(.map (aI .i64 (fun y=>(aG y).headD aD) x8) x8.length)]
def A6_10:Ans:=.norm 8 ⟨[(3,[]),(7,[]),(9,[]),(11,[]),(57,[]),(58,[]),(59,[])],[⟨.tmp 3,[],none⟩,⟨.tmp 9,[],none⟩,⟨.tmp 57,[],none⟩,⟨.cell 0 2,[],none⟩,⟨.cell 0 3,[],none⟩],false,[],[]⟩
def A6_11:Ans:=.norm 14 ⟨[(3,[]),(7,[]),(11,[]),(99,[])],[⟨.tmp 3,[],none⟩,⟨.cell 0 2,[],none⟩,⟨.cell 0 3,[],none⟩],false,[],[]⟩
theorem kW (x4:aL × Ty8 × Ty2 × Ty7) (x6:aL × Int) (x10:Bool) (y:z7):∀(k:Nat) (dW:Int),cR k x4 x6 x10 dW=some y→LT Try.prog X6 L6_2 (S6_2 x4 x6 x10 dW) (O6_2 x4 x6 x10 y)
 | 0,dW,h=>by cases h
 | k+1,dW,h=>by
  rw[cR] at h
  by_cases cL0:ltI dW 64=true
  · rw[if_pos cL0] at h
    by_cases cL1:x10=true
    · rw[if_pos cL1] at h
      obtain⟨tO,eL2,h⟩:=bsm h
      obtain⟨xK,eL3,h⟩:=bsm h
      by_cases cL4:eqI tO xK=true
      · rw[if_pos cL4] at h
        exact LT.next aH (hs:=⟨[(3,[]),(7,[]),(11,[]),(99,[])],[⟨.tmp 3,[],none⟩,⟨.cell 0 2,[],none⟩,⟨.cell 0 3,[],none⟩],false,[],[]⟩) (es:=none) [dt,dt,dt,dt,(A6_0 x4 tO),dt,dt,dt,.call ⟨true,[]⟩ (.int .i64 xK) [],dt,dt,df] [⟨(nF cL4)⟩,⟨cL1⟩,⟨cL1⟩,⟨(aBW k x6.1 dW _ eL3)⟩,⟨cL1⟩,⟨cL1⟩,⟨cL1⟩,⟨(vV k dW x4.1 x4.2.1 x4.2.2.1 x4.2.2.2 _ eL2)⟩,⟨cL1⟩,⟨cL1⟩,⟨cL1⟩,⟨cL0⟩] (by kernel_rfl) (kW x4 x6 x10 y k (aM .u8 dW 1) h)
      rw[if_neg cL4] at h;replace cL4:=eqf cL4
      obtain rfl:=osi h
      show LT _ _ _ _ (.fin (.bool false) [])
      exact LT.done aH (hs:=⟨[],[],false,[],[]⟩) (es:=none) [dt,dt,dt,dt,(A6_0 x4 tO),dt,dt,dt,.call ⟨true,[]⟩ (.int .i64 xK) [],dt,dt,dt] [⟨(nT cL4)⟩,⟨cL1⟩,⟨cL1⟩,⟨(aBW k x6.1 dW _ eL3)⟩,⟨cL1⟩,⟨cL1⟩,⟨cL1⟩,⟨(vV k dW x4.1 x4.2.1 x4.2.2.1 x4.2.2.2 _ eL2)⟩,⟨cL1⟩,⟨cL1⟩,⟨cL1⟩,⟨cL0⟩] (by kernel_rfl) (fun s h=>by cases h)
    rw[if_neg cL1] at h;replace cL1:=eqf cL1
    exact LT.next aH (hs:=⟨[(3,[]),(7,[]),(11,[]),(99,[])],[⟨.tmp 3,[],none⟩,⟨.cell 0 2,[],none⟩,⟨.cell 0 3,[],none⟩],false,[],[]⟩) (es:=none) [dt,df,df,df,df,df,df,df,df,df] [⟨rF⟩,⟨cL1⟩,⟨cL1⟩,⟨cL1⟩,⟨cL1⟩,⟨cL1⟩,⟨cL1⟩,⟨cL1⟩,⟨cL1⟩,⟨cL0⟩] (by kernel_rfl) (kW x4 x6 x10 y k (aM .u8 dW 1) h)
  rw[if_neg cL0] at h;replace cL0:=eqf cL0
  obtain rfl:=osi h
  show LT _ _ _ _ (.st (.exit 4) (aM2))
  exact LT.done aH (hs:=⟨[],[],false,[],[]⟩) (es:=(some ⟨[],[],false,[],[]⟩)) [df] [⟨cL0⟩] (by kernel_rfl) (fun s h=>by cases h)
theorem fP (x4:aL × Ty8 × Ty2 × Ty7) (x6:aL × Int) (x8:aL) (y:(Sum (Bool) (Bool))):∀(k:Nat) (fK:Bool) (dC:Int),b7 k x4 x6 x8 fK dC=some y→LT Try.prog X6 L6_1 (S6_1 x4 x6 x8 fK dC) (O6_1 x4 x6 x8 y)
 | 0,fK,dC,h=>by cases h
 | k+1,fK,dC,h=>by
  rw[b7] at h
  by_cases cL0:ltI dC (nI x4.2.2.2.length)=true
  · rw[if_pos cL0] at h
    by_cases cL1:inI dC x4.2.2.2.length=true
    · rw[if_pos cL1] at h
      obtain⟨eY,eL2,h⟩:=bsm h
      obtain⟨dK,eL3,h⟩:=bsm h
      by_cases cL4:dK.2.2.2.2=true
      · rw[if_pos cL4] at h
        by_cases cL5:lS x8 eY.2.1=true
        · rw[if_pos cL5] at h
          obtain⟨mX,eL6,h⟩:=bsm h
          by_cases cL7:eqB (eqI dK.1 3) (!eqI mX 0)=true
          · rw[if_pos cL7] at h
            by_cases cL8:eqI dK.2.2.1 mX=true
            · rw[if_pos cL8] at h
              by_cases cL9:fK=true
              · rw[if_pos cL9] at h
                exact LT.next aH (hs:=⟨[(3,[]),(7,[]),(9,[]),(11,[]),(57,[]),(58,[]),(59,[])],[⟨.tmp 3,[],none⟩,⟨.tmp 9,[],none⟩,⟨.tmp 57,[],none⟩,⟨.cell 0 2,[],none⟩,⟨.cell 0 3,[],none⟩],false,[],[]⟩) (es:=none) [dt,(A6_1 eY),(A6_2 x4 dK),df,df,df,df,df,df,df,.opt (some (.int .i64 mX)),df,df,df,df,df,df,df,df,df,.opt (some (.int .i64 mX)),df,df,df,dt,dt,dt,dt] [⟨cL9⟩,⟨cL9⟩,⟨cL9⟩,⟨cL9⟩,⟨(nF cL8)⟩,⟨(nF cL7)⟩,⟨(nF cL7)⟩,⟨(bU .i64 (fun y=>(aG y).headD aD) eL6)⟩,⟨(nF cL7)⟩,⟨(nF cL7)⟩,⟨(nF cL7)⟩,⟨(nF cL7)⟩,⟨(nF cL7)⟩,⟨(nF cL7)⟩,⟨(nF cL4)⟩,⟨(nF cL4)⟩,⟨(nF cL4)⟩,⟨(bU .i64 (fun y=>(aG y).headD aD) eL6)⟩,⟨(nF cL4)⟩,⟨(nF cL4)⟩,⟨(nF cL4)⟩,⟨(nF cL4)⟩,⟨(nF cL4)⟩,⟨(nF cL4)⟩,⟨(nF cL4)⟩,⟨(fT k eY.2.1 x4.1 x4.2.1 x4.2.2.1 x4.2.2.2 _ eL3)⟩,⟨(aN (e:=aA) eL2 4 0 4 (by decide))⟩,⟨cL1⟩,⟨cL0⟩] (by kernel_rfl) (fP x4 x6 x8 y k (eqI dK.1 3) (aM .i64 dC 1) h)
              rw[if_neg cL9] at h;replace cL9:=eqf cL9
              exact LT.next aH (hs:=⟨[(3,[]),(7,[]),(9,[]),(11,[]),(57,[]),(58,[]),(59,[])],[⟨.tmp 3,[],none⟩,⟨.tmp 9,[],none⟩,⟨.tmp 57,[],none⟩,⟨.cell 0 2,[],none⟩,⟨.cell 0 3,[],none⟩],false,[],[]⟩) (es:=none) [dt,(A6_1 eY),(A6_2 x4 dK),df,df,df,df,df,df,df,.opt (some (.int .i64 mX)),df,df,df,df,df,df,df,df,df,.opt (some (.int .i64 mX)),df,df,df,df,df,df,df] [⟨cL9⟩,⟨cL9⟩,⟨cL9⟩,⟨cL9⟩,⟨(nF cL8)⟩,⟨(nF cL7)⟩,⟨(nF cL7)⟩,⟨(bU .i64 (fun y=>(aG y).headD aD) eL6)⟩,⟨(nF cL7)⟩,⟨(nF cL7)⟩,⟨(nF cL7)⟩,⟨(nF cL7)⟩,⟨(nF cL7)⟩,⟨(nF cL7)⟩,⟨(nF cL4)⟩,⟨(nF cL4)⟩,⟨(nF cL4)⟩,⟨(bU .i64 (fun y=>(aG y).headD aD) eL6)⟩,⟨(nF cL4)⟩,⟨(nF cL4)⟩,⟨(nF cL4)⟩,⟨(nF cL4)⟩,⟨(nF cL4)⟩,⟨(nF cL4)⟩,⟨(nF cL4)⟩,⟨(fT k eY.2.1 x4.1 x4.2.1 x4.2.2.1 x4.2.2.2 _ eL3)⟩,⟨(aN (e:=aA) eL2 4 0 4 (by decide))⟩,⟨cL1⟩,⟨cL0⟩] (by kernel_rfl) (fP x4 x6 x8 y k false (aM .i64 dC 1) h)
            rw[if_neg cL8] at h;replace cL8:=eqf cL8
            obtain rfl:=osi h
            show LT _ _ _ _ (.fin (.bool false) [])
            exact LT.done aH (hs:=⟨[],[],false,[],[]⟩) (es:=none) [dt,(A6_1 eY),(A6_2 x4 dK),df,df,df,df,df,df,df,.opt (some (.int .i64 mX)),df,df,df,df,df,df,df,df,df,.opt (some (.int .i64 mX)),df,df,dt] [⟨(nT cL8)⟩,⟨(nF cL7)⟩,⟨(nF cL7)⟩,⟨(bU .i64 (fun y=>(aG y).headD aD) eL6)⟩,⟨(nF cL7)⟩,⟨(nF cL7)⟩,⟨(nF cL7)⟩,⟨(nF cL7)⟩,⟨(nF cL7)⟩,⟨(nF cL7)⟩,⟨(nF cL4)⟩,⟨(nF cL4)⟩,⟨(nF cL4)⟩,⟨(bU .i64 (fun y=>(aG y).headD aD) eL6)⟩,⟨(nF cL4)⟩,⟨(nF cL4)⟩,⟨(nF cL4)⟩,⟨(nF cL4)⟩,⟨(nF cL4)⟩,⟨(nF cL4)⟩,⟨(nF cL4)⟩,⟨(fT k eY.2.1 x4.1 x4.2.1 x4.2.2.1 x4.2.2.2 _ eL3)⟩,⟨(aN (e:=aA) eL2 4 0 4 (by decide))⟩,⟨cL1⟩,⟨cL0⟩] (by kernel_rfl) (fun s h=>by cases h)
          rw[if_neg cL7] at h;replace cL7:=eqf cL7
          obtain rfl:=osi h
          show LT _ _ _ _ (.fin (.bool false) [])
          exact LT.done aH (hs:=⟨[],[],false,[],[]⟩) (es:=none) [dt,(A6_1 eY),(A6_2 x4 dK),df,df,df,df,df,df,df,.opt (some (.int .i64 mX)),df,df,df,dt,dt,dt,dt,dt,dt,dt,dt,dt] [⟨rT⟩,⟨(nT cL7)⟩,⟨(nT cL7)⟩,⟨(nT cL7)⟩,⟨(nT cL7)⟩,⟨(nT cL7)⟩,⟨(nT cL7)⟩,⟨(nT cL7)⟩,⟨(nT cL7)⟩,⟨(nF cL4)⟩,⟨(nF cL4)⟩,⟨(nF cL4)⟩,⟨(bU .i64 (fun y=>(aG y).headD aD) eL6)⟩,⟨(nF cL4)⟩,⟨(nF cL4)⟩,⟨(nF cL4)⟩,⟨(nF cL4)⟩,⟨(nF cL4)⟩,⟨(nF cL4)⟩,⟨(nF cL4)⟩,⟨(fT k eY.2.1 x4.1 x4.2.1 x4.2.2.1 x4.2.2.2 _ eL3)⟩,⟨(aN (e:=aA) eL2 4 0 4 (by decide))⟩,⟨cL1⟩,⟨cL0⟩] (by kernel_rfl) (fun s h=>by cases h)
        rw[if_neg cL5] at h;replace cL5:=eqf cL5
        by_cases cL6:eqB (eqI dK.1 3) (!eqI 0 0)=true
        · rw[if_pos cL6] at h
          by_cases cL7:eqI dK.2.2.1 0=true
          · rw[if_pos cL7] at h
            by_cases cL8:fK=true
            · rw[if_pos cL8] at h
              exact LT.next aH (hs:=⟨[(3,[]),(7,[]),(9,[]),(11,[]),(57,[]),(58,[]),(59,[])],[⟨.tmp 3,[],none⟩,⟨.tmp 9,[],none⟩,⟨.tmp 57,[],none⟩,⟨.cell 0 2,[],none⟩,⟨.cell 0 3,[],none⟩],false,[],[]⟩) (es:=none) [dt,(A6_1 eY),(A6_2 x4 dK),df,df,df,df,df,df,df,.opt none,df,df,df,df,df,df,df,df,df,.opt none,df,df,df,dt,dt,dt,dt] [⟨cL8⟩,⟨cL8⟩,⟨cL8⟩,⟨cL8⟩,⟨(nF cL7)⟩,⟨(nF cL6)⟩,⟨(nF cL6)⟩,⟨(f4 .i64 (fun y=>(aG y).headD aD) cL5)⟩,⟨(nF cL6)⟩,⟨(nF cL6)⟩,⟨(nF cL6)⟩,⟨(nF cL6)⟩,⟨(nF cL6)⟩,⟨(nF cL6)⟩,⟨(nF cL4)⟩,⟨(nF cL4)⟩,⟨(nF cL4)⟩,⟨(f4 .i64 (fun y=>(aG y).headD aD) cL5)⟩,⟨(nF cL4)⟩,⟨(nF cL4)⟩,⟨(nF cL4)⟩,⟨(nF cL4)⟩,⟨(nF cL4)⟩,⟨(nF cL4)⟩,⟨(nF cL4)⟩,⟨(fT k eY.2.1 x4.1 x4.2.1 x4.2.2.1 x4.2.2.2 _ eL3)⟩,⟨(aN (e:=aA) eL2 4 0 4 (by decide))⟩,⟨cL1⟩,⟨cL0⟩] (by kernel_rfl) (fP x4 x6 x8 y k (eqI dK.1 3) (aM .i64 dC 1) h)
            rw[if_neg cL8] at h;replace cL8:=eqf cL8
            exact LT.next aH (hs:=⟨[(3,[]),(7,[]),(9,[]),(11,[]),(57,[]),(58,[]),(59,[])],[⟨.tmp 3,[],none⟩,⟨.tmp 9,[],none⟩,⟨.tmp 57,[],none⟩,⟨.cell 0 2,[],none⟩,⟨.cell 0 3,[],none⟩],false,[],[]⟩) (es:=none) [dt,(A6_1 eY),(A6_2 x4 dK),df,df,df,df,df,df,df,.opt none,df,df,df,df,df,df,df,df,df,.opt none,df,df,df,df,df,df,df] [⟨cL8⟩,⟨cL8⟩,⟨cL8⟩,⟨cL8⟩,⟨(nF cL7)⟩,⟨(nF cL6)⟩,⟨(nF cL6)⟩,⟨(f4 .i64 (fun y=>(aG y).headD aD) cL5)⟩,⟨(nF cL6)⟩,⟨(nF cL6)⟩,⟨(nF cL6)⟩,⟨(nF cL6)⟩,⟨(nF cL6)⟩,⟨(nF cL6)⟩,⟨(nF cL4)⟩,⟨(nF cL4)⟩,⟨(nF cL4)⟩,⟨(f4 .i64 (fun y=>(aG y).headD aD) cL5)⟩,⟨(nF cL4)⟩,⟨(nF cL4)⟩,⟨(nF cL4)⟩,⟨(nF cL4)⟩,⟨(nF cL4)⟩,⟨(nF cL4)⟩,⟨(nF cL4)⟩,⟨(fT k eY.2.1 x4.1 x4.2.1 x4.2.2.1 x4.2.2.2 _ eL3)⟩,⟨(aN (e:=aA) eL2 4 0 4 (by decide))⟩,⟨cL1⟩,⟨cL0⟩] (by kernel_rfl) (fP x4 x6 x8 y k false (aM .i64 dC 1) h)
          rw[if_neg cL7] at h;replace cL7:=eqf cL7
          obtain rfl:=osi h
          show LT _ _ _ _ (.fin (.bool false) [])
          exact LT.done aH (hs:=⟨[],[],false,[],[]⟩) (es:=none) [dt,(A6_1 eY),(A6_2 x4 dK),df,df,df,df,df,df,df,.opt none,df,df,df,df,df,df,df,df,df,.opt none,df,df,dt] [⟨(nT cL7)⟩,⟨(nF cL6)⟩,⟨(nF cL6)⟩,⟨(f4 .i64 (fun y=>(aG y).headD aD) cL5)⟩,⟨(nF cL6)⟩,⟨(nF cL6)⟩,⟨(nF cL6)⟩,⟨(nF cL6)⟩,⟨(nF cL6)⟩,⟨(nF cL6)⟩,⟨(nF cL4)⟩,⟨(nF cL4)⟩,⟨(nF cL4)⟩,⟨(f4 .i64 (fun y=>(aG y).headD aD) cL5)⟩,⟨(nF cL4)⟩,⟨(nF cL4)⟩,⟨(nF cL4)⟩,⟨(nF cL4)⟩,⟨(nF cL4)⟩,⟨(nF cL4)⟩,⟨(nF cL4)⟩,⟨(fT k eY.2.1 x4.1 x4.2.1 x4.2.2.1 x4.2.2.2 _ eL3)⟩,⟨(aN (e:=aA) eL2 4 0 4 (by decide))⟩,⟨cL1⟩,⟨cL0⟩] (by kernel_rfl) (fun s h=>by cases h)
        rw[if_neg cL6] at h;replace cL6:=eqf cL6
        obtain rfl:=osi h
        show LT _ _ _ _ (.fin (.bool false) [])
        exact LT.done aH (hs:=⟨[],[],false,[],[]⟩) (es:=none) [dt,(A6_1 eY),(A6_2 x4 dK),df,df,df,df,df,df,df,.opt none,df,df,df,dt,dt,dt,dt,dt,dt,dt,dt,dt] [⟨rT⟩,⟨(nT cL6)⟩,⟨(nT cL6)⟩,⟨(nT cL6)⟩,⟨(nT cL6)⟩,⟨(nT cL6)⟩,⟨(nT cL6)⟩,⟨(nT cL6)⟩,⟨(nT cL6)⟩,⟨(nF cL4)⟩,⟨(nF cL4)⟩,⟨(nF cL4)⟩,⟨(f4 .i64 (fun y=>(aG y).headD aD) cL5)⟩,⟨(nF cL4)⟩,⟨(nF cL4)⟩,⟨(nF cL4)⟩,⟨(nF cL4)⟩,⟨(nF cL4)⟩,⟨(nF cL4)⟩,⟨(nF cL4)⟩,⟨(fT k eY.2.1 x4.1 x4.2.1 x4.2.2.1 x4.2.2.2 _ eL3)⟩,⟨(aN (e:=aA) eL2 4 0 4 (by decide))⟩,⟨cL1⟩,⟨cL0⟩] (by kernel_rfl) (fun s h=>by cases h)
      rw[if_neg cL4] at h;replace cL4:=eqf cL4
      obtain rfl:=osi h
      show LT _ _ _ _ (.fin (.bool false) [])
      exact LT.done aH (hs:=⟨[],[],false,[],[]⟩) (es:=none) [dt,(A6_1 eY),(A6_2 x4 dK),dt,dt,dt,dt,dt,dt,dt,dt,dt,dt,dt,dt,dt,dt,dt,dt,dt,dt,dt] [⟨rT⟩,⟨rT⟩,⟨rT⟩,⟨rT⟩,⟨rT⟩,⟨rT⟩,⟨rT⟩,⟨rT⟩,⟨rT⟩,⟨(nT cL4)⟩,⟨(nT cL4)⟩,⟨(nT cL4)⟩,⟨(nT cL4)⟩,⟨(nT cL4)⟩,⟨(nT cL4)⟩,⟨(nT cL4)⟩,⟨(nT cL4)⟩,⟨(nT cL4)⟩,⟨(nT cL4)⟩,⟨(fT k eY.2.1 x4.1 x4.2.1 x4.2.2.1 x4.2.2.2 _ eL3)⟩,⟨(aN (e:=aA) eL2 4 0 4 (by decide))⟩,⟨cL1⟩,⟨cL0⟩] (by kernel_rfl) (fun s h=>by cases h)
    rw[if_neg cL1] at h;replace cL1:=eqf cL1
    cases h
  rw[if_neg cL0] at h;replace cL0:=eqf cL0
  obtain rfl:=osi h
  show LT _ _ _ _ (.st (.exit 2) (aI7 x4 x6 fK))
  exact LT.done aH (hs:=⟨[],[],false,[],[]⟩) (es:=(some ⟨[(3,[]),(7,[]),(11,[])],[⟨.tmp 3,[],none⟩,⟨.cell 0 2,[],none⟩,⟨.cell 0 3,[],none⟩],false,[],[]⟩)) [df] [⟨cL0⟩] (by kernel_rfl) (fun s h=>by cases h)
theorem fO (x1:Ty7) (y:(aL × Ty8 × Ty2 × Ty7)):∀(k:Nat) (eZ:Int) (gL:aL) (gM:Ty8) (gB:Ty2) (gC:Ty7),dD k x1 eZ gL gM gB gC=some y→LT Try.prog X6 L6_0 (S6_0 x1 eZ gL gM gB gC) (O6_0 x1 y)
 | 0,eZ,gL,gM,gB,gC,h=>by cases h
 | k+1,eZ,gL,gM,gB,gC,h=>by
  rw[dD] at h
  by_cases cL0:ltI eZ (nI x1.length)=true
  · rw[if_pos cL0] at h
    by_cases cL1:inI eZ x1.length=true
    · rw[if_pos cL1] at h
      obtain⟨kX,eL2,h⟩:=bsm h
      obtain⟨fZ,eL3,h⟩:=bsm h
      exact LT.next aH (hs:=⟨[(3,[]),(29,[]),(30,[]),(31,[])],[⟨.tmp 3,[],none⟩,⟨.cell 0 2,[],none⟩,⟨.cell 0 3,[],some 4⟩],false,[],[]⟩) (es:=none) [dt,.n x1.length,.row [(.int .i64 kX.1),(.int .i64 kX.2.1),(.int .u8 kX.2.2.1),(.int .i64 kX.2.2.2)],.call ⟨true,[]⟩ (.tup [(.int .i64 fZ.2.1),(.int .i64 fZ.1)]) [(.row [(.sl 2 (List.map aB fZ.2.2.1)),(.sl 3 (List.map aE fZ.2.2.2.1)),(.mp 1),(.ref 4 2 1 0 fZ.2.2.2.2.2.length .virt)]),(.map (aI .i64 (fun y=>AV.agg (aF y)) fZ.2.2.2.2.1) fZ.2.2.2.2.1.length),(.arr 4 (List.map aA fZ.2.2.2.2.2) 1 1 false)],.n fZ.2.2.2.2.2.length,.rows (List.map aA fZ.2.2.2.2.2)] [⟨(dZ aA (l:=fZ.2.2.2.2.2) (n:=fZ.2.2.2.2.2.length) rfl)⟩,⟨(rfl:fZ.2.2.2.2.2.length=fZ.2.2.2.2.2.length)⟩,⟨(zle fZ.2.2.2.2.2.length)⟩,⟨(qQ k kX.1 kX.2.1 kX.2.2.1 kX.2.2.2 gL gM gB gC _ eL3)⟩,⟨(aN (e:=aA) eL2 4 0 4 (by decide))⟩,⟨cL1⟩,⟨(aK aA x1)⟩,⟨cL0⟩] (by kernel_rfl) (fO x1 y k (aM .i64 eZ 1) fZ.2.2.1 fZ.2.2.2.1 fZ.2.2.2.2.1 fZ.2.2.2.2.2 h)
    rw[if_neg cL1] at h;replace cL1:=eqf cL1
    cases h
  rw[if_neg cL0] at h;replace cL0:=eqf cL0
  obtain rfl:=osi h
  show LT _ _ _ _ (.st (.exit 0) (aL9 gL gM gB gC))
  exact LT.done aH (hs:=⟨[],[],false,[],[]⟩) (es:=(some ⟨[(3,[])],[⟨.tmp 3,[],none⟩,⟨.cell 0 2,[],none⟩,⟨.cell 0 3,[],none⟩],false,[],[]⟩)) [df] [⟨cL0⟩] (by kernel_rfl) (fun s h=>by cases h)
theorem aA3 (k:Nat) (x1:Ty7) (r:Bool) (h:nG k x1=some r):Tri Try.prog 6 [(.sl 4 (List.map aA x1))] [] (.bool r) []:=by
 unfold nG at h
 obtain⟨x2,e0,h⟩:=bsm h
 by_cases c1:x2=true
 · rw[if_pos c1] at h
   by_cases c2:ltI 100 (nI x1.length)=true
   · rw[if_pos c2] at h
     obtain rfl:=osi h
     exact Tri.of (x:=X6) aH zA [.call ⟨true,[]⟩ (.bool x2) [],df,A6_3,df,df,.n x1.length,df,df,dt] [⟨c2⟩,⟨rF⟩,⟨rF⟩,⟨(aK aA x1)⟩,⟨rF⟩,⟨rF⟩,⟨(lB)⟩,⟨(nF c1)⟩,⟨(jF k _ e0)⟩] (by kernel_rfl)
   rw[if_neg c2] at h;replace c2:=eqf c2
   obtain⟨x4,e3,h⟩:=bsm h
   obtain⟨x5,e5,h⟩:=bsm h
   obtain⟨x6,e6,h⟩:=bsm h
   obtain⟨x7,e7,h⟩:=bsm h
   cases x7 with
   | inl x8 =>
    simp only[Sum.elim_inl] at h
    by_cases c9:eqI x6.2 0=true
    · rw[if_pos c9] at h
      obtain⟨x9,e10,h⟩:=bsm h
      cases x9 with
      | inl x10 =>
       simp only[Sum.elim_inl] at h
       obtain⟨x11,e12,h⟩:=bsm h
       cases x11 with
       | inl x12 =>
        simp only[Sum.elim_inl] at h
        obtain rfl:=osi h
        exact Tri.of (x:=X6) aH zA [.call ⟨true,[]⟩ (.bool x2) [],df,A6_3,df,df,.n x1.length,df,df,df,.n x1.length,A6_4,.n 0,.rows (List.map aA []),(A6_5 x4),(A6_6 x4),(A6_7 x6),(aEK x4),(A6_9 x8),(aEK x4),df,df,df,df,A6_10,.out (.st .normal (aI7 x4 x6 x10)),A6_11,.out (.st .normal (aM2))] [⟨(LT.block (kW x4 x6 x10 _ k 0 e12))⟩,⟨(LT.block (fP x4 x6 x8 _ k true 0 e10))⟩,⟨(nF (rfl:eqI 0 0=true))⟩,⟨(nF c9)⟩,⟨(nF c9)⟩,⟨(nF c9)⟩,⟨(aP k x4.2.2.2 (.inl x8) e7)⟩,⟨(bA aA (l:=x4.2.2.2) (n:=x4.2.2.2.length) rfl)⟩,⟨(b8 aA (Nat.le_refl x4.2.2.2.length):0+x4.2.2.2.length≤(List.map aA x4.2.2.2).length)⟩,⟨(bF k x4.2.2.2 _ e6)⟩,⟨(bA aA (l:=x4.2.2.2) (n:=x4.2.2.2.length) rfl)⟩,⟨(b8 aA (Nat.le_refl x4.2.2.2.length):0+x4.2.2.2.length≤(List.map aA x4.2.2.2).length)⟩,⟨(kF k x4.1 x4.2.1 x4.2.2.1 x4.2.2.2 _ e5)⟩,⟨(LT.block (fO x1 _ k 0 [] [] ([]:Ty2) [] e3))⟩,⟨(dZ aA (l:=[]) (n:=0) rfl)⟩,⟨(rfl:0=0)⟩,⟨(zle 0)⟩,⟨(aK aA x1)⟩,⟨c2⟩,⟨rF⟩,⟨rF⟩,⟨(aK aA x1)⟩,⟨rF⟩,⟨rF⟩,⟨(lB)⟩,⟨(nF c1)⟩,⟨(jF k _ e0)⟩] (by kernel_rfl)
       | inr x12 =>
        simp only[Sum.elim_inr] at h
        obtain rfl:=osi h
        exact Tri.of (x:=X6) aH zA [.call ⟨true,[]⟩ (.bool x2) [],df,A6_3,df,df,.n x1.length,df,df,df,.n x1.length,A6_4,.n 0,.rows (List.map aA []),(A6_5 x4),(A6_6 x4),(A6_7 x6),(aEK x4),(A6_9 x8),(aEK x4),df,df,df,df,A6_10,.out (.st .normal (aI7 x4 x6 x10)),A6_11,.out (.fin (.bool x12) [])] [⟨(LT.blockFin (id:=4) (kW x4 x6 x10 _ k 0 e12))⟩,⟨(LT.block (fP x4 x6 x8 _ k true 0 e10))⟩,⟨(nF (rfl:eqI 0 0=true))⟩,⟨(nF c9)⟩,⟨(nF c9)⟩,⟨(nF c9)⟩,⟨(aP k x4.2.2.2 (.inl x8) e7)⟩,⟨(bA aA (l:=x4.2.2.2) (n:=x4.2.2.2.length) rfl)⟩,⟨(b8 aA (Nat.le_refl x4.2.2.2.length):0+x4.2.2.2.length≤(List.map aA x4.2.2.2).length)⟩,⟨(bF k x4.2.2.2 _ e6)⟩,⟨(bA aA (l:=x4.2.2.2) (n:=x4.2.2.2.length) rfl)⟩,⟨(b8 aA (Nat.le_refl x4.2.2.2.length):0+x4.2.2.2.length≤(List.map aA x4.2.2.2).length)⟩,⟨(kF k x4.1 x4.2.1 x4.2.2.1 x4.2.2.2 _ e5)⟩,⟨(LT.block (fO x1 _ k 0 [] [] ([]:Ty2) [] e3))⟩,⟨(dZ aA (l:=[]) (n:=0) rfl)⟩,⟨(rfl:0=0)⟩,⟨(zle 0)⟩,⟨(aK aA x1)⟩,⟨c2⟩,⟨rF⟩,⟨rF⟩,⟨(aK aA x1)⟩,⟨rF⟩,⟨rF⟩,⟨(lB)⟩,⟨(nF c1)⟩,⟨(jF k _ e0)⟩] (by kernel_rfl)
      | inr x10 =>
       simp only[Sum.elim_inr] at h
       obtain rfl:=osi h
       exact Tri.of (x:=X6) aH zA [.call ⟨true,[]⟩ (.bool x2) [],df,A6_3,df,df,.n x1.length,df,df,df,.n x1.length,A6_4,.n 0,.rows (List.map aA []),(A6_5 x4),(A6_6 x4),(A6_7 x6),(aEK x4),(A6_9 x8),(aEK x4),df,df,df,df,A6_10,.out (.fin (.bool x10) [])] [⟨(LT.blockFin (id:=2) (fP x4 x6 x8 _ k true 0 e10))⟩,⟨(nF (rfl:eqI 0 0=true))⟩,⟨(nF c9)⟩,⟨(nF c9)⟩,⟨(nF c9)⟩,⟨(aP k x4.2.2.2 (.inl x8) e7)⟩,⟨(bA aA (l:=x4.2.2.2) (n:=x4.2.2.2.length) rfl)⟩,⟨(b8 aA (Nat.le_refl x4.2.2.2.length):0+x4.2.2.2.length≤(List.map aA x4.2.2.2).length)⟩,⟨(bF k x4.2.2.2 _ e6)⟩,⟨(bA aA (l:=x4.2.2.2) (n:=x4.2.2.2.length) rfl)⟩,⟨(b8 aA (Nat.le_refl x4.2.2.2.length):0+x4.2.2.2.length≤(List.map aA x4.2.2.2).length)⟩,⟨(kF k x4.1 x4.2.1 x4.2.2.1 x4.2.2.2 _ e5)⟩,⟨(LT.block (fO x1 _ k 0 [] [] ([]:Ty2) [] e3))⟩,⟨(dZ aA (l:=[]) (n:=0) rfl)⟩,⟨(rfl:0=0)⟩,⟨(zle 0)⟩,⟨(aK aA x1)⟩,⟨c2⟩,⟨rF⟩,⟨rF⟩,⟨(aK aA x1)⟩,⟨rF⟩,⟨rF⟩,⟨(lB)⟩,⟨(nF c1)⟩,⟨(jF k _ e0)⟩] (by kernel_rfl)
    rw[if_neg c9] at h;replace c9:=eqf c9
    obtain rfl:=osi h
    exact Tri.of (x:=X6) aH zA [.call ⟨true,[]⟩ (.bool x2) [],df,A6_3,df,df,.n x1.length,df,df,df,.n x1.length,A6_4,.n 0,.rows (List.map aA []),(A6_5 x4),(A6_6 x4),(A6_7 x6),(aEK x4),(A6_9 x8),(aEK x4),dt,dt,dt,dt] [⟨rT⟩,⟨(nT c9)⟩,⟨(nT c9)⟩,⟨(nT c9)⟩,⟨(aP k x4.2.2.2 (.inl x8) e7)⟩,⟨(bA aA (l:=x4.2.2.2) (n:=x4.2.2.2.length) rfl)⟩,⟨(b8 aA (Nat.le_refl x4.2.2.2.length):0+x4.2.2.2.length≤(List.map aA x4.2.2.2).length)⟩,⟨(bF k x4.2.2.2 _ e6)⟩,⟨(bA aA (l:=x4.2.2.2) (n:=x4.2.2.2.length) rfl)⟩,⟨(b8 aA (Nat.le_refl x4.2.2.2.length):0+x4.2.2.2.length≤(List.map aA x4.2.2.2).length)⟩,⟨(kF k x4.1 x4.2.1 x4.2.2.1 x4.2.2.2 _ e5)⟩,⟨(LT.block (fO x1 _ k 0 [] [] ([]:Ty2) [] e3))⟩,⟨(dZ aA (l:=[]) (n:=0) rfl)⟩,⟨(rfl:0=0)⟩,⟨(zle 0)⟩,⟨(aK aA x1)⟩,⟨c2⟩,⟨rF⟩,⟨rF⟩,⟨(aK aA x1)⟩,⟨rF⟩,⟨rF⟩,⟨(lB)⟩,⟨(nF c1)⟩,⟨(jF k _ e0)⟩] (by kernel_rfl)
   | inr x8 =>
    simp only[Sum.elim_inr] at h
    by_cases c9:eqI x6.2 0=true
    · rw[if_pos c9] at h
      obtain rfl:=osi h
      exact Tri.of (x:=X6) aH zA [.call ⟨true,[]⟩ (.bool x2) [],df,A6_3,df,df,.n x1.length,df,df,df,.n x1.length,A6_4,.n 0,.rows (List.map aA []),(A6_5 x4),(A6_6 x4),(A6_7 x6),(aEK x4),.call ⟨true,[]⟩ (.tup [.mapn,(.int .i64 4)]) [],(aEK x4),df,df,df,dt] [⟨(nT (rfl:eqI 4 0=false))⟩,⟨(nF c9)⟩,⟨(nF c9)⟩,⟨(nF c9)⟩,⟨(aP k x4.2.2.2 (.inr x8) e7)⟩,⟨(bA aA (l:=x4.2.2.2) (n:=x4.2.2.2.length) rfl)⟩,⟨(b8 aA (Nat.le_refl x4.2.2.2.length):0+x4.2.2.2.length≤(List.map aA x4.2.2.2).length)⟩,⟨(bF k x4.2.2.2 _ e6)⟩,⟨(bA aA (l:=x4.2.2.2) (n:=x4.2.2.2.length) rfl)⟩,⟨(b8 aA (Nat.le_refl x4.2.2.2.length):0+x4.2.2.2.length≤(List.map aA x4.2.2.2).length)⟩,⟨(kF k x4.1 x4.2.1 x4.2.2.1 x4.2.2.2 _ e5)⟩,⟨(LT.block (fO x1 _ k 0 [] [] ([]:Ty2) [] e3))⟩,⟨(dZ aA (l:=[]) (n:=0) rfl)⟩,⟨(rfl:0=0)⟩,⟨(zle 0)⟩,⟨(aK aA x1)⟩,⟨c2⟩,⟨rF⟩,⟨rF⟩,⟨(aK aA x1)⟩,⟨rF⟩,⟨rF⟩,⟨(lB)⟩,⟨(nF c1)⟩,⟨(jF k _ e0)⟩] (by kernel_rfl)
    rw[if_neg c9] at h;replace c9:=eqf c9
    obtain rfl:=osi h
    exact Tri.of (x:=X6) aH zA [.call ⟨true,[]⟩ (.bool x2) [],df,A6_3,df,df,.n x1.length,df,df,df,.n x1.length,A6_4,.n 0,.rows (List.map aA []),(A6_5 x4),(A6_6 x4),(A6_7 x6),(aEK x4),.call ⟨true,[]⟩ (.tup [.mapn,(.int .i64 4)]) [],(aEK x4),dt,dt,dt,dt] [⟨rT⟩,⟨(nT c9)⟩,⟨(nT c9)⟩,⟨(nT c9)⟩,⟨(aP k x4.2.2.2 (.inr x8) e7)⟩,⟨(bA aA (l:=x4.2.2.2) (n:=x4.2.2.2.length) rfl)⟩,⟨(b8 aA (Nat.le_refl x4.2.2.2.length):0+x4.2.2.2.length≤(List.map aA x4.2.2.2).length)⟩,⟨(bF k x4.2.2.2 _ e6)⟩,⟨(bA aA (l:=x4.2.2.2) (n:=x4.2.2.2.length) rfl)⟩,⟨(b8 aA (Nat.le_refl x4.2.2.2.length):0+x4.2.2.2.length≤(List.map aA x4.2.2.2).length)⟩,⟨(kF k x4.1 x4.2.1 x4.2.2.1 x4.2.2.2 _ e5)⟩,⟨(LT.block (fO x1 _ k 0 [] [] ([]:Ty2) [] e3))⟩,⟨(dZ aA (l:=[]) (n:=0) rfl)⟩,⟨(rfl:0=0)⟩,⟨(zle 0)⟩,⟨(aK aA x1)⟩,⟨c2⟩,⟨rF⟩,⟨rF⟩,⟨(aK aA x1)⟩,⟨rF⟩,⟨rF⟩,⟨(lB)⟩,⟨(nF c1)⟩,⟨(jF k _ e0)⟩] (by kernel_rfl)
 rw[if_neg c1] at h;replace c1:=eqf c1
 obtain rfl:=osi h
 exact Tri.of (x:=X6) aH zA [.call ⟨true,[]⟩ (.bool x2) [],dt] [⟨(nT c1)⟩,⟨(jF k _ e0)⟩] (by kernel_rfl)
end Go.Ws
