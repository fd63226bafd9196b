/-
  WheelOnce, plainly.
  Conditions: none.
-/
import Derived.Test.YtgaodljkmdafdaaZWheelLaws
import Derived.Test.YtgaodljkmdafdaaZB2
set_option linter.unusedVariables false
set_option linter.unusedSimpArgs false
namespace Go.Ws
set_option linter.unusedVariables false
set_option linter.unusedSimpArgs false
set_option maxHeartbeats 1000000
abbrev Hm:=List (Option (Int × Int))
def kNd (l:List Tm):Prop:=(l.map (·.1)).Nodup
theorem Wl.nd {now:Int} {l:List Tm} (h:Wl now l):kNd l:=by
 unfold kNd List.Nodup
 rw[List.pairwise_map]
 exact h.1.imp fun h=>h.2
theorem nd_get:∀{l:List Tm},kNd l→∀x∈l,mGet l x.1=some x.2
 | [],_,x,hx=>by cases hx
 | (k,v)::l,h,x,hx=>by
  unfold kNd at h
  rw[List.map_cons,List.nodup_cons] at h
  simp only[mGet]
  rcases List.mem_cons.1 hx with rfl | hx
  · rw[if_pos rfl]
  · rw[if_neg (fun e=>h.1 (by rw[← e];exact List.mem_map.2 ⟨x,hx,rfl⟩)),nd_get h.2 x hx]
theorem get_nd:∀{l:List Tm} {q v:Int},mGet l q=some v→(q,v)∈l
 | (k,u)::l,q,v,h=>by
  simp only[mGet] at h
  by_cases e:q=k
  · rw[if_pos e] at h;cases h;rw[e];exact List.mem_cons_self
  · rw[if_neg e] at h;exact List.mem_cons_of_mem _ (get_nd h)
theorem wo_cons (t:Tm) (l:List Tm) (q:Int):wo (t::l) q=if t.1=q then wo l q else t::wo l q:=by
 unfold wo
 rw[List.filter_cons]
 by_cases e:t.1=q
 · rw[if_pos e,if_neg (by simp [e])]
 · rw[if_neg e,if_pos (by simp [e])]
theorem del_wo:∀{h:Hm} {q:Int},kNd (hL h)→hL (hDel h q)=wo (hL h) q
 | [],q,_=>rfl
 | none::h,q,hn=>by simp only[hDel,hL_none];exact del_wo hn
 | some (k,v)::h,q,hn=>by
  have hn2:k∉(hL h).map (·.1)∧kNd (hL h):=by
   unfold kNd at *
   rw[hL_some,List.map_cons,List.nodup_cons] at hn
   exact hn
  rw[hL_some,wo_cons]
  simp only[hDel]
  by_cases e:q=k
  · rw[if_pos e,if_pos e.symm,hL_none,wo_none fun t ht ht2=>hn2.1 (by rw[← e,← ht2];exact List.mem_map.2 ⟨t,ht,rfl⟩)]
  · rw[if_neg e,if_neg (fun h=>e h.symm),hL_some,del_wo hn2.2]
theorem put_perm:∀{h:Hm} {q x:Int},kNd (hL h)→(hL (hPut h q x)).Perm ((q,x)::wo (hL h) q)
 | [],q,x,_=>List.Perm.refl _
 | none::h,q,x,hn=>by simp only[hPut,hL_none];exact put_perm hn
 | some (k,v)::h,q,x,hn=>by
  have hn2:k∉(hL h).map (·.1)∧kNd (hL h):=by
   unfold kNd at *
   rw[hL_some,List.map_cons,List.nodup_cons] at hn
   exact hn
  rw[hL_some,wo_cons]
  simp only[hPut]
  by_cases e:q=k
  · rw[if_pos e,if_pos e.symm,hL_some,wo_none fun t ht ht2=>hn2.1 (by rw[← e,← ht2];exact List.mem_map.2 ⟨t,ht,rfl⟩)]
  · rw[if_neg e,if_neg (fun h=>e h.symm),hL_some]
    exact(List.Perm.cons _ (put_perm hn2.2)).trans (List.Perm.swap _ _ _)
theorem perm_nd {a b:List Tm} (h:a.Perm b) (hn:kNd b):kNd a:=by
 unfold kNd at *
 exact(h.map _).nodup_iff.2 hn
theorem perm_get {a b:List Tm} (h:a.Perm b) (hn:kNd b) {x:Tm} (hx:x∈b):mGet a x.1=some x.2:=nd_get (perm_nd h hn) x (h.mem_iff.2 hx)
theorem perm_none {a b:List Tm} (h:a.Perm b) {q:Int} (hx:∀t∈b,t.1≠q):mGet a q=none:=by
 cases hg:mGet a q with
 | none=>rfl
 | some v=>exact absurd rfl (hx (q,v) (h.mem_iff.1 (get_nd hg)))
theorem del_perm {h:Hm} {l:List Tm} (hp:(hL h).Perm l) (hn:kNd l) (q:Int):(hL (hDel h q)).Perm (wo l q):=by
 rw[del_wo (perm_nd hp hn)]
 exact hp.filter _
theorem any_not {h:Hm} {l:List Tm} (hp:(hL h).Perm l) {n:Int} (hl:∀t∈l,n<t.2):(hL h).any (fun q=>!(ltI n q.2))=false:=by
 rw[Bool.eq_false_iff]
 intro ha
 obtain⟨t,ht,hb⟩:=List.any_eq_true.1 ha
 rw[ltI_iff.2 (hl t (hp.mem_iff.1 ht))] at hb
 cases hb
theorem once_l1 {x1:List (Int × Int × Int)} {m:Int} {c:List Tm} {ids:List Int} {i0 n0:Int} {l0 rest:List Tm} (hids:ids.length≤10000):∀(rs:List Tm) (i:Nat) (v:Int) (h:Hm),ids.drop i=rs.map (·.1)→i≤ids.length→v=(i:Int)→(hL h).Perm (rs++rest)→kNd (rs++rest)→(∀t∈rs,t.2≤m) →
 ∃h',P_law06_WheelOnce_l1 x1 (m,c,ids,0) i0 n0 l0 v h=some (.inl h')∧(hL h').Perm rest
 | [],i,v,h,hd,hi,hv,hp,hn,hm=>by
  have hlen:ids.length≤i:=by
   have:=congrArg List.length hd
   simp at this
   omega
  refine⟨h,?_,hp⟩
  rw[P_law06_WheelOnce_l1_eq]
  repeat (first|refine ip0 ?_|refine jn0 ?_|refine el ?_|refine er ?_)
  rfl
 | t::rs,i,v,h,hd,hi,hv,hp,hn,hm=>by
  have hlt:i<ids.length:=by
   have:=congrArg List.length hd
   simp at this
   omega
  have hid:ids[i]=t.1:=by
   rw[List.drop_eq_getElem_cons hlt,List.map_cons,List.cons.injEq] at hd
   exact hd.1
  have hd2:ids.drop (i+1)=rs.map (·.1):=by
   rw[List.drop_eq_getElem_cons hlt,List.map_cons,List.cons.injEq] at hd
   exact hd.2
  have hg:mGet (hL h) t.1=some t.2:=perm_get hp hn (by simp)
  have hh:mHas (hL h) t.1=true:=by unfold mHas;rw[hg];rfl
  have htm:=hm t (by simp)
  have hpd:=del_perm hp hn t.1
  have hn2:t.1∉(rs++rest).map (·.1)∧kNd (rs++rest):=by
   unfold kNd at *
   rw[List.cons_append,List.map_cons,List.nodup_cons] at hn
   exact hn
  rw[List.cons_append,wo_cons,if_pos rfl,wo_none fun u hu hu2=>hn2.1 (by rw[← hu2];exact List.mem_map.2 ⟨u,hu,rfl⟩)] at hpd
  obtain⟨h',r1,r2⟩:=once_l1 hids rs (i+1) (iadd .i64 v 1) (hDel h t.1) hd2 (by omega) sd hpd hn2.2 fun u hu=>hm u (by simp [hu])
  refine⟨h',?_,r2⟩
  have e0:eqI 0 0=true:=rfl
  rw[P_law06_WheelOnce_l1_eq]
  refine ip (by simp only[ltI_iff,nI];omega) ?_
  refine ip (by rw[inI_iff];simp only[];omega) ?_
  refine(bnd (geti hv hlt)).trans ?_
  rw[hid]
  repeat (first|refine ip (by first|with_reducible rfl | assumption | (simp (disch:=omega) only[ws,wl,wb,e0]<;>omega)|omega) ?_|refine jn (by first|with_reducible rfl | assumption | (simp (disch:=omega) only[ws,wl,wb,e0]<;>omega)|omega) ?_|refine(bnd hg).trans ?_|refine el ?_|refine er ?_)
  exact r1
theorem once_tick {x1:List (Int × Int × Int)} {n:Int} {l:List Tm} (h:Wh n l) {i0:Int} {hs:Hm} (hp:(hL hs).Perm l) (b:Int):∃m c r e hs',P_wheel_Tick n l b=some (m,c,r,e)∧P_law06_WheelOnce_l1 x1 (m,c,r,e) i0 n l 0 hs=some (.inl hs')∧(hL hs').Perm c∧Wh m c∧c.length≤l.length:=by
 have hl:=h.2.1
 have nilc:∀e:Int,P_law06_WheelOnce_l1 x1 (n,l,[],e) i0 n l 0 hs=some (.inl hs):=fun e=>by
  rw[P_law06_WheelOnce_l1_eq]
  repeat (first|refine ip (by first|with_reducible rfl | assumption | (simp (disch:=omega) only[ws,wl,wb,List.length_nil]<;>omega)|omega) ?_|refine jn (by first|with_reducible rfl | assumption | (simp (disch:=omega) only[ws,wl,wb,List.length_nil]<;>omega)|omega) ?_|refine el ?_|refine er ?_)
  rfl
 by_cases h1:0≤b
 · by_cases h2:b≤1099511627776 - n
   · obtain⟨q,_⟩:=tick_t h h1 h2
     have hn:kNd (rg l (n+b)++lf l (n+b)):=by
      have hp2:(rg l (n+b)++lf l (n+b)).Perm l:=by
       have:lf l (n+b)=l.filter fun t=>!(decide (t.2≤n+b)):=by
        unfold lf
        exact List.filter_congr fun t _=>by
         by_cases e:t.2≤n+b
         · rw[decide_eq_true e,decide_eq_false (by omega)];rfl
         · rw[decide_eq_false e,decide_eq_true (by omega)];rfl
       rw[this]
       exact List.filter_append_perm _ _
      exact perm_nd hp2 h.2.2.nd
     have hp2:(hL hs).Perm (rg l (n+b)++lf l (n+b)):=by
      refine hp.trans (List.Perm.symm ?_)
      have:lf l (n+b)=l.filter fun t=>!(decide (t.2≤n+b)):=by
       unfold lf
       exact List.filter_congr fun t _=>by
        by_cases e:t.2≤n+b
        · rw[decide_eq_true e,decide_eq_false (by omega)];rfl
        · rw[decide_eq_false e,decide_eq_true (by omega)];rfl
      rw[this]
      exact List.filter_append_perm _ _
     have hrl:=rg_len l (n+b)
     obtain⟨hs',r1,r2⟩:=once_l1 (x1:=x1) (m:=n+b) (c:=lf l (n+b)) (ids:=(rg l (n+b)).map (·.1)) (i0:=i0) (n0:=n) (l0:=l) (rest:=lf l (n+b)) (by rw[List.length_map];omega) (rg l (n+b)) 0 0 hs (by rw[List.drop_zero]) (by omega) rfl hp2 hn fun t ht=>(rg_mem.1 ht).2
     exact⟨_,_,_,_,hs',q,r1,r2,h.tick h1 h2,lf_len _ _⟩
   · obtain⟨q,_⟩:=tick_f (now:=n) (l:=l) (by omega) (b:=b) (.inr ⟨h,h1,by omega,rfl⟩)
     exact⟨_,_,_,_,hs,q,nilc 3,hp,h,Nat.le_refl _⟩
 · obtain⟨q,_⟩:=tick_f (now:=n) (l:=l) (by omega) (b:=b) (.inl ⟨fun hh=>h1 hh.2,rfl⟩)
   exact⟨_,_,_,_,hs,q,nilc 2,hp,h,Nat.le_refl _⟩
theorem isIn_has {hs:Hm} {l:List Tm} (hp:(hL hs).Perm l) (hn:kNd l) (q:Int):(isIn l q=true→∃v,mGet (hL hs) q=some v)∧(isIn l q=false→mGet (hL hs) q=none):=by
 refine⟨fun h=>?_,fun h=>perm_none hp fun t ht e=>?_⟩
 · obtain⟨t,ht,e⟩:=isIn_iff.1 h
   exact⟨t.2,by rw[← e];exact perm_get hp hn ht⟩
 · rw[isIn_iff.2 ⟨t,ht,e⟩] at h;cases h
theorem once_l0 {x1:List (Int × Int × Int)}:∀(d i:Nat) (v n:Int) (l:List Tm) (hs:Hm),100 - i=d→i≤100→v=(i:Int)→Wh n l→l.length≤i→(hL hs).Perm l→P_law06_WheelOnce_l0 x1 v n l hs=some (.inl ()):=by
 intro d
 induction d with
 | zero =>
  intro i v n l hs hd hi hv hr hl hp
  rw[P_law06_WheelOnce_l0_eq]
  by_cases hlx:i<x1.length
  · repeat (first|refine ip0 ?_|refine jn0 ?_|refine el ?_|refine er ?_)
    rfl
  · repeat (first|refine ip0 ?_|refine jn0 ?_|refine el ?_|refine er ?_)
    rfl
 | succ d ih =>
  intro i v n l hs hd hi hv hr hl hp
  have hnd:=hr.2.2.nd
  by_cases hlx:i<x1.length
  rotate_left
  · rw[P_law06_WheelOnce_l0_eq]
    repeat (first|refine ip0 ?_|refine jn0 ?_|refine el ?_|refine er ?_)
    rfl
  have leq:∀{h:Hm} {c:List Tm},(hL h).Perm c→eqI (nI (hL h).length) (nI c.length)=true:=fun hp=>by rw[hp.length_eq];exact eqI_self _
  by_cases h2:irem .u8 x1[i].1 5=2
  · obtain⟨e,q,_,_,hcase⟩:=stop_t hr x1[i].2.1
    have hpd:=del_perm hp hnd x1[i].2.1
    have hlw:=wo_len l x1[i].2.1
    have hn:=ih (i+1) (iadd .i64 v 1) n (wo l x1[i].2.1) (hDel hs x1[i].2.1) (by omega) (by omega) sd (hr.wo _) (by omega) hpd
    have hle:=leq hpd
    obtain⟨k1,k2⟩:=isIn_has hp hnd x1[i].2.1
    rcases hcase with⟨rfl,hin⟩ | ⟨rfl,hin,_⟩
    · obtain⟨w,hg⟩:=k1 hin
      have hh:mHas (hL hs) x1[i].2.1=true:=by unfold mHas;rw[hg];rfl
      have eb:eqB true (eqI 0 0)=true:=rfl
      rw[P_law06_WheelOnce_l0_eq]
      repeat (first|refine ip (by first|with_reducible rfl | assumption | (simp (disch:=omega) only[ws,wl,wb,h2,eb,hle]<;>omega)|omega) ?_|refine jn (by first|with_reducible rfl | assumption | (simp (disch:=omega) only[ws,wl,wb,h2,eb,hle]<;>omega)|omega) ?_|refine(bnd (geti hv hlx)).trans ?_|refine(bnd q).trans ?_|refine(bnd hg).trans ?_|refine el ?_|refine er ?_)
      exact hn
    · have hg:=k2 hin
      have hh:¬mHas (hL hs) x1[i].2.1=true:=by unfold mHas;rw[hg];simp
      have eb:eqB false (eqI 7 0)=true:=rfl
      rw[P_law06_WheelOnce_l0_eq]
      repeat (first|refine ip (by first|with_reducible rfl | assumption | (simp (disch:=omega) only[ws,wl,wb,h2,eb,hle]<;>omega)|omega) ?_|refine jn (by first|with_reducible rfl | assumption | (simp (disch:=omega) only[ws,wl,wb,h2,eb,hle]<;>omega)|omega) ?_|refine(bnd (geti hv hlx)).trans ?_|refine(bnd q).trans ?_|refine el ?_|refine er ?_)
      exact hn
  obtain⟨m,c,r,e,hs',t1,t2,t3,t4,t5⟩:=once_tick (x1:=x1) hr (i0:=v) hp x1[i].2.2
  have ha:¬((hL hs').any (fun q=>!(ltI m q.2)))=true:=by rw[any_not t3 fun t ht=>(t4.2.2.2 t ht).1];simp
  have tn:=ih (i+1) (iadd .i64 v 1) m c hs' (by omega) (by omega) sd t4 (by omega) t3
  have tle:=leq t3
  by_cases h3:irem .u8 x1[i].1 5=3
  · rw[P_law06_WheelOnce_l0_eq]
    repeat (first|refine ip (by first|with_reducible rfl | assumption | (simp (disch:=omega) only[ws,wl,wb,h2,h3,tle]<;>omega)|omega) ?_|refine jn (by first|with_reducible rfl | assumption | (simp (disch:=omega) only[ws,wl,wb,h2,h3,tle]<;>omega)|omega) ?_|refine(bnd (geti hv hlx)).trans ?_|refine(bnd t1).trans ?_|refine(bnd t2).trans ?_|refine el ?_|refine er ?_)
    exact tn
  by_cases h4:irem .u8 x1[i].1 5=4
  · rw[P_law06_WheelOnce_l0_eq]
    repeat (first|refine ip (by first|with_reducible rfl | assumption | (simp (disch:=omega) only[ws,wl,wb,h2,h3,h4,tle]<;>omega)|omega) ?_|refine jn (by first|with_reducible rfl | assumption | (simp (disch:=omega) only[ws,wl,wb,h2,h3,h4,tle]<;>omega)|omega) ?_|refine(bnd (geti hv hlx)).trans ?_|refine(bnd t1).trans ?_|refine(bnd t2).trans ?_|refine el ?_|refine er ?_)
    exact tn
  have bad:∀e:Int,e≠0→P_wheel_Set n l x1[i].2.1 x1[i].2.2=some (n,l,e)→P_law06_WheelOnce_l0 x1 v n l hs=some (.inl ()):=fun e he q=>by
   have hn:=ih (i+1) (iadd .i64 v 1) n l hs (by omega) (by omega) sd hr (by omega) hp
   have hle:=leq hp
   rw[P_law06_WheelOnce_l0_eq]
   repeat (first|refine ip (by first|with_reducible rfl | assumption | (simp (disch:=omega) only[ws,wl,wb,h2,h3,h4,hle]<;>omega)|omega) ?_|refine jn (by first|with_reducible rfl | assumption | (simp (disch:=omega) only[ws,wl,wb,h2,h3,h4,hle]<;>omega)|omega) ?_|refine(bnd (geti hv hlx)).trans ?_|refine(bnd q).trans ?_|refine el ?_|refine er ?_)
   exact hn
  by_cases g1:n<x1[i].2.2
  rotate_left
  · exact bad 10 (by decide) (set_f (by omega) (.inr ⟨hr,.inl ⟨by omega,rfl⟩⟩)).1
  by_cases g2:x1[i].2.2≤1099511627776
  rotate_left
  · exact bad 3 (by decide) (set_f (by omega) (.inr ⟨hr,.inr (.inl ⟨g1,by omega,rfl⟩)⟩)).1
  by_cases g3:isIn l x1[i].2.1=true∨l.length<1000
  rotate_left
  · have g4:isIn l x1[i].2.1=false:=by
     rw[← Bool.not_eq_true];exact fun hh=>g3 (.inl hh)
    have g5:1000≤l.length:=Classical.byContradiction fun hh=>g3 (.inr (by omega))
    exact bad 6 (by decide) (set_f (by omega) (.inr ⟨hr,.inr (.inr ⟨g1,g2,g4,g5,rfl⟩)⟩)).1
  obtain⟨A,R,e0,hA,hR,q,_⟩:=set_t hr g1 g2 g3
  obtain⟨w1,w2⟩:=hr.set g1 g2 g3 e0 hA hR
  have hpp:(hL (hPut hs x1[i].2.1 x1[i].2.2)).Perm (A++(x1[i].2.1,x1[i].2.2)::R):=by
   refine(put_perm (perm_nd hp hnd)).trans ?_
   have h1:(wo (hL hs) x1[i].2.1).Perm (A++R):=by rw[← e0];exact hp.filter _
   exact(List.Perm.cons _ h1).trans List.perm_middle.symm
  have hn:=ih (i+1) (iadd .i64 v 1) n (A++(x1[i].2.1,x1[i].2.2)::R) (hPut hs x1[i].2.1 x1[i].2.2) (by omega) (by omega) sd w1 (by omega) hpp
  have hle:=leq hpp
  have ez:eqI 0 0=true:=rfl
  rw[P_law06_WheelOnce_l0_eq]
  repeat (first|refine ip (by first|with_reducible rfl | assumption | (simp (disch:=omega) only[ws,wl,wb,h2,h3,h4,hle,ez]<;>omega)|omega) ?_|refine jn (by first|with_reducible rfl | assumption | (simp (disch:=omega) only[ws,wl,wb,h2,h3,h4,hle,ez]<;>omega)|omega) ?_|refine(bnd (geti hv hlx)).trans ?_|refine(bnd q).trans ?_|refine el ?_|refine er ?_)
  exact hn
theorem plain_once (x1:List (Int × Int × Int)) (w:w_t52 x1):P_law06_WheelOnce x1=some true:=by
 have h:=once_l0 (x1:=x1) 100 0 0 0 [] [] rfl (by omega) rfl wh0 (by simp) (List.Perm.refl _)
 rw[P_law06_WheelOnce]
 repeat (first|refine ip0 ?_|refine jn0 ?_|refine(bnd alive_ok).trans ?_|refine(bnd h).trans ?_|refine el ?_|refine er ?_)
 rfl
end Go.Ws
