/- Each function of the statement computes what its plain definition says, part 2. -/
import Derived.Test.YtenajajnbmfijaaGreatDoorGlobalCodeWalk1
set_option linter.all false
section
set_option maxRecDepth 10000
set_option maxHeartbeats 4000000
open Go Go.Kx Go.Proofs Tryz
namespace Gx
theorem z18_ct (N:Nat) (g_:T4) (state_:Int) (r:(List Int)) (h:z18 N g_ state_=some r) :
 Fn Tryz.prog 18 ⟨4,[.a (cC4 0 1 2 3 g_),.I state_],(vV4 0 1 2 3 g_ []),[],5,.S 4,[],[(4,.own (rI .i64) r true)]⟩:=by
 refine wF func18 Q Q (fun E F w=>?_)
 unfold z18 at h
 refine wR J 2 Q (wV (zz2 g_ [(1,.I state_),(2,.B 4 0),(4,.c .nil),(5,.c .nil)]) J 1 (wq (wV (zz2 g_ [(1,.I state_),(2,.B 4 0),(4,.c .nil),(5,.c .nil),(9,.S 2),(10,.I (g_.Edges.length:Int)),(11,.I 0)]) J 4 ?_)))
 refine wC (σ:=(List Int)) (fun st=>(zz27 g_ st [(2,.B 4 0),(5,.S 5)])) (fun st=>z18_k1 N g_ st=some r) ?_ (fun j1=>?_)
 ·intro d h
  replace h:z18_k1 N g_ d=some r:=h
  unfold z18_k1 at h
  refine wq (wg (ws J 2 Q ?_))
  obtain ⟨x9,e,h⟩:=ob h
  refine wc (z47_14_ct N d g_ _ e) [(0,.sl 5),(1,.bp 4 0),(2,.sl 0),(3,.sl 1),(4,.sl 2),(5,.sl 3)] [] Q Q Q Q Q Q Q Q (.inl rfl) rfl (wx ⟨[(5,.S 5)],[(5,.own (rI .i64) x9 true)],(vV4 0 1 2 3 g_ []),6⟩ J 0 (wn (wR J 2 Q ?_)))
  cases h
  exact we J func18 [(4,.sl 5)] Q Q Q Q
 refine wo ?_
 refine wI (σ:=(List Int) × Int) (fun st=>(zz27 g_ st.1 [(1,.I state_),(2,.B 4 0),(5,.S 5),(9,.S 2),(10,.I (g_.Edges.length:Int)),(11,.I st.2)])) (fun n st=>z18_l2 N g_ state_ n st.1 st.2) (r:=r) (fun _=>rfl) ?_ (fun ih=>?_)
 ·intro n2 ih3
  rintro ⟨f,g⟩ h
  replace h:z18_l2 N g_ state_ (n2+1) f g=some r:=h
  unfold z18_l2 at h
  refine wR J 1 Q (wq ?_)
  obtain ⟨K,h⟩|⟨K,h⟩:=oc' h
  ·exact wf K Q (wz rfl (wU (j1 f h)))
  refine wt K Q (wi (wq (wo (wq (wg (ws J 1 Q ?_))))))
  obtain ⟨i,j,h⟩:=ob h
  refine wj oO2 J j Q Q Q Q Q Q Q Q Q (wx ⟨[(1,.I state_),(2,.B 4 0),(5,.S 5),(6,.I g),(7,.B 7 0),(9,.S 2),(10,.I (g_.Edges.length:Int)),(11,.I g)],[(4,.box (cC4 0 1 2 3 g_) 27),(5,.own (rI .i64) f true),(7,.box (cC2 i) 43)],(vV4 0 1 2 3 g_ []),8⟩ J 4 (wn (wV (zz130 g_ f [(1,.I state_),(2,.B 4 0),(5,.S 5),(6,.I g),(9,.S 2),(10,.I (g_.Edges.length:Int)),(11,.I g),(19,.O (i.From==state_))]) J 4 ?_)))
  obtain ⟨K,h⟩|⟨K,h⟩:=oc' h
  ·exact wf K Q (wi (wb (wS J 2 Q (wU (ih3 (f,(w64 (g+1))) h)))))
  refine wt K Q (wg (ws J 2 Q (WPr.bs (cs:=[.I g]) (oI .i64) J ([g]:List Int) Q Q Q Q Q Q (by kernel_rfl) (by exact (an Q Q)) rfl (xw [3,4] ⟨[(1,.I state_),(2,.B 4 0),(9,.S 2),(10,.I (g_.Edges.length:Int)),(11,.I g),(20,.S 5),(22,.S 8)],[(4,.box (cC4 0 1 2 3 g_) 27),(5,.own (rI .i64) f true),(8,.own (rI .i64) ([g]:List Int) true)],(vV4 0 1 2 3 g_ []),9⟩ J 0 ?_))))
  obtain ⟨k,l,h⟩:=ob h
  exact WPr.app J l (by exact (srcO rfl)) Q Q Q Q Q Q Q Q Q Q (wx ⟨[(1,.I state_),(2,.B 4 0),(5,.S 9),(9,.S 2),(10,.I (g_.Edges.length:Int)),(11,.I g)],[(4,.box (cC4 0 1 2 3 g_) 27),(9,.own (rI .i64) k true)],(vV4 0 1 2 3 g_ []),10⟩ J 1 (wn (wb (wS J 2 Q (wu [(5,.sl 9)] (ih3 (k,(w64 (g+1))) h) Q Q Q Q)))))
 exact wu [(5,.nil)] (ih N (([]:List Int),0) h) Q Q Q Q
theorem z45_ct (N:Nat) (s_:(List T6)) (r:(List T6)) (h:z45 N s_=some r) :
 Fn Tryz.prog 45 ⟨1,[.S 0],[(0,.sl rR6 s_)],[],2,.S 1,[],[(1,.own rR6 r true)]⟩:=by
 refine wF func45 Q Q (fun E F w=>?_)
 unfold z45 at h
 refine wR J 1 Q (wq (wq (wg (ws J 1 Q (WPr.nilc (el:=37) false (Or.inl rfl) Q Q Q Q (by kernel_rfl) Q Q Q ?_)))))
 intro nb hnb
 cases nb
 ·refine wx ⟨[(0,.S 0),(2,.c .nil),(4,.O false)],[],[(0,.sl rR6 s_)],1⟩ J 0 (wn (wf Q Q (wi (wq (wg (WPr.bs (cs:=[]) oO6 J ([]:List T6) Q Q Q Q Q Q (by kernel_rfl) (by exact rfl) rfl (ws J 1 Q ?_)))))))
  obtain ⟨x1,d,h⟩:=ob h
  refine WPr.app J d (by exact (srcI rfl)) Q Q Q Q Q Q Q Q Q Q (wx ⟨[(2,.S 2)],[(2,.own rR6 x1 true)],[(0,.sl rR6 s_)],3⟩ J 1 (wn ?_))
  cases h
  exact we J func45 [(1,.sl 2)] Q Q Q Q
 ·obtain rfl:=hnb rfl
  replace h:(some ([]:List T6):Option (List T6))=some r:=h
  refine wx ⟨[(0,.S 0),(2,.c .nil),(4,.O true)],[],[(0,.sl rR6 ([]:List T6))],1⟩ J 0 (wn (wt Q Q (wR J 1 Q ?_)))
  cases h
  exact we J func45 [(1,.nil)] Q Q Q Q
theorem z14_ct (N:Nat) (g_:T4) (n_:Int) (r:(List (List T6)) × Int) (h:z14 N g_ n_=some r) :
 Fn Tryz.prog 14 ⟨4,[.a (cC4 0 1 2 3 g_),.I n_],(vV4 0 1 2 3 g_ []),[],5,.t [.inl (.sl 4),.inl (.I r.2)],[],[(4,.own (rSl rR6) r.1 true)]⟩:=by
 refine wF func14 Q Q (fun E F w=>?_)
 unfold z14 at h
 refine wV (zz2 g_ [(1,.I n_),(2,.B 4 0),(4,.c .nil),(5,.I 0)]) J 3 (wq (wq (wg (ws J 1 Q ?_))))
 obtain ⟨x1,d,h⟩:=ob h
 refine wc (z22_ct N g_ _ d) [(0,.sl 0),(1,.sl 1),(2,.sl 2),(3,.sl 3)] [] Q Q Q Q Q Q Q Q (.inl rfl) rfl (wx (zz2 g_ [(1,.I n_),(2,.B 4 0),(4,.c .nil),(5,.I 0),(13,.O (!x1))]) J 1 (wn ?_))
 obtain ⟨K,h⟩|⟨K,h⟩:=oc h
 ·refine wt K Q (wR J 2 Q ?_)
  cases h
  exact we J func14 [(4,.nil)] Q Q Q Q
 refine wf K Q (wi (wq (wq (wg (xw [3,4,5] (zz2 g_ [(1,.I n_),(2,.B 4 0),(4,.c .nil),(5,.I 0),(16,.O (decide (n_ < 0)))]) J 3 ?_)))))
 obtain ⟨K,h⟩|⟨K,h⟩:=oc h
 ·refine wy 16 K Q (wx (zz2 g_ [(1,.I n_),(2,.B 4 0),(4,.c .nil),(5,.I 0),(19,.O true)]) J 3 (wn (wt Q Q (wR J 2 Q ?_))))
  cases h
  exact we J func14 [(4,.nil)] Q Q Q Q
 refine wy 16 K Q (wx (zz2 g_ [(1,.I n_),(2,.B 4 0),(4,.c .nil),(5,.I 0),(19,.O (decide (n_ > 12)))]) J 3 (wn ?_))
 obtain ⟨K,h⟩|⟨K,h⟩:=oc h
 ·refine wt K Q (wR J 2 Q ?_)
  cases h
  exact we J func14 [(4,.nil)] Q Q Q Q
 refine wf K Q (wi (wq (wg (WPr.bs (cs:=[.nil]) (oSl rR6) J ([([]:List T6)]:List (List T6)) Q Q Q Q Q Q (by kernel_rfl) (by exact (an Q Q)) rfl (ws J 1 Q (wn (wq (wg (xw [2,3] (zz64 g_ ([([]:List T6)]:List (List T6)) [(1,.I n_),(2,.B 4 0),(4,.c .nil),(5,.I 0),(6,.S 5),(22,.I g_.Start)]) J 2 (WPr.bs (cs:=[.I g_.Start]) (oI .i64) J ([g_.Start]:List Int) Q Q Q Q Q Q (by kernel_rfl) (by exact (an Q Q)) rfl (ws J 1 Q (wn (wq (wV ⟨[(1,.I n_),(2,.B 4 0),(4,.c .nil),(5,.I 0),(6,.S 5),(7,.S 6),(8,.I 0)],[(4,.box (cC4 0 1 2 3 g_) 27),(5,.own (rSl rR6) ([([]:List T6)]:List (List T6)) true),(6,.own (rI .i64) ([g_.Start]:List Int) true)],(vV4 0 1 2 3 g_ []),7⟩ J 1 ?_))))))))))))))
 refine wC (σ:=(List (List T6))) (fun st=>⟨[(6,.S 7)],[(7,.own (rSl rR6) st true)],(vV4 0 1 2 3 g_ []),8⟩) (fun st=>z14_k1 st=some r) ?_ (fun j1=>?_)
 ·intro e h
  replace h:z14_k1 e=some r:=h
  unfold z14_k1 at h
  refine wV ⟨[(4,.S 7),(5,.I 0)],[(7,.own (rSl rR6) e true)],(vV4 0 1 2 3 g_ []),8⟩ J 3 ?_
  cases h
  exact we J func14 [(4,.sl 7)] Q Q Q Q
 refine wo ?_
 refine wI (σ:=(List (List T6)) × (List Int) × Int) (fun st=>(zz170 g_ st.1 st.2.1 [(1,.I n_),(2,.B 4 0),(6,.S 7),(7,.S 8),(8,.I st.2.2)])) (fun n st=>z14_l2 N g_ n_ n st.1 st.2.1 st.2.2) (r:=r) (fun _=>rfl) ?_ (fun ih=>?_)
 ·intro n12 ih12
  rintro ⟨f,g,i⟩ h
  replace h:z14_l2 N g_ n_ (n12+1) f g i=some r:=h
  unfold z14_l2 at h
  refine wq (wV (zz170 g_ f g [(1,.I n_),(2,.B 4 0),(6,.S 7),(7,.S 8),(8,.I i),(27,.O (decide (i < (f.length:Int))))]) J 4 ?_)
  obtain ⟨K,h⟩|⟨K,h⟩:=oc' h
  ·exact wf K Q (wz rfl (wU (j1 f h)))
  refine wt K Q (wi (wq (wo (wq (wq (wg (ws J 2 Q ?_)))))))
  obtain ⟨j,l,h⟩:=ob h
  refine wX J l Q Q Q Q Q Q Q Q Q (xw [3,4,5,6] ⟨[(1,.I n_),(2,.B 4 0),(6,.S 7),(7,.S 8),(8,.I i),(32,.P 9 0)],[(4,.box (cC4 0 1 2 3 g_) 27),(7,.own (rSl rR6) f true),(8,.own (rI .i64) g true)],(vV4 0 1 2 3 g_ [(9,.el 7 ((i).toNat * ((rSl rR6)).sz))]),10⟩ J 0 (wd (oSl rR6) J l Q Q Q Q Q Q Q Q Q Q (wx (zz171 g_ f g [(1,.I n_),(2,.B 4 0),(6,.S 7),(7,.S 8),(8,.I i),(36,.O ((j.length:Int)==n_))]) J 3 (wn ?_))))
  obtain ⟨K,h⟩|⟨K,h⟩:=oc h
  ·exact wt K Q (wz rfl (wT (zz171 g_ f g [(1,.I n_),(2,.B 4 0),(6,.S 7),(7,.S 8),(8,.I (w64 (i+1)))]) J 3 (wU (ih12 (f,g,(w64 (i+1))) h))))
  refine wf K Q (wi (wq (wq (wN (fun m o p=>?_)))))
  have q:m 0 ⟨[(2,.B 4 0)],(vV4 0 1 2 3 g_ []),[],[(4,.box (cC4 0 1 2 3 g_) 27)],11,[(37,.a (cC4 0 1 2 3 g_))],[],[],11⟩:=o _ _ (wL J)
  have s:m 1 (zz25 [(7,.S 8)] [(38,.S 8)]):=o _ _ (wL J)
  have u:m 2 (zz25 [(8,.I i)] [(39,.I i)]):=o _ _ (wL J)
  obtain ⟨v,x,h⟩:=ob h
  have y:m 3 ⟨[(38,.S 8),(39,.I i)],[],[],[(8,.own (rI .i64) g true)],11,[(40,.P 11 0)],[(11,.el 8 ((i).toNat * ((rI .i64)).sz))],[],12⟩:=o _ _ (wO Q Q Q (fun _ _ _ _ _ _ _ k=>wX J x Q Q Q Q Q Q Q Q Q (k)) rfl)
  have z:m 4 ⟨[(40,.P 11 0)],[(11,.el 8 ((i).toNat * ((rI .i64)).sz))],[],[(8,.own (rI .i64) g true)],12,[(41,.I v)],[],[],12⟩:=o _ _ (wO Q Q Q (fun _ _ _ _ _ _ _ k=>wd (oI .i64) J x Q Q Q Q Q Q Q Q Q Q (k)) rfl)
  obtain ⟨A,C,h⟩:=ob h
  have D:m 5 ⟨[(37,.a (cC4 0 1 2 3 g_)),(41,.I v)],(vV4 0 1 2 3 g_ []),[],[],12,[(42,.S 12)],[],[(12,.own (rI .i64) A true)],13⟩:=o _ _ (wO Q Q Q (fun _ _ _ _ _ _ _ k=>wc (z18_ct N g_ v _ C) [(0,.sl 0),(1,.sl 1),(2,.sl 2),(3,.sl 3)] [] Q Q Q Q Q Q Q Q (.inl rfl) rfl (k)) rfl)
  have G:m 6 ⟨[(42,.S 12)],[],[],[(12,.own (rI .i64) A true)],13,[(43,.I (A.length:Int))],[],[],13⟩:=o _ _ (wL J)
  have H:m 7 (zz36 [] [(44,.I 0)]):=o _ _ (wL J)
  refine wD (t:=⟨[(1,.I n_),(2,.B 4 0),(6,.S 7),(7,.S 8),(8,.I i),(42,.S 12),(43,.I (A.length:Int)),(44,.I 0)],[(4,.box (cC4 0 1 2 3 g_) 27),(7,.own (rSl rR6) f true),(8,.own (rI .i64) g true),(12,.own (rI .i64) A true)],(vV4 0 1 2 3 g_ []),13⟩) [0,0,0,6,14,31,63,0] (.cons (p _ _ q) (.cons (p _ _ s) (.cons (p _ _ u) (.cons (p _ _ y) (.cons (p _ _ z) (.cons (p _ _ D) (.cons (p _ _ G) (.cons (p _ _ H) .nil)))))))) (by kernel_rfl) (by kernel_rfl) (by kernel_rfl) (by kernel_rfl) ?_
  refine wC (σ:=(List (List T6)) × (List Int)) (fun st=>(zz131 g_ st.1 st.2 [(1,.I n_),(2,.B 4 0),(6,.S 13),(7,.S 14),(8,.I i)])) (fun st=>z14_k3 i (z14_l2 N g_ n_ n12) st.1 st.2=some r) ?_ (fun j19=>?_)
  ·rintro ⟨R,T⟩ h
   replace h:z14_k3 i (z14_l2 N g_ n_ n12) R T=some r:=h
   unfold z14_k3 at h
   refine wV (zz131 g_ R T [(1,.I n_),(2,.B 4 0),(6,.S 13),(7,.S 14),(8,.I i),(76,.O (decide ((R.length:Int) > 3000)))]) J 3 ?_
   obtain ⟨K,h⟩|⟨K,h⟩:=oc h
   ·refine wt K Q (wR J 2 Q ?_)
    cases h
    exact we J func14 [(4,.nil)] Q Q Q Q
   exact wf K Q (wi (wb (wT (zz131 g_ R T [(1,.I n_),(2,.B 4 0),(6,.S 13),(7,.S 14),(8,.I (w64 (i+1)))]) J 3 (wu [(7,.sl 13),(8,.sl 14)] (ih12 (R,T,(w64 (i+1))) h) Q Q Q Q))))
  refine wo ?_
  refine wI (σ:=(List (List T6)) × (List Int) × Int) (fun st=>⟨[(1,.I n_),(2,.B 4 0),(6,.S 13),(7,.S 14),(8,.I i),(42,.S 12),(43,.I (A.length:Int)),(44,.I st.2.2)],[(4,.box (cC4 0 1 2 3 g_) 27),(12,.own (rI .i64) A true),(13,.own (rSl rR6) st.1 true),(14,.own (rI .i64) st.2.1 true)],(vV4 0 1 2 3 g_ []),15⟩) (fun n st=>z14_l4 N g_ i (z14_l2 N g_ n_ n12) A n st.1 st.2.1 st.2.2) (r:=r) (fun _=>rfl) ?_ (fun ih=>?_)
  ·intro n14 ih21
   rintro ⟨U,X,Y⟩ h
   replace h:z14_l4 N g_ i (z14_l2 N g_ n_ n12) A (n14+1) U X Y=some r:=h
   unfold z14_l4 at h
   refine wR J 1 Q (wq ?_)
   obtain ⟨K,h⟩|⟨K,h⟩:=oc' h
   ·exact wf K Q (wz rfl (wU (j19 (U,X) h)))
   refine wt K Q (wi (wq (wo (wq (wg ?_)))))
   obtain ⟨Z,a0,h⟩:=ob h
   refine wX J a0 Q Q Q Q Q Q Q Q Q (wd (oI .i64) J a0 Q Q Q Q Q Q Q Q Q Q (wx ⟨[(1,.I n_),(2,.B 4 0),(6,.S 13),(7,.S 14),(8,.I i),(10,.I Z),(42,.S 12),(43,.I (A.length:Int)),(44,.I Y)],[(4,.box (cC4 0 1 2 3 g_) 27),(12,.own (rI .i64) A true),(13,.own (rSl rR6) U true),(14,.own (rI .i64) X true)],(vV4 0 1 2 3 g_ []),16⟩ J 1 (wn (wq (wN (fun b0 c0 d0=>?_))))))
   have e0:b0 0 (zz37 [(6,.S 13)] [(48,.S 13)]):=c0 _ _ (wL J)
   have f0:b0 1 (zz37 [(6,.S 13)] [(49,.S 13)]):=c0 _ _ (wL J)
   have g0:b0 2 (zz37 [(8,.I i)] [(50,.I i)]):=c0 _ _ (wL J)
   obtain ⟨i0,j0,h⟩:=ob h
   have k0:b0 3 ⟨[(49,.S 13),(50,.I i)],[],[],[(13,.own (rSl rR6) U true)],16,[(51,.P 16 0)],[(16,.el 13 ((i).toNat * ((rSl rR6)).sz))],[],17⟩:=c0 _ _ (wO Q Q Q (fun _ _ _ _ _ _ _ k=>wX J j0 Q Q Q Q Q Q Q Q Q (k)) rfl)
   have l0:b0 4 ⟨[(51,.P 16 0)],[(16,.el 13 ((i).toNat * ((rSl rR6)).sz))],[],[(13,.own (rSl rR6) U true)],17,[(52,.S 17)],[(17,.sl rR6 i0)],[],18⟩:=c0 _ _ (wO Q Q Q (fun _ _ _ _ _ _ _ k=>wd (oSl rR6) J j0 Q Q Q Q Q Q Q Q Q Q (k)) rfl)
   obtain ⟨m0,o0,h⟩:=ob h
   have p0:b0 5 ⟨[(52,.S 17)],[(17,.sl rR6 i0)],[],[],18,[(53,.S 18)],[],[(18,.own rR6 m0 true)],19⟩:=c0 _ _ (wO Q Q Q (fun _ _ _ _ _ _ _ k=>wc (z45_ct N i0 _ o0) [(0,.sl 17)] [] Q Q Q Q Q Q Q Q (.inl rfl) rfl (k)) rfl)
   have q0:b0 6 ⟨[(2,.B 4 0)],[],[],[],19,[(54,.B 4 6)],[],[],19⟩:=c0 _ _ (wL J)
   have s0:b0 7 ⟨[(54,.B 4 6)],(vV4 0 1 2 3 g_ []),[],[(4,.box (cC4 0 1 2 3 g_) 27)],19,[(55,.S 2)],[],[],19⟩:=c0 _ _ (wL J)
   have t0:b0 8 ⟨[(10,.I Z)],[],[],[],19,[(56,.I Z)],[],[],19⟩:=c0 _ _ (wL J)
   obtain ⟨u0,v0,h⟩:=ob h
   have x0:b0 9 ⟨[(55,.S 2),(56,.I Z)],[(2,.sl rR2 g_.Edges)],[],[],19,[(57,.P 19 0)],[(19,.pl (cC2 u0))],[],20⟩:=c0 _ _ (wO Q Q Q (fun _ _ _ _ _ _ _ k=>wj oO2 J v0 Q Q Q Q Q Q Q Q Q (k)) rfl)
   have y0:b0 10 ⟨[(57,.P 19 0)],[(19,.pl (cC2 u0))],[],[],20,[(58,.P 19 1)],[],[],20⟩:=c0 _ _ (wL J)
   have z0:b0 11 ⟨[(58,.P 19 1)],[(19,.pl (cC2 u0))],[],[],20,[(59,.a (cC6 u0.Act))],[],[],20⟩:=c0 _ _ (wL J)
   have A0:b0 12 ⟨[(59,.a (cC6 u0.Act))],[],[],[],20,[(60,.S 20)],[],[(20,.own rR6 ([u0.Act]:List T6) true)],21⟩:=c0 _ _ (wO Q Q Q (fun _ _ _ _ _ _ _ k=>WPr.bs (cs:=(cC6 u0.Act)) oO6 J ([u0.Act]:List T6) Q Q Q Q Q Q (by kernel_rfl) (by exact (an (an rfl (an Q Q)) rfl)) rfl (k)) rfl)
   obtain ⟨B0,C0,h⟩:=ob h
   have D0:b0 13 ⟨[(53,.S 18),(60,.S 20)],[],[(18,.own rR6 m0 true)],[(20,.own rR6 ([u0.Act]:List T6) true)],21,[(61,.S 21)],[],[(18,.gone),(21,.own rR6 B0 true)],22⟩:=c0 _ _ (wO Q Q Q (fun _ _ _ _ _ _ _ k=>WPr.app J C0 (by exact (srcO rfl)) Q Q Q Q Q Q Q Q Q Q (k)) rfl)
   have G0:b0 14 ⟨[(61,.S 21)],[],[(21,.own rR6 B0 true)],[],22,[(62,.S 22)],[(21,.sl rR6 B0)],[(21,.gone),(22,.own (rSl rR6) ([B0]:List (List T6)) true)],23⟩:=c0 _ _ (wO Q Q Q (fun _ _ _ _ _ _ _ k=>WPr.frz 21 rfl (WPr.bs (cs:=[.sl 21]) (oSl rR6) J ([B0]:List (List T6)) Q Q Q Q Q Q (by kernel_rfl) (by exact (an Q Q)) rfl (k))) rfl)
   obtain ⟨H0,I0,h⟩:=ob h
   have L0:b0 15 ⟨[(48,.S 13),(62,.S 22)],[],[(13,.own (rSl rR6) U true)],[(22,.own (rSl rR6) ([B0]:List (List T6)) true)],23,[(63,.S 23)],[],[(13,.gone),(23,.own (rSl rR6) H0 true)],24⟩:=c0 _ _ (wO Q Q Q (fun _ _ _ _ _ _ _ k=>WPr.app J I0 (by exact (srcO rfl)) Q Q Q Q Q Q Q Q Q Q (k)) rfl)
   have M0:b0 16 (zz81 [(63,.S 23)] [(6,.S 23)]):=c0 _ _ (wL J)
   refine wD (t:=(zz172 g_ A X H0 [(1,.I n_),(2,.B 4 0),(6,.S 23),(7,.S 14),(8,.I i),(10,.I Z),(42,.S 12),(43,.I (A.length:Int)),(44,.I Y)])) [0,0,0,6,14,30,0,64,0,448,960,1984,4032,8190,16382,32767,65535] (.cons (d0 _ _ e0) (.cons (d0 _ _ f0) (.cons (d0 _ _ g0) (.cons (d0 _ _ k0) (.cons (d0 _ _ l0) (.cons (d0 _ _ p0) (.cons (d0 _ _ q0) (.cons (d0 _ _ s0) (.cons (d0 _ _ t0) (.cons (d0 _ _ x0) (.cons (d0 _ _ y0) (.cons (d0 _ _ z0) (.cons (d0 _ _ A0) (.cons (d0 _ _ D0) (.cons (d0 _ _ G0) (.cons (d0 _ _ L0) (.cons (d0 _ _ M0) .nil))))))))))))))))) (by kernel_rfl) (by kernel_rfl) (by kernel_rfl) (by kernel_rfl) (wg (xw (rg 4 6) (zz172 g_ A X H0 [(1,.I n_),(2,.B 4 0),(6,.S 23),(8,.I i),(42,.S 12),(43,.I (A.length:Int)),(44,.I Y),(64,.S 14),(66,.S 2),(67,.I Z)]) J 4 ?_))
   obtain ⟨O0,R0,h⟩:=ob h
   refine wj oO2 J R0 Q Q Q Q Q Q Q Q Q (xw [7,8,9] ⟨[(1,.I n_),(2,.B 4 0),(6,.S 23),(8,.I i),(42,.S 12),(43,.I (A.length:Int)),(44,.I Y),(64,.S 14),(70,.I O0.To)],[(4,.box (cC4 0 1 2 3 g_) 27),(12,.own (rI .i64) A true),(14,.own (rI .i64) X true),(23,.own (rSl rR6) H0 true)],(vV4 0 1 2 3 g_ []),25⟩ J 2 (WPr.bs (cs:=[.I O0.To]) (oI .i64) J ([O0.To]:List Int) Q Q Q Q Q Q (by kernel_rfl) (by exact (an Q Q)) rfl ?_))
   obtain ⟨S0,T0,h⟩:=ob h
   exact WPr.app J T0 (by exact (srcO rfl)) Q Q Q Q Q Q Q Q Q Q (wx ⟨[(1,.I n_),(2,.B 4 0),(6,.S 23),(7,.S 26),(8,.I i),(42,.S 12),(43,.I (A.length:Int)),(44,.I Y)],[(4,.box (cC4 0 1 2 3 g_) 27),(12,.own (rI .i64) A true),(23,.own (rSl rR6) H0 true),(26,.own (rI .i64) S0 true)],(vV4 0 1 2 3 g_ []),27⟩ J 1 (wn (wb (wS J 2 Q (wu [(13,.sl 23),(14,.sl 26)] (ih21 (H0,S0,(w64 (Y+1))) h) Q Q Q Q)))))
  exact wu [(13,.sl 7),(14,.sl 8)] (ih N (f,g,0) h) Q Q Q Q
 exact wu [(7,.sl 5),(8,.sl 6)] (ih N (([([]:List T6)]:List (List T6)),([g_.Start]:List Int),0) h) Q Q Q Q
theorem z17_ct (N:Nat) (g_:T4) (state_:Int) (act_:T6) (r:Int × Bool) (h:z17 N g_ state_ act_=some r) :
 Fn Tryz.prog 17 ⟨4,[.a (cC4 0 1 2 3 g_),.I state_,.a (cC6 act_)],(vV4 0 1 2 3 g_ []),[],4,.t [.inl (.I r.1),.inl (.b r.2)],[],[]⟩:=by
 refine wF func17 Q Q (fun E F w=>?_)
 unfold z17 at h
 refine wV ⟨[(1,.I state_),(3,.B 4 0),(5,.B 5 0),(6,.I 0),(7,.O false)],[(4,.box (cC4 0 1 2 3 g_) 27),(5,.box (cC6 act_) 37)],(vV4 0 1 2 3 g_ []),6⟩ J 4 (wq (wV ⟨[(1,.I state_),(5,.B 5 0),(6,.I 0),(7,.O false),(11,.S 2),(12,.I (g_.Edges.length:Int)),(13,.I 0)],[(5,.box (cC6 act_) 37)],(vV4 0 1 2 3 g_ []),6⟩ J 4 ?_))
 refine wC (σ:=Unit) (fun st=>⟨[],[],(vV4 0 1 2 3 g_ []),6⟩) (fun st=>z17_k1=some r) ?_ (fun j1=>?_)
 ·intro _ h
  replace h:z17_k1=some r:=h
  unfold z17_k1 at h
  refine wR J 2 Q ?_
  cases h
  exact we J func17 [] Q Q Q Q
 refine wo ?_
 refine wI (σ:=Int) (fun st=>⟨[(1,.I state_),(5,.B 5 0),(11,.S 2),(12,.I (g_.Edges.length:Int)),(13,.I st)],[(5,.box (cC6 act_) 37)],(vV4 0 1 2 3 g_ []),6⟩) (fun n st=>z17_l2 g_ state_ act_ n st) (r:=r) (fun _=>rfl) ?_ (fun ih=>?_)
 ·intro n2 ih3
  intro c h
  replace h:z17_l2 g_ state_ act_ (n2+1) c=some r:=h
  unfold z17_l2 at h
  refine wR J 1 Q (wq ?_)
  obtain ⟨K,h⟩|⟨K,h⟩:=oc' h
  ·exact wf K Q (wz rfl (wU (j1 () h)))
  refine wt K Q (wi (wq (wo (wq (wg ?_)))))
  obtain ⟨x9,d,h⟩:=ob h
  refine wj oO2 J d Q Q Q Q Q Q Q Q Q (wx (zz108 act_ x9 g_ [(1,.I state_),(5,.B 5 0),(9,.B 7 0),(11,.S 2),(12,.I (g_.Edges.length:Int)),(13,.I c)]) J 3 (wn (wq (wg (xw [5,6,7,8,9] (zz108 act_ x9 g_ [(1,.I state_),(5,.B 5 0),(9,.B 7 0),(11,.S 2),(12,.I (g_.Edges.length:Int)),(13,.I c),(21,.O (x9.From==state_))]) J 5 ?_)))))
  obtain ⟨K,h⟩|⟨K,h⟩:=oc' h
  ·exact wy 21 K Q (wx (zz108 act_ x9 g_ [(1,.I state_),(5,.B 5 0),(9,.B 7 0),(11,.S 2),(12,.I (g_.Edges.length:Int)),(13,.I c),(26,.O false)]) J 5 (wn (wf Q Q (wi (wb (wS J 2 Q (wU (ih3 (w64 (c+1)) h))))))))
  refine wy 21 K Q (xw [8,9] (zz108 act_ x9 g_ [(1,.I state_),(5,.B 5 0),(9,.B 7 0),(11,.S 2),(12,.I (g_.Edges.length:Int)),(13,.I c),(21,.O true),(23,.a (cC6 x9.Act)),(24,.a (cC6 act_))]) J 3 (WPr.eqa (neg:=false) (equal_run (b:=((x9.Act.From==act_.From) && ((x9.Act.To==act_.To) && ((x9.Act.Label==act_.Label) && true)))) (by kernel_rfl) (by kernel_rfl)) (by kernel_rfl) Q Q Q Q Q Q Q (ws J 1 Q (wn ?_))))
  obtain ⟨K,h⟩|⟨K,h⟩:=oc h
  ·refine wt K Q (wV ⟨[(6,.I x9.To),(7,.O true)],[],(vV4 0 1 2 3 g_ []),8⟩ J 4 ?_)
   cases h
   exact we J func17 [] Q Q Q Q
  exact wf K Q (wi (wb (wT ⟨[(1,.I state_),(5,.B 5 0),(11,.S 2),(12,.I (g_.Edges.length:Int)),(13,.I (w64 (c+1)))],[(5,.box (cC6 act_) 37)],(vV4 0 1 2 3 g_ []),8⟩ J 2 (wU (ih3 (w64 (c+1)) h)))))
 exact wU (ih N 0 h)
theorem z68_ct (N:Nat) (s1_:(List ByteArray)) (s2_:(List ByteArray)) (r:Bool) (h:z68 N s1_ s2_=some r) :
 Fn Tryz.prog 68 ⟨2,[.S 0,.S 1],[(0,.sl rS s1_),(1,.sl rS s2_)],[],2,.O r,[],[]⟩:=by
 refine wF func68 Q Q (fun E F w=>?_)
 unfold z68 at h
 refine wR J 1 Q (wq (wV (zz82 s1_ s2_ [(0,.S 0),(1,.S 1),(4,.O false),(10,.O ((s1_.length:Int) != (s2_.length:Int)))]) J 5 ?_))
 obtain ⟨K,h⟩|⟨K,h⟩:=oc h
 ·refine wt K Q (wR J 1 Q ?_)
  cases h
  exact we J func68 [] Q Q Q Q
 refine wf K Q (wi (wq (wV (zz82 s1_ s2_ [(0,.S 0),(1,.S 1),(4,.O false),(12,.I (s1_.length:Int)),(13,.I 0)]) J 3 ?_)))
 refine wC (σ:=Unit) (fun st=>(zz82 s1_ s2_ [])) (fun st=>z68_k1=some r) ?_ (fun j1=>?_)
 ·intro _ h
  replace h:z68_k1=some r:=h
  unfold z68_k1 at h
  refine wR J 1 Q ?_
  cases h
  exact we J func68 [] Q Q Q Q
 refine wo ?_
 refine wI (σ:=Int) (fun st=>(zz82 s1_ s2_ [(0,.S 0),(1,.S 1),(12,.I (s1_.length:Int)),(13,.I st)])) (fun n st=>z68_l2 s1_ s2_ n st) (r:=r) (fun _=>rfl) ?_ (fun ih=>?_)
 ·intro n2 ih3
  intro d h
  replace h:z68_l2 s1_ s2_ (n2+1) d=some r:=h
  unfold z68_l2 at h
  refine wR J 1 Q (wq ?_)
  obtain ⟨K,h⟩|⟨K,h⟩:=oc' h
  ·exact wf K Q (wz rfl (wU (j1 () h)))
  refine wt K Q (wi (wq (wo (wV (zz82 s1_ s2_ [(0,.S 0),(1,.S 1),(5,.I d),(12,.I (s1_.length:Int)),(13,.I d)]) J 2 (wq (wQ (by kernel_rfl) (by kernel_rfl) (WPq.sil J 2 rfl ?_)))))))
  obtain ⟨e,f,h⟩:=ob h
  refine WPq.op Q Q (VN.vs (VN.ix oS J f Q Q Q Q Q Q Q)) (xq [6,7,8] ⟨[(0,.S 0),(1,.S 1),(12,.I (s1_.length:Int)),(13,.I d),(19,.c (.s e)),(20,.S 1),(21,.I d)],[],[(0,.sl rS s1_),(1,.sl rS s2_)],3⟩ J 3 ?_)
  obtain ⟨g,i,h⟩:=ob h
  refine WPq.op Q Q (VN.vs (VN.ix oS J i Q Q Q Q Q Q Q)) (qx ⟨[(0,.S 0),(1,.S 1),(12,.I (s1_.length:Int)),(13,.I d),(24,.O (!(e.toList==g.toList)))],[],[(0,.sl rS s1_),(1,.sl rS s2_)],4⟩ J 2 (qn ?_))
  obtain ⟨K,h⟩|⟨K,h⟩:=oc h
  ·refine wt K Q (wR J 1 Q ?_)
   cases h
   exact we J func68 [] Q Q Q Q
  exact wf K Q (wi (wb (wS J 2 Q (wU (ih3 (w64 (d+1)) h)))))
 exact wU (ih N 0 h)
theorem z124_ct (N:Nat) (s1_:(List T3)) (s2_:(List T3)) (r:Bool) (h:z124 N s1_ s2_=some r) :
 Fn Tryz.prog 124 ⟨2,[.S 0,.S 1],[(0,.sl rR3 s1_),(1,.sl rR3 s2_)],[],2,.O r,[],[]⟩:=by
 refine wF func124 Q Q (fun E F w=>?_)
 unfold z124 at h
 refine wR J 1 Q (wq (wV (zz83 s1_ s2_ [(0,.S 0),(1,.S 1),(4,.O false),(10,.O ((s1_.length:Int) != (s2_.length:Int)))]) J 5 ?_))
 obtain ⟨K,h⟩|⟨K,h⟩:=oc h
 ·refine wt K Q (wR J 1 Q ?_)
  cases h
  exact we J func124 [] Q Q Q Q
 refine wf K Q (wi (wq (wV (zz83 s1_ s2_ [(0,.S 0),(1,.S 1),(4,.O false),(12,.I (s1_.length:Int)),(13,.I 0)]) J 3 ?_)))
 refine wC (σ:=Unit) (fun st=>(zz83 s1_ s2_ [])) (fun st=>z124_k1=some r) ?_ (fun j1=>?_)
 ·intro _ h
  replace h:z124_k1=some r:=h
  unfold z124_k1 at h
  refine wR J 1 Q ?_
  cases h
  exact we J func124 [] Q Q Q Q
 refine wo ?_
 refine wI (σ:=Int) (fun st=>(zz83 s1_ s2_ [(0,.S 0),(1,.S 1),(12,.I (s1_.length:Int)),(13,.I st)])) (fun n st=>z124_l2 s1_ s2_ n st) (r:=r) (fun _=>rfl) ?_ (fun ih=>?_)
 ·intro n2 ih3
  intro c h
  replace h:z124_l2 s1_ s2_ (n2+1) c=some r:=h
  unfold z124_l2 at h
  refine wR J 1 Q (wq ?_)
  obtain ⟨K,h⟩|⟨K,h⟩:=oc' h
  ·exact wf K Q (wz rfl (wU (j1 () h)))
  refine wt K Q (wi (wq (wo (wV (zz83 s1_ s2_ [(0,.S 0),(1,.S 1),(5,.I c),(12,.I (s1_.length:Int)),(13,.I c)]) J 2 (wq (wQ (by kernel_rfl) (by kernel_rfl) (WPq.sil J 2 rfl ?_)))))))
  obtain ⟨d,e,h⟩:=ob h
  refine WPq.op Q Q (VN.vs (VN.ix oO3 J e Q Q Q Q Q Q Q)) (xq [6,7,8] ⟨[(0,.S 0),(1,.S 1),(12,.I (s1_.length:Int)),(13,.I c),(19,.a (cC3 d)),(20,.S 1),(21,.I c)],[],[(0,.sl rR3 s1_),(1,.sl rR3 s2_)],3⟩ J 3 ?_)
  obtain ⟨f,g,h⟩:=ob h
  refine WPq.op Q Q (VN.vs (VN.ix oO3 J g Q Q Q Q Q Q Q)) (WPq.sil J 1 rfl (WPq.op Q Q (VN.vs (VN.eqa (neg:=true) (equal_run (b:=((d.Name.toList==f.Name.toList) && (((d.Sort'.Kind==f.Sort'.Kind) && ((d.Sort'.Lo==f.Sort'.Lo) && ((d.Sort'.Hi==f.Sort'.Hi) && true))) && true))) (by kernel_rfl) (by kernel_rfl)) (by kernel_rfl) Q Q Q Q Q)) (qx ⟨[(0,.S 0),(1,.S 1),(12,.I (s1_.length:Int)),(13,.I c),(24,.O (!((d.Name.toList==f.Name.toList) && (((d.Sort'.Kind==f.Sort'.Kind) && ((d.Sort'.Lo==f.Sort'.Lo) && ((d.Sort'.Hi==f.Sort'.Hi) && true))) && true))))],[],[(0,.sl rR3 s1_),(1,.sl rR3 s2_)],4⟩ J 0 (qn ?_))))
  obtain ⟨K,h⟩|⟨K,h⟩:=oc h
  ·refine wt K Q (wR J 1 Q ?_)
   cases h
   exact we J func124 [] Q Q Q Q
  exact wf K Q (wi (wb (wS J 2 Q (wU (ih3 (w64 (c+1)) h)))))
 exact wU (ih N 0 h)
theorem z125_ct (N:Nat) (s1_:(List T1)) (s2_:(List T1)) (r:Bool) (h:z125 N s1_ s2_=some r) :
 Fn Tryz.prog 125 ⟨2,[.S 0,.S 1],[(0,.sl rR1 s1_),(1,.sl rR1 s2_)],[],2,.O r,[],[]⟩:=by
 refine wF func125 Q Q (fun E F w=>?_)
 unfold z125 at h
 refine wR J 1 Q (wq (wV (zz38 s1_ s2_ [(0,.S 0),(1,.S 1),(4,.O false),(10,.O ((s1_.length:Int) != (s2_.length:Int)))]) J 5 ?_))
 obtain ⟨K,h⟩|⟨K,h⟩:=oc h
 ·refine wt K Q (wR J 1 Q ?_)
  cases h
  exact we J func125 [] Q Q Q Q
 refine wf K Q (wi (wq (wV (zz38 s1_ s2_ [(0,.S 0),(1,.S 1),(4,.O false),(12,.I (s1_.length:Int)),(13,.I 0)]) J 3 ?_)))
 refine wC (σ:=Unit) (fun st=>(zz38 s1_ s2_ [])) (fun st=>z125_k1=some r) ?_ (fun j1=>?_)
 ·intro _ h
  replace h:z125_k1=some r:=h
  unfold z125_k1 at h
  refine wR J 1 Q ?_
  cases h
  exact we J func125 [] Q Q Q Q
 refine wo ?_
 refine wI (σ:=Int) (fun st=>(zz38 s1_ s2_ [(0,.S 0),(1,.S 1),(12,.I (s1_.length:Int)),(13,.I st)])) (fun n st=>z125_l2 s1_ s2_ n st) (r:=r) (fun _=>rfl) ?_ (fun ih=>?_)
 ·intro n2 ih3
  intro c h
  replace h:z125_l2 s1_ s2_ (n2+1) c=some r:=h
  unfold z125_l2 at h
  refine wR J 1 Q (wq ?_)
  obtain ⟨K,h⟩|⟨K,h⟩:=oc' h
  ·exact wf K Q (wz rfl (wU (j1 () h)))
  refine wt K Q (wi (wq (wo (wV (zz38 s1_ s2_ [(0,.S 0),(1,.S 1),(5,.I c),(12,.I (s1_.length:Int)),(13,.I c)]) J 2 (wq (wQ (by kernel_rfl) (by kernel_rfl) (WPq.sil J 2 rfl ?_)))))))
  obtain ⟨d,e,h⟩:=ob h
  refine WPq.op Q Q (VN.vs (VN.ix oO1 J e Q Q Q Q Q Q Q)) (xq [6,7,8] ⟨[(0,.S 0),(1,.S 1),(12,.I (s1_.length:Int)),(13,.I c),(19,.a (cC1 d)),(20,.S 1),(21,.I c)],[],[(0,.sl rR1 s1_),(1,.sl rR1 s2_)],3⟩ J 3 ?_)
  obtain ⟨f,g,h⟩:=ob h
  refine WPq.op Q Q (VN.vs (VN.ix oO1 J g Q Q Q Q Q Q Q)) (WPq.sil J 1 rfl (WPq.op Q Q (VN.vs (VN.eqa (neg:=true) (equal_run (b:=((d.X==f.X) && ((d.Y==f.Y) && ((d.C==f.C) && true)))) (by kernel_rfl) (by kernel_rfl)) (by kernel_rfl) Q Q Q Q Q)) (qx ⟨[(0,.S 0),(1,.S 1),(12,.I (s1_.length:Int)),(13,.I c),(24,.O (!((d.X==f.X) && ((d.Y==f.Y) && ((d.C==f.C) && true)))))],[],[(0,.sl rR1 s1_),(1,.sl rR1 s2_)],4⟩ J 0 (qn ?_))))
  obtain ⟨K,h⟩|⟨K,h⟩:=oc h
  ·refine wt K Q (wR J 1 Q ?_)
   cases h
   exact we J func125 [] Q Q Q Q
  exact wf K Q (wi (wb (wS J 2 Q (wU (ih3 (w64 (c+1)) h)))))
 exact wU (ih N 0 h)
theorem z126_ct (N:Nat) (s1_:(List (Int × Int))) (s2_:(List (Int × Int))) (r:Bool) (h:z126 N s1_ s2_=some r) :
 Fn Tryz.prog 126 ⟨2,[.S 0,.S 1],[(0,.sl (rP (rI .i64) (rI .i64)) s1_),(1,.sl (rP (rI .i64) (rI .i64)) s2_)],[],2,.O r,[],[]⟩:=by
 refine wF func126 Q Q (fun E F w=>?_)
 unfold z126 at h
 refine wR J 1 Q (wq (wV (zz84 s1_ s2_ [(0,.S 0),(1,.S 1),(4,.O false),(10,.O ((s1_.length:Int) != (s2_.length:Int)))]) J 5 ?_))
 obtain ⟨K,h⟩|⟨K,h⟩:=oc h
 ·refine wt K Q (wR J 1 Q ?_)
  cases h
  exact we J func126 [] Q Q Q Q
 refine wf K Q (wi (wq (wV (zz84 s1_ s2_ [(0,.S 0),(1,.S 1),(4,.O false),(12,.I (s1_.length:Int)),(13,.I 0)]) J 3 ?_)))
 refine wC (σ:=Unit) (fun st=>(zz84 s1_ s2_ [])) (fun st=>z126_k1=some r) ?_ (fun j1=>?_)
 ·intro _ h
  replace h:z126_k1=some r:=h
  unfold z126_k1 at h
  refine wR J 1 Q ?_
  cases h
  exact we J func126 [] Q Q Q Q
 refine wo ?_
 refine wI (σ:=Int) (fun st=>(zz84 s1_ s2_ [(0,.S 0),(1,.S 1),(12,.I (s1_.length:Int)),(13,.I st)])) (fun n st=>z126_l2 s1_ s2_ n st) (r:=r) (fun _=>rfl) ?_ (fun ih=>?_)
 ·intro n2 ih3
  intro c h
  replace h:z126_l2 s1_ s2_ (n2+1) c=some r:=h
  unfold z126_l2 at h
  refine wR J 1 Q (wq ?_)
  obtain ⟨K,h⟩|⟨K,h⟩:=oc' h
  ·exact wf K Q (wz rfl (wU (j1 () h)))
  refine wt K Q (wi (wq (wo (wV (zz84 s1_ s2_ [(0,.S 0),(1,.S 1),(5,.I c),(12,.I (s1_.length:Int)),(13,.I c)]) J 2 (wq (wQ (by kernel_rfl) (by kernel_rfl) (WPq.sil J 2 rfl ?_)))))))
  obtain ⟨d,e,h⟩:=ob h
  refine WPq.op Q Q (VN.vs (VN.ix (oP (oI .i64) (oI .i64)) J e Q Q Q Q Q Q Q)) (xq [6,7,8] ⟨[(0,.S 0),(1,.S 1),(12,.I (s1_.length:Int)),(13,.I c),(19,.a [.I d.1,.I d.2]),(20,.S 1),(21,.I c)],[],[(0,.sl (rP (rI .i64) (rI .i64)) s1_),(1,.sl (rP (rI .i64) (rI .i64)) s2_)],3⟩ J 3 ?_)
  obtain ⟨f,g,h⟩:=ob h
  refine WPq.op Q Q (VN.vs (VN.ix (oP (oI .i64) (oI .i64)) J g Q Q Q Q Q Q Q)) (WPq.sil J 1 rfl (WPq.op Q Q (VN.vs (VN.eqa (neg:=true) (equal_run (b:=((d.1==f.1) && ((d.2==f.2) && true))) (by kernel_rfl) (by kernel_rfl)) (by kernel_rfl) Q Q Q Q Q)) (qx ⟨[(0,.S 0),(1,.S 1),(12,.I (s1_.length:Int)),(13,.I c),(24,.O (!((d.1==f.1) && ((d.2==f.2) && true))))],[],[(0,.sl (rP (rI .i64) (rI .i64)) s1_),(1,.sl (rP (rI .i64) (rI .i64)) s2_)],4⟩ J 0 (qn ?_))))
  obtain ⟨K,h⟩|⟨K,h⟩:=oc h
  ·refine wt K Q (wR J 1 Q ?_)
   cases h
   exact we J func126 [] Q Q Q Q
  exact wf K Q (wi (wb (wS J 2 Q (wU (ih3 (w64 (c+1)) h)))))
 exact wU (ih N 0 h)
theorem z70_ct (N:Nat) (a_:T0) (b_:T0) (r:Bool) (h:z70 N a_ b_=some r) :
 Fn Tryz.prog 70 ⟨6,[.a (cC0 0 1 2 a_),.a (cC0 3 4 5 b_)],(vV0 0 1 2 a_ (vV0 3 4 5 b_ [])),[],6,.O r,[],[]⟩:=by
 refine wF func70 Q Q (fun E F w=>?_)
 unfold z70 at h
 refine wV (zz56 a_ b_ [(2,.B 6 0),(3,.B 7 0),(4,.O false)]) J 3 (wq (wg (xw (rg 6 32) (zz56 a_ b_ [(2,.B 6 0),(3,.B 7 0),(10,.O (a_.Name.toList==b_.Name.toList))]) J 6 ?_)))
 obtain ⟨K,h⟩|⟨K,h⟩:=oc' h
 ·refine wy 10 K Q (wx (zz65 a_ b_ [(4,.O false)]) J 32 (wn ?_))
  cases h
  exact we J func70 [] Q Q Q Q
 refine wy 10 K Q (xw (rg 13 25) (zz56 a_ b_ [(2,.B 6 0),(3,.B 7 0),(17,.O (a_.First==b_.First))]) J 7 ?_)
 obtain ⟨K,h⟩|⟨K,h⟩:=oc' h
 ·refine wy 17 K Q (wx (zz65 a_ b_ [(4,.O false)]) J 25 (wn ?_))
  cases h
  exact we J func70 [] Q Q Q Q
 refine wy 17 K Q (xw (rg 17 21) (zz56 a_ b_ [(2,.B 6 0),(3,.B 7 0),(17,.O true),(19,.S 0),(21,.S 3)]) J 4 ?_)
 obtain ⟨x1,c,h⟩:=ob h
 refine wc (z124_ct N a_.Fields b_.Fields _ c) [(0,.sl 0),(1,.sl 3)] [] Q Q Q Q Q Q Q Q (.inl rfl) rfl (xw (rg 20 18) (zz56 a_ b_ [(2,.B 6 0),(3,.B 7 0),(24,.O x1)]) J 2 ?_)
 obtain ⟨K,h⟩|⟨K,h⟩:=oc' h
 ·refine wy 24 K Q (wx (zz65 a_ b_ [(4,.O false)]) J 18 (wn ?_))
  cases h
  exact we J func70 [] Q Q Q Q
 refine wy 24 K Q (xw (rg 26 12) (zz56 a_ b_ [(2,.B 6 0),(3,.B 7 0),(24,.O true),(27,.S 1),(30,.S 4)]) J 6 ?_)
 obtain ⟨x2,d,h⟩:=ob h
 refine wc (z125_ct N a_.Guard.Diffs b_.Guard.Diffs _ d) [(0,.sl 1),(1,.sl 4)] [] Q Q Q Q Q Q Q Q (.inl rfl) rfl (xw (rg 29 9) (zz56 a_ b_ [(2,.B 6 0),(3,.B 7 0),(33,.O x2)]) J 2 ?_)
 obtain ⟨K,h⟩|⟨K,h⟩:=oc' h
 ·refine wy 33 K Q (wx (zz65 a_ b_ [(4,.O false)]) J 9 (wn ?_))
  cases h
  exact we J func70 [] Q Q Q Q
 refine wy 33 K Q (xw [35,36,37] (zz65 a_ b_ [(33,.O true),(36,.S 2),(39,.S 5)]) J 6 ?_)
 obtain ⟨x3,e,h⟩:=ob h
 refine wc (z126_ct N a_.Guard.Equals b_.Guard.Equals _ e) [(0,.sl 2),(1,.sl 5)] [] Q Q Q Q Q Q Q Q (.inl rfl) rfl (wx (zz65 a_ b_ [(4,.O x3)]) J 2 (wn ?_))
 cases h
 exact we J func70 [] Q Q Q Q
theorem z69_15_ct (N:Nat) (s1_:(List T0)) (s2_:(List T0)) (r:Bool) (h:z69_15 N s1_ s2_=some r) :
 Fn Tryz.prog 69 ⟨2,[.S 0,.S 1,.c (.cl 70 [] [])],[(0,.sl rR0 s1_),(1,.sl rR0 s2_)],[],2,.O r,[],[]⟩:=by
 refine wF func69 Q Q (fun E F w=>?_)
 unfold z69_15 at h
 refine wR J 1 Q (wq (wV (zz46 s1_ s2_ [(0,.S 0),(1,.S 1),(2,.c (.cl 70 [] [])),(6,.O false),(14,.O ((s1_.length:Int) != (s2_.length:Int)))]) J 5 ?_))
 obtain ⟨K,h⟩|⟨K,h⟩:=oc h
 ·refine wt K Q (wR J 1 Q ?_)
  cases h
  exact we J func69 [] Q Q Q Q
 refine wf K Q (wi (wq (wV (zz46 s1_ s2_ [(1,.S 1),(2,.c (.cl 70 [] [])),(6,.O false),(15,.S 0),(16,.I (s1_.length:Int)),(17,.I 0)]) J 3 ?_)))
 refine wC (σ:=Unit) (fun st=>(zz46 s1_ s2_ [])) (fun st=>z69_15_k1=some r) ?_ (fun j1=>?_)
 ·intro _ h
  replace h:z69_15_k1=some r:=h
  unfold z69_15_k1 at h
  refine wR J 1 Q ?_
  cases h
  exact we J func69 [] Q Q Q Q
 refine wo ?_
 refine wI (σ:=Int) (fun st=>(zz46 s1_ s2_ [(1,.S 1),(2,.c (.cl 70 [] [])),(15,.S 0),(16,.I (s1_.length:Int)),(17,.I st)])) (fun n st=>z69_15_l2 N s1_ s2_ n st) (r:=r) (fun _=>rfl) ?_ (fun ih=>?_)
 ·intro n2 ih3
  intro d h
  replace h:z69_15_l2 N s1_ s2_ (n2+1) d=some r:=h
  unfold z69_15_l2 at h
  refine wR J 1 Q (wq ?_)
  obtain ⟨K,h⟩|⟨K,h⟩:=oc' h
  ·exact wf K Q (wz rfl (wU (j1 () h)))
  refine wt K Q (wi (wq (wo (wq (wg (ws J 1 Q ?_))))))
  obtain ⟨e,f,h⟩:=ob h
  refine wj oO0 J f Q Q Q Q Q Q Q Q Q (wx ⟨[(1,.S 1),(2,.c (.cl 70 [] [])),(7,.I d),(8,.B 6 0),(15,.S 0),(16,.I (s1_.length:Int)),(17,.I d)],[(6,.box (cC0 3 4 5 e) 94)],((0,.sl rR0 s1_)::(1,.sl rR0 s2_)::vV0 3 4 5 e []),7⟩ J 4 (wn (wq (wg (ws J 2 Q ?_)))))
  obtain ⟨g,i,h⟩:=ob h
  refine wj oO0 J i Q Q Q Q Q Q Q Q Q (wx ⟨[(1,.S 1),(2,.c (.cl 70 [] [])),(8,.B 6 0),(9,.B 11 0),(15,.S 0),(16,.I (s1_.length:Int)),(17,.I d)],[(6,.box (cC0 3 4 5 e) 94),(11,.box (cC0 8 9 10 g) 94)],((0,.sl rR0 s1_)::(1,.sl rR0 s2_)::vV0 3 4 5 e (vV0 8 9 10 g [])),12⟩ J 3 (wn (wq (wg (xw [3,4] ⟨[(1,.S 1),(2,.c (.cl 70 [] [])),(15,.S 0),(16,.I (s1_.length:Int)),(17,.I d),(26,.c (.cl 70 [] [])),(27,.a (cC0 3 4 5 e)),(28,.a (cC0 8 9 10 g))],[],((0,.sl rR0 s1_)::(1,.sl rR0 s2_)::vV0 3 4 5 e (vV0 8 9 10 g [])),12⟩ J 3 ?_)))))
  obtain ⟨j,k,h⟩:=ob h
  refine WPr.callc (z70_ct N e g _ k) [(0,.sl 3),(1,.sl 4),(2,.sl 5),(3,.sl 8),(4,.sl 9),(5,.sl 10)] [] Q Q Q Q Q Q Q Q Q (.inl rfl) rfl (wx ⟨[(1,.S 1),(2,.c (.cl 70 [] [])),(15,.S 0),(16,.I (s1_.length:Int)),(17,.I d),(30,.O (!j))],[],[(0,.sl rR0 s1_),(1,.sl rR0 s2_)],12⟩ J 1 (wn ?_))
  obtain ⟨K,h⟩|⟨K,h⟩:=oc h
  ·refine wt K Q (wR J 1 Q ?_)
   cases h
   exact we J func69 [] Q Q Q Q
  exact wf K Q (wi (wb (wS J 2 Q (wU (ih3 (w64 (d+1)) h)))))
 exact wU (ih N 0 h)
theorem z71_ct (N:Nat) (s1_:(List T2)) (s2_:(List T2)) (r:Bool) (h:z71 N s1_ s2_=some r) :
 Fn Tryz.prog 71 ⟨2,[.S 0,.S 1],[(0,.sl rR2 s1_),(1,.sl rR2 s2_)],[],2,.O r,[],[]⟩:=by
 refine wF func71 Q Q (fun E F w=>?_)
 unfold z71 at h
 refine wR J 1 Q (wq (wV (zz85 s1_ s2_ [(0,.S 0),(1,.S 1),(4,.O false),(10,.O ((s1_.length:Int) != (s2_.length:Int)))]) J 5 ?_))
 obtain ⟨K,h⟩|⟨K,h⟩:=oc h
 ·refine wt K Q (wR J 1 Q ?_)
  cases h
  exact we J func71 [] Q Q Q Q
 refine wf K Q (wi (wq (wV (zz85 s1_ s2_ [(0,.S 0),(1,.S 1),(4,.O false),(12,.I (s1_.length:Int)),(13,.I 0)]) J 3 ?_)))
 refine wC (σ:=Unit) (fun st=>(zz85 s1_ s2_ [])) (fun st=>z71_k1=some r) ?_ (fun j1=>?_)
 ·intro _ h
  replace h:z71_k1=some r:=h
  unfold z71_k1 at h
  refine wR J 1 Q ?_
  cases h
  exact we J func71 [] Q Q Q Q
 refine wo ?_
 refine wI (σ:=Int) (fun st=>(zz85 s1_ s2_ [(0,.S 0),(1,.S 1),(12,.I (s1_.length:Int)),(13,.I st)])) (fun n st=>z71_l2 s1_ s2_ n st) (r:=r) (fun _=>rfl) ?_ (fun ih=>?_)
 ·intro n2 ih3
  intro c h
  replace h:z71_l2 s1_ s2_ (n2+1) c=some r:=h
  unfold z71_l2 at h
  refine wR J 1 Q (wq ?_)
  obtain ⟨K,h⟩|⟨K,h⟩:=oc' h
  ·exact wf K Q (wz rfl (wU (j1 () h)))
  refine wt K Q (wi (wq (wo (wV (zz85 s1_ s2_ [(0,.S 0),(1,.S 1),(5,.I c),(12,.I (s1_.length:Int)),(13,.I c)]) J 2 (wq (wQ (by kernel_rfl) (by kernel_rfl) (WPq.sil J 2 rfl ?_)))))))
  obtain ⟨d,e,h⟩:=ob h
  refine WPq.op Q Q (VN.vs (VN.ix oO2 J e Q Q Q Q Q Q Q)) (xq [6,7,8] ⟨[(0,.S 0),(1,.S 1),(12,.I (s1_.length:Int)),(13,.I c),(19,.a (cC2 d)),(20,.S 1),(21,.I c)],[],[(0,.sl rR2 s1_),(1,.sl rR2 s2_)],3⟩ J 3 ?_)
  obtain ⟨f,g,h⟩:=ob h
  refine WPq.op Q Q (VN.vs (VN.ix oO2 J g Q Q Q Q Q Q Q)) (WPq.sil J 1 rfl (WPq.op Q Q (VN.vs (VN.eqa (neg:=true) (equal_run (b:=((d.From==f.From) && (((d.Act.From==f.Act.From) && ((d.Act.To==f.Act.To) && ((d.Act.Label==f.Act.Label) && true))) && ((d.To==f.To) && ((d.Again==f.Again) && true))))) (by kernel_rfl) (by kernel_rfl)) (by kernel_rfl) Q Q Q Q Q)) (qx ⟨[(0,.S 0),(1,.S 1),(12,.I (s1_.length:Int)),(13,.I c),(24,.O (!((d.From==f.From) && (((d.Act.From==f.Act.From) && ((d.Act.To==f.Act.To) && ((d.Act.Label==f.Act.Label) && true))) && ((d.To==f.To) && ((d.Again==f.Again) && true))))))],[],[(0,.sl rR2 s1_),(1,.sl rR2 s2_)],4⟩ J 0 (qn ?_))))
  obtain ⟨K,h⟩|⟨K,h⟩:=oc h
  ·refine wt K Q (wR J 1 Q ?_)
   cases h
   exact we J func71 [] Q Q Q Q
  exact wf K Q (wi (wb (wS J 2 Q (wU (ih3 (w64 (c+1)) h)))))
 exact wU (ih N 0 h)
theorem z72_ct (N:Nat) (s1_:(List T8)) (s2_:(List T8)) (r:Bool) (h:z72 N s1_ s2_=some r) :
 Fn Tryz.prog 72 ⟨2,[.S 0,.S 1],[(0,.sl rR8 s1_),(1,.sl rR8 s2_)],[],2,.O r,[],[]⟩:=by
 refine wF func72 Q Q (fun E F w=>?_)
 unfold z72 at h
 refine wR J 1 Q (wq (wV (zz86 s1_ s2_ [(0,.S 0),(1,.S 1),(4,.O false),(10,.O ((s1_.length:Int) != (s2_.length:Int)))]) J 5 ?_))
 obtain ⟨K,h⟩|⟨K,h⟩:=oc h
 ·refine wt K Q (wR J 1 Q ?_)
  cases h
  exact we J func72 [] Q Q Q Q
 refine wf K Q (wi (wq (wV (zz86 s1_ s2_ [(0,.S 0),(1,.S 1),(4,.O false),(12,.I (s1_.length:Int)),(13,.I 0)]) J 3 ?_)))
 refine wC (σ:=Unit) (fun st=>(zz86 s1_ s2_ [])) (fun st=>z72_k1=some r) ?_ (fun j1=>?_)
 ·intro _ h
  replace h:z72_k1=some r:=h
  unfold z72_k1 at h
  refine wR J 1 Q ?_
  cases h
  exact we J func72 [] Q Q Q Q
 refine wo ?_
 refine wI (σ:=Int) (fun st=>(zz86 s1_ s2_ [(0,.S 0),(1,.S 1),(12,.I (s1_.length:Int)),(13,.I st)])) (fun n st=>z72_l2 s1_ s2_ n st) (r:=r) (fun _=>rfl) ?_ (fun ih=>?_)
 ·intro n2 ih3
  intro c h
  replace h:z72_l2 s1_ s2_ (n2+1) c=some r:=h
  unfold z72_l2 at h
  refine wR J 1 Q (wq ?_)
  obtain ⟨K,h⟩|⟨K,h⟩:=oc' h
  ·exact wf K Q (wz rfl (wU (j1 () h)))
  refine wt K Q (wi (wq (wo (wV (zz86 s1_ s2_ [(0,.S 0),(1,.S 1),(5,.I c),(12,.I (s1_.length:Int)),(13,.I c)]) J 2 (wq (wQ (by kernel_rfl) (by kernel_rfl) (WPq.sil J 2 rfl ?_)))))))
  obtain ⟨d,e,h⟩:=ob h
  refine WPq.op Q Q (VN.vs (VN.ix oO8 J e Q Q Q Q Q Q Q)) (xq [6,7,8] ⟨[(0,.S 0),(1,.S 1),(12,.I (s1_.length:Int)),(13,.I c),(19,.a (cC8 d)),(20,.S 1),(21,.I c)],[],[(0,.sl rR8 s1_),(1,.sl rR8 s2_)],3⟩ J 3 ?_)
  obtain ⟨f,g,h⟩:=ob h
  refine WPq.op Q Q (VN.vs (VN.ix oO8 J g Q Q Q Q Q Q Q)) (WPq.sil J 1 rfl (WPq.op Q Q (VN.vs (VN.eqa (neg:=true) (equal_run (b:=((d.State==f.State) && ((d.Ticks==f.Ticks) && ((d.Else==f.Else) && true)))) (by kernel_rfl) (by kernel_rfl)) (by kernel_rfl) Q Q Q Q Q)) (qx ⟨[(0,.S 0),(1,.S 1),(12,.I (s1_.length:Int)),(13,.I c),(24,.O (!((d.State==f.State) && ((d.Ticks==f.Ticks) && ((d.Else==f.Else) && true)))))],[],[(0,.sl rR8 s1_),(1,.sl rR8 s2_)],4⟩ J 0 (qn ?_))))
  obtain ⟨K,h⟩|⟨K,h⟩:=oc h
  ·refine wt K Q (wR J 1 Q ?_)
   cases h
   exact we J func72 [] Q Q Q Q
  exact wf K Q (wi (wb (wS J 2 Q (wU (ih3 (w64 (c+1)) h)))))
 exact wU (ih N 0 h)
theorem z23_ct (N:Nat) (a_:T4) (b_:T4) (r:Bool) (h:z23 N a_ b_=some r) :
 Fn Tryz.prog 23 ⟨8,[.a (cC4 0 1 2 3 a_),.a (cC4 4 5 6 7 b_)],(vV4 0 1 2 3 a_ (vV4 4 5 6 7 b_ [])),[],8,.O r,[],[]⟩:=by
 refine wF func23 Q Q (fun E F w=>?_)
 unfold z23 at h
 refine wV (zz5 a_ b_ [(2,.B 8 0),(3,.B 9 0),(4,.O false)]) J 3 (wq (wg (xw (rg 6 49) (zz5 a_ b_ [(2,.B 8 0),(3,.B 9 0),(10,.O (a_.Name.toList==b_.Name.toList))]) J 6 ?_)))
 obtain ⟨K,h⟩|⟨K,h⟩:=oc' h
 ·refine wy 10 K Q (wx (zz33 a_ b_ [(4,.O false)]) J 49 (wn ?_))
  cases h
  exact we J func23 [] Q Q Q Q
 refine wy 10 K Q (xw (rg 10 45) (zz5 a_ b_ [(2,.B 8 0),(3,.B 9 0),(10,.O true),(12,.S 0),(14,.S 4)]) J 4 ?_)
 obtain ⟨x1,c,h⟩:=ob h
 refine wc (z68_ct N a_.Roles b_.Roles _ c) [(0,.sl 0),(1,.sl 4)] [] Q Q Q Q Q Q Q Q (.inl rfl) rfl (xw (rg 13 42) (zz5 a_ b_ [(2,.B 8 0),(3,.B 9 0),(17,.O x1)]) J 2 ?_)
 obtain ⟨K,h⟩|⟨K,h⟩:=oc' h
 ·refine wy 17 K Q (wx (zz33 a_ b_ [(4,.O false)]) J 42 (wn ?_))
  cases h
  exact we J func23 [] Q Q Q Q
 refine wy 17 K Q (xw (rg 17 38) (zz5 a_ b_ [(2,.B 8 0),(3,.B 9 0),(17,.O true),(19,.S 1),(21,.S 5)]) J 4 ?_)
 obtain ⟨x2,d,h⟩:=ob h
 refine wc (z69_15_ct N a_.Decls b_.Decls _ d) [(0,.sl 1),(1,.sl 5)] [] Q Q Q Q Q Q Q Q (.inl rfl) rfl (xw (rg 20 35) (zz5 a_ b_ [(2,.B 8 0),(3,.B 9 0),(24,.O x2)]) J 2 ?_)
 obtain ⟨K,h⟩|⟨K,h⟩:=oc' h
 ·refine wy 24 K Q (wx (zz33 a_ b_ [(4,.O false)]) J 35 (wn ?_))
  cases h
  exact we J func23 [] Q Q Q Q
 refine wy 24 K Q (xw (rg 27 28) (zz5 a_ b_ [(2,.B 8 0),(3,.B 9 0),(31,.O (a_.States==b_.States))]) J 7 ?_)
 obtain ⟨K,h⟩|⟨K,h⟩:=oc' h
 ·refine wy 31 K Q (wx (zz33 a_ b_ [(4,.O false)]) J 28 (wn ?_))
  cases h
  exact we J func23 [] Q Q Q Q
 refine wy 31 K Q (xw (rg 34 21) (zz5 a_ b_ [(2,.B 8 0),(3,.B 9 0),(38,.O (a_.Start==b_.Start))]) J 7 ?_)
 obtain ⟨K,h⟩|⟨K,h⟩:=oc' h
 ·refine wy 38 K Q (wx (zz33 a_ b_ [(4,.O false)]) J 21 (wn ?_))
  cases h
  exact we J func23 [] Q Q Q Q
 refine wy 38 K Q (xw (rg 41 14) (zz5 a_ b_ [(2,.B 8 0),(3,.B 9 0),(45,.O (a_.End==b_.End))]) J 7 ?_)
 obtain ⟨K,h⟩|⟨K,h⟩:=oc' h
 ·refine wy 45 K Q (wx (zz33 a_ b_ [(4,.O false)]) J 14 (wn ?_))
  cases h
  exact we J func23 [] Q Q Q Q
 refine wy 45 K Q (xw (rg 45 10) (zz5 a_ b_ [(2,.B 8 0),(3,.B 9 0),(45,.O true),(47,.S 2),(49,.S 6)]) J 4 ?_)
 obtain ⟨x3,e,h⟩:=ob h
 refine wc (z71_ct N a_.Edges b_.Edges _ e) [(0,.sl 2),(1,.sl 6)] [] Q Q Q Q Q Q Q Q (.inl rfl) rfl (xw (rg 48 7) (zz5 a_ b_ [(2,.B 8 0),(3,.B 9 0),(52,.O x3)]) J 2 ?_)
 obtain ⟨K,h⟩|⟨K,h⟩:=oc' h
 ·refine wy 52 K Q (wx (zz33 a_ b_ [(4,.O false)]) J 7 (wn ?_))
  cases h
  exact we J func23 [] Q Q Q Q
 refine wy 52 K Q (xw [52,53,54] (zz33 a_ b_ [(52,.O true),(54,.S 3),(56,.S 7)]) J 4 ?_)
 obtain ⟨x4,f,h⟩:=ob h
 refine wc (z72_ct N a_.Timeouts b_.Timeouts _ f) [(0,.sl 3),(1,.sl 7)] [] Q Q Q Q Q Q Q Q (.inl rfl) rfl (wx (zz33 a_ b_ [(4,.O x4)]) J 2 (wn ?_))
 cases h
 exact we J func23 [] Q Q Q Q
theorem z78_16_ct (N:Nat) (d_:T0) (c0_:ByteArray) (r:Bool) (h:z78_16 N d_ c0_=some r) :
 Fn Tryz.prog 78 ⟨4,[.a (cC0 0 1 2 d_),.B 3 0],(vV0 0 1 2 d_ []),[(3,.box [.s c0_] 9)],4,.O r,[],[(3,.box [.s c0_] 9)]⟩:=by
 refine wF func78 Q Q (fun E F w=>?_)
 unfold z78_16 at h
 refine wR J 2 Q (wV ⟨[(3,.O (d_.Name.toList==c0_.toList))],[(3,.box [.s c0_] 9)],(vV0 0 1 2 d_ []),5⟩ J 5 ?_)
 cases h
 exact we J func78 [] Q Q Q Q
theorem z77_17_ct (N:Nat) (s_:(List T0)) (c0_:ByteArray) (r:Int) (h:z77_17 N s_ c0_=some r) :
 Fn Tryz.prog 77 ⟨2,[.S 0,.c (.cl 78 [] [1])],[(0,.sl rR0 s_)],[(1,.box [.s c0_] 9)],2,.I r,[],[(1,.box [.s c0_] 9)]⟩:=by
 refine wF func77 Q Q (fun E F w=>?_)
 unfold z77_17 at h
 refine wR J 1 Q (wq (wV (zz87 c0_ s_ [(0,.S 0),(1,.c (.cl 78 [] [1])),(4,.I 0),(7,.I (s_.length:Int)),(8,.I 0)]) J 3 ?_))
 refine wC (σ:=Unit) (fun st=>(zz87 c0_ s_ [])) (fun st=>z77_17_k1=some r) ?_ (fun j1=>?_)
 ·intro _ h
  replace h:z77_17_k1=some r:=h
  unfold z77_17_k1 at h
  refine wR J 1 Q ?_
  cases h
  exact we J func77 [] Q Q Q Q
 refine wo ?_
 refine wI (σ:=Int) (fun st=>(zz87 c0_ s_ [(0,.S 0),(1,.c (.cl 78 [] [1])),(7,.I (s_.length:Int)),(8,.I st)])) (fun n st=>z77_17_l2 N s_ c0_ n st) (r:=r) (fun _=>rfl) ?_ (fun ih=>?_)
 ·intro n2 ih3
  intro d h
  replace h:z77_17_l2 N s_ c0_ (n2+1) d=some r:=h
  unfold z77_17_l2 at h
  refine wR J 1 Q (wq ?_)
  obtain ⟨K,h⟩|⟨K,h⟩:=oc' h
  ·exact wf K Q (wz rfl (wU (j1 () h)))
  refine wt K Q (wi (wq (wo (wV (zz87 c0_ s_ [(0,.S 0),(1,.c (.cl 78 [] [1])),(5,.I d),(7,.I (s_.length:Int)),(8,.I d)]) J 2 (wq (wg (xw [3,4,5] (zz87 c0_ s_ [(0,.S 0),(1,.c (.cl 78 [] [1])),(5,.I d),(7,.I (s_.length:Int)),(8,.I d),(11,.c (.cl 78 [] [1])),(12,.S 0),(13,.I d)]) J 3 ?_)))))))
  obtain ⟨e,f,h⟩:=ob h
  refine wj oO0 J f Q Q Q Q Q Q Q Q Q (ws J 1 Q ?_)
  obtain ⟨g,i,h⟩:=ob h
  refine WPr.callc (z78_16_ct N e c0_ _ i) [(0,.sl 3),(1,.sl 4),(2,.sl 5),(3,.bp 1 0)] [] Q Q Q Q Q Q Q Q Q (.inl rfl) rfl (wx ⟨[(0,.S 0),(1,.c (.cl 78 [] [1])),(5,.I d),(7,.I (s_.length:Int)),(8,.I d),(16,.O g)],[(1,.box [.s c0_] 9)],[(0,.sl rR0 s_)],6⟩ J 0 (wn ?_))
  obtain ⟨K,h⟩|⟨K,h⟩:=oc h
  ·refine wt K Q (wR J 2 Q ?_)
   cases h
   exact we J func77 [] Q Q Q Q
  exact wf K Q (wi (wb (wS J 2 Q (wU (ih3 (w64 (d+1)) h)))))
 exact wU (ih N 0 h)
theorem z31_ct (N:Nat) (g_:T4) (name_:ByteArray) (r:Int) (h:z31 N g_ name_=some r) :
 Fn Tryz.prog 31 ⟨4,[.a (cC4 0 1 2 3 g_),.c (.s name_)],(vV4 0 1 2 3 g_ []),[],4,.I r,[],[]⟩:=by
 refine wF func31 Q Q (fun E F w=>?_)
 unfold z31 at h
 refine wV ⟨[(2,.B 4 0),(3,.B 5 0),(4,.I 0)],[(4,.box (cC4 0 1 2 3 g_) 27),(5,.box [.s name_] 9)],(vV4 0 1 2 3 g_ []),6⟩ J 3 (wq (wg (xw [3,4] ⟨[(6,.S 1),(7,.c (.cl 78 [] [5]))],[(5,.box [.s name_] 9)],(vV4 0 1 2 3 g_ []),6⟩ J 3 ?_)))
 obtain ⟨x1,d,h⟩:=ob h
 refine wc (z77_17_ct N g_.Decls name_ _ d) [(0,.sl 1),(1,.bp 5 0)] [] Q Q Q Q Q Q Q Q (.inl rfl) rfl (wx ⟨[(4,.I x1)],[],(vV4 0 1 2 3 g_ []),6⟩ J 1 (wn ?_))
 cases h
 exact we J func31 [] Q Q Q Q
theorem z115_ct (N:Nat) (s_:(List ByteArray)) (r:(List ByteArray)) (h:z115 N s_=some r) :
 Fn Tryz.prog 115 ⟨1,[.S 0],[(0,.sl rS s_)],[],2,.S 1,[],[(1,.own rS r true)]⟩:=by
 refine wF func115 Q Q (fun E F w=>?_)
 unfold z115 at h
 refine wR J 1 Q (wq (wq (wg (ws J 1 Q (WPr.nilc (el:=9) false (Or.inl rfl) Q Q Q Q (by kernel_rfl) Q Q Q ?_)))))
 intro nb hnb
 cases nb
 ·refine wx (zz13 s_ [(0,.S 0),(2,.c .nil),(4,.O false)]) J 0 (wn (wf Q Q (wi (wq (wg (WPr.bs (cs:=[]) oS J ([]:List ByteArray) Q Q Q Q Q Q (by kernel_rfl) (by exact rfl) rfl (ws J 1 Q ?_)))))))
  obtain ⟨x1,d,h⟩:=ob h
  refine WPr.app J d (by exact (srcI rfl)) Q Q Q Q Q Q Q Q Q Q (wx ⟨[(2,.S 2)],[(2,.own rS x1 true)],[(0,.sl rS s_)],3⟩ J 1 (wn ?_))
  cases h
  exact we J func115 [(1,.sl 2)] Q Q Q Q
 ·obtain rfl:=hnb rfl
  replace h:(some ([]:List ByteArray):Option (List ByteArray))=some r:=h
  refine wx ⟨[(0,.S 0),(2,.c .nil),(4,.O true)],[],[(0,.sl rS ([]:List ByteArray))],1⟩ J 0 (wn (wt Q Q (wR J 1 Q ?_)))
  cases h
  exact we J func115 [(1,.nil)] Q Q Q Q
theorem z116_ct (N:Nat) (s_:(List T3)) (r:(List T3)) (h:z116 N s_=some r) :
 Fn Tryz.prog 116 ⟨1,[.S 0],[(0,.sl rR3 s_)],[],2,.S 1,[],[(1,.own rR3 r true)]⟩:=by
 refine wF func116 Q Q (fun E F w=>?_)
 unfold z116 at h
 refine wR J 1 Q (wq (wq (wg (ws J 1 Q (WPr.nilc (el:=141) false (Or.inl rfl) Q Q Q Q (by kernel_rfl) Q Q Q ?_)))))
 intro nb hnb
 cases nb
 ·refine wx ⟨[(0,.S 0),(2,.c .nil),(4,.O false)],[],[(0,.sl rR3 s_)],1⟩ J 0 (wn (wf Q Q (wi (wq (wg (WPr.bs (cs:=[]) oO3 J ([]:List T3) Q Q Q Q Q Q (by kernel_rfl) (by exact rfl) rfl (ws J 1 Q ?_)))))))
  obtain ⟨x1,d,h⟩:=ob h
  refine WPr.app J d (by exact (srcI rfl)) Q Q Q Q Q Q Q Q Q Q (wx ⟨[(2,.S 2)],[(2,.own rR3 x1 true)],[(0,.sl rR3 s_)],3⟩ J 1 (wn ?_))
  cases h
  exact we J func116 [(1,.sl 2)] Q Q Q Q
 ·obtain rfl:=hnb rfl
  replace h:(some ([]:List T3):Option (List T3))=some r:=h
  refine wx ⟨[(0,.S 0),(2,.c .nil),(4,.O true)],[],[(0,.sl rR3 ([]:List T3))],1⟩ J 0 (wn (wt Q Q (wR J 1 Q ?_)))
  cases h
  exact we J func116 [(1,.nil)] Q Q Q Q
theorem z117_ct (N:Nat) (s_:(List T1)) (r:(List T1)) (h:z117 N s_=some r) :
 Fn Tryz.prog 117 ⟨1,[.S 0],[(0,.sl rR1 s_)],[],2,.S 1,[],[(1,.own rR1 r true)]⟩:=by
 refine wF func117 Q Q (fun E F w=>?_)
 unfold z117 at h
 refine wR J 1 Q (wq (wq (wg (ws J 1 Q (WPr.nilc (el:=144) false (Or.inl rfl) Q Q Q Q (by kernel_rfl) Q Q Q ?_)))))
 intro nb hnb
 cases nb
 ·refine wx ⟨[(0,.S 0),(2,.c .nil),(4,.O false)],[],[(0,.sl rR1 s_)],1⟩ J 0 (wn (wf Q Q (wi (wq (wg (WPr.bs (cs:=[]) oO1 J ([]:List T1) Q Q Q Q Q Q (by kernel_rfl) (by exact rfl) rfl (ws J 1 Q ?_)))))))
  obtain ⟨x1,d,h⟩:=ob h
  refine WPr.app J d (by exact (srcI rfl)) Q Q Q Q Q Q Q Q Q Q (wx ⟨[(2,.S 2)],[(2,.own rR1 x1 true)],[(0,.sl rR1 s_)],3⟩ J 1 (wn ?_))
  cases h
  exact we J func117 [(1,.sl 2)] Q Q Q Q
 ·obtain rfl:=hnb rfl
  replace h:(some ([]:List T1):Option (List T1))=some r:=h
  refine wx ⟨[(0,.S 0),(2,.c .nil),(4,.O true)],[],[(0,.sl rR1 ([]:List T1))],1⟩ J 0 (wn (wt Q Q (wR J 1 Q ?_)))
  cases h
  exact we J func117 [(1,.nil)] Q Q Q Q
theorem z118_ct (N:Nat) (s_:(List (Int × Int))) (r:(List (Int × Int))) (h:z118 N s_=some r) :
 Fn Tryz.prog 118 ⟨1,[.S 0],[(0,.sl (rP (rI .i64) (rI .i64)) s_)],[],2,.S 1,[],[(1,.own (rP (rI .i64) (rI .i64)) r true)]⟩:=by
 refine wF func118 Q Q (fun E F w=>?_)
 unfold z118 at h
 refine wR J 1 Q (wq (wq (wg (ws J 1 Q (WPr.nilc (el:=146) false (Or.inl rfl) Q Q Q Q (by kernel_rfl) Q Q Q ?_)))))
 intro nb hnb
 cases nb
 ·refine wx ⟨[(0,.S 0),(2,.c .nil),(4,.O false)],[],[(0,.sl (rP (rI .i64) (rI .i64)) s_)],1⟩ J 0 (wn (wf Q Q (wi (wq (wg (WPr.bs (cs:=[]) (oP (oI .i64) (oI .i64)) J ([]:List (Int × Int)) Q Q Q Q Q Q (by kernel_rfl) (by exact rfl) rfl (ws J 1 Q ?_)))))))
  obtain ⟨x1,d,h⟩:=ob h
  refine WPr.app J d (by exact (srcI rfl)) Q Q Q Q Q Q Q Q Q Q (wx ⟨[(2,.S 2)],[(2,.own (rP (rI .i64) (rI .i64)) x1 true)],[(0,.sl (rP (rI .i64) (rI .i64)) s_)],3⟩ J 1 (wn ?_))
  cases h
  exact we J func118 [(1,.sl 2)] Q Q Q Q
 ·obtain rfl:=hnb rfl
  replace h:(some ([]:List (Int × Int)):Option (List (Int × Int)))=some r:=h
  refine wx ⟨[(0,.S 0),(2,.c .nil),(4,.O true)],[],[(0,.sl (rP (rI .i64) (rI .i64)) ([]:List (Int × Int)))],1⟩ J 0 (wn (wt Q Q (wR J 1 Q ?_)))
  cases h
  exact we J func118 [(1,.nil)] Q Q Q Q
theorem z60_18_ct (N:Nat) (t_:T8) (c0_:Int) (r:Bool) (h:z60_18 N t_ c0_=some r) :
 Fn Tryz.prog 60 ⟨1,[.a (cC8 t_),.B 0 0],[],[(0,.box [.I c0_] 3)],1,.O r,[],[(0,.box [.I c0_] 3)]⟩:=by
 refine wF func60 Q Q (fun E F w=>?_)
 unfold z60_18 at h
 refine wR J 2 Q (wV ⟨[(3,.O (t_.State==c0_))],[(0,.box [.I c0_] 3)],[],2⟩ J 5 ?_)
 cases h
 exact we J func60 [] Q Q Q Q
theorem z59_19_ct (N:Nat) (s_:(List T8)) (c0_:Int) (r:Int) (h:z59_19 N s_ c0_=some r) :
 Fn Tryz.prog 59 ⟨2,[.S 0,.c (.cl 60 [] [1])],[(0,.sl rR8 s_)],[(1,.box [.I c0_] 3)],2,.I r,[],[(1,.box [.I c0_] 3)]⟩:=by
 refine wF func59 Q Q (fun E F w=>?_)
 unfold z59_19 at h
 refine wR J 1 Q (wq (wV (zz88 c0_ s_ [(0,.S 0),(1,.c (.cl 60 [] [1])),(4,.I 0),(7,.I (s_.length:Int)),(8,.I 0)]) J 3 ?_))
 refine wC (σ:=Unit) (fun st=>(zz88 c0_ s_ [])) (fun st=>z59_19_k1=some r) ?_ (fun j1=>?_)
 ·intro _ h
  replace h:z59_19_k1=some r:=h
  unfold z59_19_k1 at h
  refine wR J 1 Q ?_
  cases h
  exact we J func59 [] Q Q Q Q
 refine wo ?_
 refine wI (σ:=Int) (fun st=>(zz88 c0_ s_ [(0,.S 0),(1,.c (.cl 60 [] [1])),(7,.I (s_.length:Int)),(8,.I st)])) (fun n st=>z59_19_l2 N s_ c0_ n st) (r:=r) (fun _=>rfl) ?_ (fun ih=>?_)
 ·intro n2 ih3
  intro d h
  replace h:z59_19_l2 N s_ c0_ (n2+1) d=some r:=h
  unfold z59_19_l2 at h
  refine wR J 1 Q (wq ?_)
  obtain ⟨K,h⟩|⟨K,h⟩:=oc' h
  ·exact wf K Q (wz rfl (wU (j1 () h)))
  refine wt K Q (wi (wq (wo (wV (zz88 c0_ s_ [(0,.S 0),(1,.c (.cl 60 [] [1])),(5,.I d),(7,.I (s_.length:Int)),(8,.I d)]) J 2 (wq (wg (xw [3,4,5] (zz88 c0_ s_ [(0,.S 0),(1,.c (.cl 60 [] [1])),(5,.I d),(7,.I (s_.length:Int)),(8,.I d),(11,.c (.cl 60 [] [1])),(12,.S 0),(13,.I d)]) J 3 ?_)))))))
  obtain ⟨e,f,h⟩:=ob h
  refine wj oO8 J f Q Q Q Q Q Q Q Q Q (ws J 1 Q ?_)
  obtain ⟨g,i,h⟩:=ob h
  refine WPr.callc (z60_18_ct N e c0_ _ i) [(0,.bp 1 0)] [] Q Q Q Q Q Q Q Q Q (.inl rfl) rfl (wx ⟨[(0,.S 0),(1,.c (.cl 60 [] [1])),(5,.I d),(7,.I (s_.length:Int)),(8,.I d),(16,.O g)],[(1,.box [.I c0_] 3)],[(0,.sl rR8 s_)],3⟩ J 0 (wn ?_))
  obtain ⟨K,h⟩|⟨K,h⟩:=oc h
  ·refine wt K Q (wR J 2 Q ?_)
   cases h
   exact we J func59 [] Q Q Q Q
  exact wf K Q (wi (wb (wS J 2 Q (wU (ih3 (w64 (d+1)) h)))))
 exact wU (ih N 0 h)
theorem z57_ct (N:Nat) (g_:T4) (r:T4) (h:z57 N g_=some r) :
 Fn Tryz.prog 57 ⟨4,[.a (cC4 0 1 2 3 g_)],(vV4 0 1 2 3 g_ []),[],8,.a (cC4 4 5 6 7 r),[(4,.sl rS r.Roles),(5,.sl rR0 r.Decls)],[(6,.own rR2 r.Edges true),(7,.own rR8 r.Timeouts true)]⟩:=by
 refine wF func57 Q Q (fun E F w=>?_)
 unfold z57 at h
 refine wR J 2 Q (wq (wN (fun A1 d e=>?_)))
 have f:A1 0 (zz3 [(1,.B 4 0)] [(6,.B 4 0)]):=d _ _ (wL J)
 have g:A1 1 (zz66 g_ [(6,.B 4 0)] [(7,.c (.s g_.Name))]):=d _ _ (wL J)
 have i:A1 2 (zz3 [(1,.B 4 0)] [(8,.B 4 1)]):=d _ _ (wL J)
 have j:A1 3 (zz66 g_ [(8,.B 4 1)] [(9,.S 0)]):=d _ _ (wL J)
 obtain ⟨x5,l,h⟩:=ob h
 have m:A1 4 ⟨[(9,.S 0)],[(0,.sl rS g_.Roles)],[],[],6,[(10,.S 6)],[],[(6,.own rS x5 true)],7⟩:=d _ _ (wO Q Q Q (fun _ _ _ _ _ _ _ k=>wc (z115_ct N g_.Roles _ l) [(0,.sl 0)] [] Q Q Q Q Q Q Q Q (.inl rfl) rfl (k)) rfl)
 have o:A1 5 (zz4 [(7,.c (.s g_.Name)),(10,.S 6)] [(11,.a [.s g_.Name,.sl 6,.nil,.I 0,.I 0,.I 0,.nil,.nil])]):=d _ _ (wL J)
 have p:A1 6 ⟨[],[],[],[],7,[(3,.B 7 0)],[],[(7,.box [.s (str []),.nil,.nil,.I 0,.I 0,.I 0,.nil,.nil] 27)],8⟩:=d _ _ (wL J)
 have q:A1 7 ⟨[(3,.B 7 0),(11,.a [.s g_.Name,.sl 6,.nil,.I 0,.I 0,.I 0,.nil,.nil])],[],[(7,.box [.s (str []),.nil,.nil,.I 0,.I 0,.I 0,.nil,.nil] 27)],[(6,.own rS x5 true)],8,[],[],[(7,.box [.s g_.Name,.sl 6,.nil,.I 0,.I 0,.I 0,.nil,.nil] 27)],8⟩:=d _ _ (wL J)
 refine wD (t:=⟨[(1,.B 4 0),(2,.B 5 0),(3,.B 7 0)],[(4,.box (cC4 0 1 2 3 g_) 27),(5,.box [.s (str []),.nil,.nil,.I 0,.I 0,.I 0,.nil,.nil] 27),(6,.own rS x5 true),(7,.box [.s g_.Name,.sl 6,.nil,.I 0,.I 0,.I 0,.nil,.nil] 27)],(vV4 0 1 2 3 g_ []),8⟩) [0,1,0,4,12,31,0,127] (.cons (e _ _ f) (.cons (e _ _ g) (.cons (e _ _ i) (.cons (e _ _ j) (.cons (e _ _ m) (.cons (e _ _ o) (.cons (e _ _ p) (.cons (e _ _ q) .nil)))))))) (by kernel_rfl) (by kernel_rfl) (by kernel_rfl) (by kernel_rfl) (wq (wV ⟨[(2,.B 5 0),(3,.B 7 0),(13,.S 1),(14,.I (g_.Decls.length:Int)),(15,.I 0)],[(5,.box [.s (str []),.nil,.nil,.I 0,.I 0,.I 0,.nil,.nil] 27),(6,.own rS x5 true),(7,.box [.s g_.Name,.sl 6,.nil,.I 0,.I 0,.I 0,.nil,.nil] 27)],(vV4 0 1 2 3 g_ []),8⟩ J 4 ?_))
 refine wC (σ:=(List T0)) (fun st=>(zz173 x5 g_.Name st g_ [(2,.B 5 0),(3,.B 7 0)])) (fun st=>z57_k1 g_ x5 st=some r) ?_ (fun j1=>?_)
 ·intro u h
  replace h:z57_k1 g_ x5 u=some r:=h
  unfold z57_k1 at h
  refine wR J 2 Q (WP.frz 6 rfl (WP.frz 8 rfl ?_))
  cases h
  exact we J func57 [(4,.sl 6),(5,.sl 8),(6,.nil),(7,.nil)] Q Q Q Q
 refine wo ?_
 refine wI (σ:=(List T0) × Int) (fun st=>(zz173 x5 g_.Name st.1 g_ [(2,.B 5 0),(3,.B 7 0),(13,.S 1),(14,.I (g_.Decls.length:Int)),(15,.I st.2)])) (fun n st=>z57_l2 N g_ x5 n st.1 st.2) (r:=r) (fun _=>rfl) ?_ (fun ih=>?_)
 ·intro n2 ih3
  rintro ⟨v,x⟩ h
  replace h:z57_l2 N g_ x5 (n2+1) v x=some r:=h
  unfold z57_l2 at h
  refine wR J 1 Q (wq ?_)
  obtain ⟨K,h⟩|⟨K,h⟩:=oc' h
  ·exact wf K Q (wz rfl (wU (j1 v h)))
  refine wt K Q (wi (wq (wo (wq (wg ?_)))))
  obtain ⟨y,z,h⟩:=ob h
  refine wj oO0 J z Q Q Q Q Q Q Q Q Q (wx ⟨[(2,.B 5 0),(3,.B 7 0),(5,.B 13 0),(13,.S 1),(14,.I (g_.Decls.length:Int)),(15,.I x)],[(5,.box [.s (str []),.nil,.nil,.I 0,.I 0,.I 0,.nil,.nil] 27),(6,.own rS x5 true),(7,.box [.s g_.Name,.sl 6,.sl 8,.I 0,.I 0,.I 0,.nil,.nil] 27),(8,.own rR0 v true),(13,.box (cC0 10 11 12 y) 94)],(vV4 0 1 2 3 g_ (vV0 10 11 12 y [])),14⟩ J 3 (wn (wq (wg (ws J 2 Q ?_)))))
  obtain ⟨A,C,h⟩:=ob h
  refine wc (z116_ct N y.Fields _ C) [(0,.sl 10)] [] Q Q Q Q Q Q Q Q (.inl rfl) rfl (wx ⟨[(2,.B 5 0),(3,.B 7 0),(5,.B 13 0),(13,.S 1),(14,.I (g_.Decls.length:Int)),(15,.I x)],[(5,.box [.s (str []),.nil,.nil,.I 0,.I 0,.I 0,.nil,.nil] 27),(6,.own rS x5 true),(7,.box [.s g_.Name,.sl 6,.sl 8,.I 0,.I 0,.I 0,.nil,.nil] 27),(8,.own rR0 v true),(13,.box (cC0 14 11 12 y) 94),(14,.own rR3 A true)],(vV4 0 1 2 3 g_ [(11,.sl rR1 y.Guard.Diffs),(12,.sl (rP (rI .i64) (rI .i64)) y.Guard.Equals)]),15⟩ J 2 (wn (wq (wN (fun D G H=>?_)))))
  have R:D 0 (zz29 [(5,.B 13 0)] [(23,.B 13 3)]):=G _ _ (wL J)
  have T:D 1 (zz29 [(23,.B 13 3)] [(24,.B 13 3)]):=G _ _ (wL J)
  have U:D 2 ⟨[(24,.B 13 3)],[(11,.sl rR1 y.Guard.Diffs),(12,.sl (rP (rI .i64) (rI .i64)) y.Guard.Equals)],[],[(13,.box (cC0 14 11 12 y) 94)],15,[(25,.S 11)],[],[],15⟩:=G _ _ (wL J)
  obtain ⟨X,Y,h⟩:=ob h
  have Z:D 3 ⟨[(25,.S 11)],[(11,.sl rR1 y.Guard.Diffs)],[],[],15,[(26,.S 15)],[],[(15,.own rR1 X true)],16⟩:=G _ _ (wO Q Q Q (fun _ _ _ _ _ _ _ k=>wc (z117_ct N y.Guard.Diffs _ Y) [(0,.sl 11)] [] Q Q Q Q Q Q Q Q (.inl rfl) rfl (k)) rfl)
  have a0:D 4 (zz37 [(5,.B 13 0)] [(27,.B 13 3)]):=G _ _ (wL J)
  have b0:D 5 (zz37 [(27,.B 13 3)] [(28,.B 13 4)]):=G _ _ (wL J)
  have c0:D 6 ⟨[(28,.B 13 4)],[(11,.sl rR1 y.Guard.Diffs),(12,.sl (rP (rI .i64) (rI .i64)) y.Guard.Equals)],[],[(13,.box (cC0 14 11 12 y) 94)],16,[(29,.S 12)],[],[],16⟩:=G _ _ (wL J)
  obtain ⟨d0,e0,h⟩:=ob h
  have f0:D 7 ⟨[(29,.S 12)],[(12,.sl (rP (rI .i64) (rI .i64)) y.Guard.Equals)],[],[],16,[(30,.S 16)],[],[(16,.own (rP (rI .i64) (rI .i64)) d0 true)],17⟩:=G _ _ (wO Q Q Q (fun _ _ _ _ _ _ _ k=>wc (z118_ct N y.Guard.Equals _ e0) [(0,.sl 12)] [] Q Q Q Q Q Q Q Q (.inl rfl) rfl (k)) rfl)
  have g0:D 8 (zz57 [(26,.S 15),(30,.S 16)] [(31,.a [.sl 15,.sl 16])]):=G _ _ (wL J)
  have i0:D 9 (zz57 [(5,.B 13 0)] [(32,.B 13 3)]):=G _ _ (wL J)
  have j0:D 10 ⟨[(31,.a [.sl 15,.sl 16]),(32,.B 13 3)],[(11,.sl rR1 y.Guard.Diffs),(12,.sl (rP (rI .i64) (rI .i64)) y.Guard.Equals)],[(13,.box (cC0 14 11 12 y) 94)],[(15,.own rR1 X true),(16,.own (rP (rI .i64) (rI .i64)) d0 true)],17,[],[],[(13,.box (cC0 14 15 16 y) 94)],17⟩:=G _ _ (wL J)
  refine wD (t:=⟨[(2,.B 5 0),(3,.B 7 0),(5,.B 13 0),(13,.S 1),(14,.I (g_.Decls.length:Int)),(15,.I x)],[(5,.box [.s (str []),.nil,.nil,.I 0,.I 0,.I 0,.nil,.nil] 27),(6,.own rS x5 true),(7,.box [.s g_.Name,.sl 6,.sl 8,.I 0,.I 0,.I 0,.nil,.nil] 27),(8,.own rR0 v true),(13,.box (cC0 14 15 16 y) 94),(14,.own rR3 A true),(15,.own rR1 X true),(16,.own (rP (rI .i64) (rI .i64)) d0 true)],(vV4 0 1 2 3 g_ []),17⟩) [0,1,3,7,0,16,48,127,255,511,1023] (.cons (H _ _ R) (.cons (H _ _ T) (.cons (H _ _ U) (.cons (H _ _ Z) (.cons (H _ _ a0) (.cons (H _ _ b0) (.cons (H _ _ c0) (.cons (H _ _ f0) (.cons (H _ _ g0) (.cons (H _ _ i0) (.cons (H _ _ j0) .nil))))))))))) (by kernel_rfl) (by kernel_rfl) (by kernel_rfl) (by kernel_rfl) (wg (xw [3,4,5,6] ⟨[(2,.B 5 0),(3,.B 7 0),(13,.S 1),(14,.I (g_.Decls.length:Int)),(15,.I x),(34,.S 8),(35,.a (cC0 14 15 16 y))],[(5,.box [.s (str []),.nil,.nil,.I 0,.I 0,.I 0,.nil,.nil] 27),(6,.own rS x5 true),(7,.box [.s g_.Name,.sl 6,.sl 8,.I 0,.I 0,.I 0,.nil,.nil] 27),(8,.own rR0 v true),(14,.own rR3 A true),(15,.own rR1 X true),(16,.own (rP (rI .i64) (rI .i64)) d0 true)],(vV4 0 1 2 3 g_ []),17⟩ J 3 (WPr.frz 14 rfl (WPr.frz 15 rfl (WPr.frz 16 rfl (WPr.bs (cs:=(cC0 14 15 16 y)) oO0 J ([(⟨y.Name,A,y.First,(⟨X,d0⟩:T5)⟩:T0)]:List T0) Q Q Q Q Q Q (by kernel_rfl) (by exact (an (an rfl (an rfl (an rfl (an Q Q)))) rfl)) rfl ?_))))))
  obtain ⟨k0,l0,h⟩:=ob h
  exact WPr.app J l0 (by exact (srcO rfl)) Q Q Q Q Q Q Q Q Q Q (wx ⟨[(2,.B 5 0),(3,.B 7 0),(13,.S 1),(14,.I (g_.Decls.length:Int)),(15,.I x)],[(5,.box [.s (str []),.nil,.nil,.I 0,.I 0,.I 0,.nil,.nil] 27),(6,.own rS x5 true),(7,.box [.s g_.Name,.sl 6,.sl 18,.I 0,.I 0,.I 0,.nil,.nil] 27),(18,.own rR0 k0 true)],(vV4 0 1 2 3 g_ []),19⟩ J 2 (wn (wb (wS J 2 Q (wu [(8,.sl 18)] (ih3 (k0,(w64 (x+1))) h) Q Q Q Q)))))
 exact wu [(8,.nil)] (ih N (([]:List T0),0) h) Q Q Q Q
theorem z21_ct (N:Nat) (g_:T4) (r:T4 × Int) (h:z21 N g_=some r) :
 Fn Tryz.prog 21 ⟨4,[.a (cC4 0 1 2 3 g_)],(vV4 0 1 2 3 g_ []),[],8,.t [.inr (cC4 4 5 6 7 r.1),.inl (.I r.2)],(vV4 4 5 6 7 r.1 []),[]⟩:=by
 refine wF func21 Q Q (fun E F w=>?_)
 unfold z21 at h
 refine wV (zz109 g_ [(1,.B 4 0),(2,.B 5 0),(3,.I 0)]) J 3 (wq (wq (wg (ws J 1 Q ?_))))
 obtain ⟨x1,d,h⟩:=ob h
 refine wc (z22_ct N g_ _ d) [(0,.sl 0),(1,.sl 1),(2,.sl 2),(3,.sl 3)] [] Q Q Q Q Q Q Q Q (.inl rfl) rfl (wx (zz109 g_ [(1,.B 4 0),(2,.B 5 0),(3,.I 0),(14,.O (!x1))]) J 1 (wn ?_))
 obtain ⟨K,h⟩|⟨K,h⟩:=oc h
 ·refine wt K Q (wV (zz174 g_ [(2,.B 5 0),(3,.I 1)]) J 3 ?_)
  cases h
  exact we J func21 [(4,.nil),(5,.nil),(6,.nil),(7,.nil)] Q Q Q Q
 refine wf K Q (wi (wq (wg (ws J 1 Q ?_))))
 obtain ⟨x2,e,h⟩:=ob h
 refine wc (z57_ct N g_ _ e) [(0,.sl 0),(1,.sl 1),(2,.sl 2),(3,.sl 3)] [] Q Q Q Q Q Q Q Q (.inl rfl) rfl (wx ⟨[(1,.B 4 0),(2,.B 5 0),(3,.I 0),(4,.B 10 0)],[(4,.box (cC4 0 1 2 3 g_) 27),(5,.box [.s (str []),.nil,.nil,.I 0,.I 0,.I 0,.nil,.nil] 27),(8,.own rR2 x2.Edges true),(9,.own rR8 x2.Timeouts true),(10,.box (cC4 6 7 8 9 x2) 27)],(vV4 0 1 2 3 g_ [(6,.sl rS x2.Roles),(7,.sl rR0 x2.Decls)]),11⟩ J 2 (wn (wq (wg (WPr.bs (cs:=[.I (-1)]) (oI .i64) J ([(-1)]:List Int) Q Q Q Q Q Q (by kernel_rfl) (by exact (an Q Q)) rfl (xw [3,4] ⟨[(1,.B 4 0),(2,.B 5 0),(3,.I 0),(4,.B 10 0),(18,.S 11),(20,.I g_.States)],[(4,.box (cC4 0 1 2 3 g_) 27),(5,.box [.s (str []),.nil,.nil,.I 0,.I 0,.I 0,.nil,.nil] 27),(8,.own rR2 x2.Edges true),(9,.own rR8 x2.Timeouts true),(10,.box (cC4 6 7 8 9 x2) 27),(11,.own (rI .i64) ([(-1)]:List Int) true)],(vV4 0 1 2 3 g_ [(6,.sl rS x2.Roles),(7,.sl rR0 x2.Decls)]),12⟩ J 2 ?_))))))
 obtain ⟨x3,f,h⟩:=ob h
 refine wc (z58_ct N ([(-1)]:List Int) g_.States _ f) [(0,.sl 11)] [11] Q Q Q Q Q Q Q Q (.inr ⟨rfl,⟨(rI_flat _),trivial⟩⟩) rfl (wx (zz175 g_ x2.Edges x2.Timeouts x2 x3 x2.Roles x2.Decls [(1,.B 4 0),(2,.B 5 0),(3,.I 0),(4,.B 10 0),(5,.S 12)]) J 1 (wn (wq (wg (xw [3,4] (zz175 g_ x2.Edges x2.Timeouts x2 x3 x2.Roles x2.Decls [(1,.B 4 0),(2,.B 5 0),(3,.I 0),(4,.B 10 0),(5,.S 12),(22,.S 12),(24,.I g_.Start)]) J 3 ?_)))))
 obtain ⟨x4,g,h⟩:=ob h
 refine wX J g Q Q Q Q Q Q Q Q Q (WPr.sto (oI .i64) J 0 g Q Q Q Q Q Q Q Q Q Q (by exact rfl) rfl (wn (wq (wq (wg (xw [2,3] ⟨[(1,.B 4 0),(2,.B 5 0),(3,.I 0),(4,.B 10 0),(5,.S 12),(27,.I g_.Start)],[(4,.box (cC4 0 1 2 3 g_) 27),(5,.box [.s (str []),.nil,.nil,.I 0,.I 0,.I 0,.nil,.nil] 27),(8,.own rR2 x2.Edges true),(9,.own rR8 x2.Timeouts true),(10,.box (cC4 6 7 8 9 x2) 27),(12,.own (rI .i64) (setL' x3 g_.Start 0) true)],(vV4 0 1 2 3 g_ [(6,.sl rS x2.Roles),(7,.sl rR0 x2.Decls)]),14⟩ J 2 (WPr.bs (cs:=[.I g_.Start]) (oI .i64) J ([g_.Start]:List Int) Q Q Q Q Q Q (by kernel_rfl) (by exact (an Q Q)) rfl (ws J 1 Q (wn ?_)))))))))
 refine wC (σ:=Int × (List T2) × (List T8) × (List Int)) (fun st=>⟨[(1,.B 4 0),(2,.B 5 0),(4,.B 10 0),(5,.S 12)],[(4,.box (cC4 0 1 2 3 g_) 27),(5,.box [.s (str []),.nil,.nil,.I 0,.I 0,.I 0,.nil,.nil] 27),(10,.box [.s x2.Name,.sl 6,.sl 7,.I st.1,.I x2.Start,.I x2.End,.sl 15,.sl 16] 27),(12,.own (rI .i64) st.2.2.2 true),(15,.own rR2 st.2.1 true),(16,.own rR8 st.2.2.1 true)],(vV4 0 1 2 3 g_ [(6,.sl rS x2.Roles),(7,.sl rR0 x2.Decls)]),17⟩) (fun st=>z21_k1 g_ x2 st.1 st.2.1 st.2.2.1 st.2.2.2=some r) ?_ (fun j1=>?_)
 ·rintro ⟨i,j,l,m⟩ h
  replace h:z21_k1 g_ x2 i j l m=some r:=h
  unfold z21_k1 at h
  refine wq (wg (xw [3,4,5,6] ⟨[(2,.B 5 0),(4,.B 10 0),(124,.S 12),(126,.I g_.End)],[(5,.box [.s (str []),.nil,.nil,.I 0,.I 0,.I 0,.nil,.nil] 27),(10,.box [.s x2.Name,.sl 6,.sl 7,.I i,.I x2.Start,.I x2.End,.sl 15,.sl 16] 27),(12,.own (rI .i64) m true),(15,.own rR2 j true),(16,.own rR8 l true)],(vV4 0 1 2 3 g_ [(6,.sl rS x2.Roles),(7,.sl rR0 x2.Decls)]),17⟩ J 3 ?_))
  obtain ⟨o,p,h⟩:=ob h
  refine wX J p Q Q Q Q Q Q Q Q Q (wd (oI .i64) J p Q Q Q Q Q Q Q Q Q Q (wx ⟨[(2,.B 5 0),(4,.B 10 0)],[(5,.box [.s (str []),.nil,.nil,.I 0,.I 0,.I 0,.nil,.nil] 27),(10,.box [.s x2.Name,.sl 6,.sl 7,.I i,.I x2.Start,.I o,.sl 15,.sl 16] 27),(15,.own rR2 j true),(16,.own rR8 l true)],(vV4 0 1 2 3 g_ [(6,.sl rS x2.Roles),(7,.sl rR0 x2.Decls)]),18⟩ J 2 (wn (wV ⟨[(2,.B 5 0),(3,.I 0)],[(5,.box [.s x2.Name,.sl 6,.sl 7,.I i,.I x2.Start,.I o,.sl 15,.sl 16] 27),(15,.own rR2 j true),(16,.own rR8 l true)],(vV4 0 1 2 3 g_ [(6,.sl rS x2.Roles),(7,.sl rR0 x2.Decls)]),18⟩ J 3 (WP.frz 15 rfl (WP.frz 16 rfl ?_))))))
  cases h
  exact we J func21 [(4,.sl 6),(5,.sl 7),(6,.sl 15),(7,.sl 16)] Q Q Q Q
 refine wo ?_
 refine wI (σ:=Int × (List T2) × (List T8) × (List Int) × (List Int)) (fun st=>(zz132 g_ x2.Name st.1 x2.Start x2.End st.2.2.2.1 st.2.1 st.2.2.1 st.2.2.2.2 x2.Roles x2.Decls [(1,.B 4 0),(2,.B 5 0),(4,.B 10 0),(5,.S 12),(6,.S 17)])) (fun n st=>z21_l2 N g_ x2 n st.1 st.2.1 st.2.2.1 st.2.2.2.1 st.2.2.2.2) (r:=r) (fun _=>rfl) ?_ (fun ih=>?_)
 ·intro n12 ih66
  rintro ⟨q,u,v,x,y⟩ h
  replace h:z21_l2 N g_ x2 (n12+1) q u v x y=some r:=h
  unfold z21_l2 at h
  refine wq (wV (zz132 g_ x2.Name q x2.Start x2.End x u v y x2.Roles x2.Decls [(1,.B 4 0),(2,.B 5 0),(4,.B 10 0),(5,.S 12),(6,.S 17),(33,.O (decide (q < (y.length:Int))))]) J 5 ?_)
  obtain ⟨K,h⟩|⟨K,h⟩:=oc' h
  ·exact wf K Q (wz rfl (wU (j1 (q,u,v,x) h)))
  refine wt K Q (wi (wq (wo (wq (wg (xw [3,4,5,6] (zz132 g_ x2.Name q x2.Start x2.End x u v y x2.Roles x2.Decls [(1,.B 4 0),(2,.B 5 0),(4,.B 10 0),(5,.S 12),(6,.S 17),(38,.S 17),(40,.I q)]) J 3 ?_))))))
  obtain ⟨z,A,h⟩:=ob h
  refine wX J A Q Q Q Q Q Q Q Q Q (wd (oI .i64) J A Q Q Q Q Q Q Q Q Q Q (wx (zz133 g_ x2.Name q x2.Start x2.End x u v y z x2.Roles x2.Decls [(1,.B 4 0),(2,.B 5 0),(4,.B 10 0),(5,.S 12),(6,.S 17),(7,.B 19 0)]) J 2 (wn (wq (wg (xw [3,4] (zz133 g_ x2.Name q x2.Start x2.End x u v y z x2.Roles x2.Decls [(1,.B 4 0),(2,.B 5 0),(4,.B 10 0),(5,.S 12),(6,.S 17),(7,.B 19 0),(44,.S 3),(45,.c (.cl 60 [] [19]))]) J 3 ?_))))))
  obtain ⟨C,D,h⟩:=ob h
  refine wc (z59_19_ct N g_.Timeouts z _ D) [(0,.sl 3),(1,.bp 19 0)] [] Q Q Q Q Q Q Q Q (.inl rfl) rfl (wx (zz133 g_ x2.Name q x2.Start x2.End x u v y z x2.Roles x2.Decls [(1,.B 4 0),(2,.B 5 0),(4,.B 10 0),(5,.S 12),(6,.S 17),(7,.B 19 0),(8,.I C)]) J 1 (wn (wq (wg (ws J 2 Q ?_)))))
  obtain ⟨G,H,h⟩:=ob h
  refine wc (z18_ct N g_ z _ H) [(0,.sl 0),(1,.sl 1),(2,.sl 2),(3,.sl 3)] [] Q Q Q Q Q Q Q Q (.inl rfl) rfl (wx ⟨[(1,.B 4 0),(2,.B 5 0),(4,.B 10 0),(5,.S 12),(6,.S 17),(8,.I C),(49,.S 20),(50,.I (G.length:Int)),(51,.I 0)],[(4,.box (cC4 0 1 2 3 g_) 27),(5,.box [.s (str []),.nil,.nil,.I 0,.I 0,.I 0,.nil,.nil] 27),(10,.box [.s x2.Name,.sl 6,.sl 7,.I q,.I x2.Start,.I x2.End,.sl 15,.sl 16] 27),(12,.own (rI .i64) x true),(15,.own rR2 u true),(16,.own rR8 v true),(17,.own (rI .i64) y true),(20,.own (rI .i64) G true)],(vV4 0 1 2 3 g_ [(6,.sl rS x2.Roles),(7,.sl rR0 x2.Decls)]),21⟩ J 2 (wn ?_))
  refine wC (σ:=(List T2) × (List T8) × (List Int) × (List Int)) (fun st=>(zz176 g_ x2.Name q x2.Start x2.End st.2.2.1 st.1 st.2.1 st.2.2.2 x2.Roles x2.Decls [(1,.B 4 0),(2,.B 5 0),(4,.B 10 0),(5,.S 12),(6,.S 23)])) (fun st=>z21_k3 q (z21_l2 N g_ x2 n12) st.1 st.2.1 st.2.2.1 st.2.2.2=some r) ?_ (fun j109=>?_)
  ·rintro ⟨R,T,U,X⟩ h
   replace h:z21_k3 q (z21_l2 N g_ x2 n12) R T U X=some r:=h
   unfold z21_k3 at h
   exact wb (wT (zz176 g_ x2.Name (w64 (q+1)) x2.Start x2.End U R T X x2.Roles x2.Decls [(1,.B 4 0),(2,.B 5 0),(4,.B 10 0),(5,.S 12),(6,.S 23)]) J 5 (wu [(15,.sl 21),(16,.sl 22),(17,.sl 23)] (ih66 ((w64 (q+1)),R,T,U,X) h) Q Q Q Q))
  refine wo ?_
  refine wI (σ:=(List T2) × (List T8) × (List Int) × (List Int) × Int) (fun st=>⟨[(1,.B 4 0),(2,.B 5 0),(4,.B 10 0),(5,.S 12),(6,.S 23),(8,.I C),(49,.S 20),(50,.I (G.length:Int)),(51,.I st.2.2.2.2)],[(4,.box (cC4 0 1 2 3 g_) 27),(5,.box [.s (str []),.nil,.nil,.I 0,.I 0,.I 0,.nil,.nil] 27),(10,.box [.s x2.Name,.sl 6,.sl 7,.I q,.I x2.Start,.I x2.End,.sl 21,.sl 22] 27),(12,.own (rI .i64) st.2.2.1 true),(20,.own (rI .i64) G true),(21,.own rR2 st.1 true),(22,.own rR8 st.2.1 true),(23,.own (rI .i64) st.2.2.2.1 true)],(vV4 0 1 2 3 g_ [(6,.sl rS x2.Roles),(7,.sl rR0 x2.Decls)]),24⟩) (fun n st=>z21_l4 g_ q (z21_l2 N g_ x2 n12) C G n st.1 st.2.1 st.2.2.1 st.2.2.2.1 st.2.2.2.2) (r:=r) (fun _=>rfl) ?_ (fun ih=>?_)
  ·intro n14 ih120
   rintro ⟨Y,Z,a0,b0,c0⟩ h
   replace h:z21_l4 g_ q (z21_l2 N g_ x2 n12) C G (n14+1) Y Z a0 b0 c0=some r:=h
   unfold z21_l4 at h
   refine wR J 1 Q (wq ?_)
   obtain ⟨K,h⟩|⟨K,h⟩:=oc' h
   ·exact wf K Q (wz rfl (wU (j109 (Y,Z,a0,b0) h)))
   refine wt K Q (wi (wq (wo (wq (wg ?_)))))
   obtain ⟨d0,e0,h⟩:=ob h
   refine wX J e0 Q Q Q Q Q Q Q Q Q (wd (oI .i64) J e0 Q Q Q Q Q Q Q Q Q Q (wx (zz177 g_ x2.Name q x2.Start x2.End a0 G Y Z b0 x2.Roles x2.Decls [(1,.B 4 0),(2,.B 5 0),(4,.B 10 0),(5,.S 12),(6,.S 23),(8,.I C),(10,.I d0),(49,.S 20),(50,.I (G.length:Int)),(51,.I c0)]) J 1 (wn (wq (wg (xw [3,4,5,6] (zz177 g_ x2.Name q x2.Start x2.End a0 G Y Z b0 x2.Roles x2.Decls [(1,.B 4 0),(2,.B 5 0),(4,.B 10 0),(5,.S 12),(6,.S 23),(8,.I C),(10,.I d0),(49,.S 20),(50,.I (G.length:Int)),(51,.I c0),(56,.S 2),(57,.I d0)]) J 3 ?_))))))
   obtain ⟨f0,g0,h⟩:=ob h
   refine wj oO2 J g0 Q Q Q Q Q Q Q Q Q (wx (zz178 g_ x2.Name q x2.Start x2.End a0 G Y Z b0 f0 x2.Roles x2.Decls [(1,.B 4 0),(2,.B 5 0),(4,.B 10 0),(5,.S 12),(6,.S 23),(8,.I C),(10,.I d0),(11,.B 26 0),(49,.S 20),(50,.I (G.length:Int)),(51,.I c0)]) J 3 (wn (wq (wq (wg (xw [3,4,5] (zz178 g_ x2.Name q x2.Start x2.End a0 G Y Z b0 f0 x2.Roles x2.Decls [(1,.B 4 0),(2,.B 5 0),(4,.B 10 0),(5,.S 12),(6,.S 23),(8,.I C),(10,.I d0),(11,.B 26 0),(49,.S 20),(50,.I (G.length:Int)),(51,.I c0),(60,.S 12),(62,.I f0.To)]) J 3 ?_))))))
   obtain ⟨i0,j0,h⟩:=ob h
   refine wX J j0 Q Q Q Q Q Q Q Q Q (wd (oI .i64) J j0 Q Q Q Q Q Q Q Q Q Q (wx (zz179 g_ x2.Name q x2.Start x2.End a0 G Y Z b0 f0 x2.Roles x2.Decls [(1,.B 4 0),(2,.B 5 0),(4,.B 10 0),(5,.S 12),(6,.S 23),(8,.I C),(10,.I d0),(11,.B 26 0),(49,.S 20),(50,.I (G.length:Int)),(51,.I c0),(65,.O (decide (i0 < 0)))]) J 1 (wn ?_)))
   refine wC (σ:=(List Int) × (List Int)) (fun st=>(zz89 g_ x2.Name q x2.Start x2.End st.1 G Y Z f0 st.2 x2.Roles x2.Decls [(1,.B 4 0),(2,.B 5 0),(4,.B 10 0),(5,.S 12),(6,.S 28),(8,.I C),(10,.I d0),(11,.B 26 0),(49,.S 20),(50,.I (G.length:Int)),(51,.I c0)])) (fun st=>z21_k7 g_ q C Y Z c0 (z21_l4 g_ q (z21_l2 N g_ x2 n12) C G n14) d0 f0 st.1 st.2=some r) ?_ (fun j127=>?_)
   ·rintro ⟨k0,l0⟩ h
    replace h:z21_k7 g_ q C Y Z c0 (z21_l4 g_ q (z21_l2 N g_ x2 n12) C G n14) d0 f0 k0 l0=some r:=h
    unfold z21_k7 at h
    refine wq (wq (wg (xw (rg 3 9) (zz89 g_ x2.Name q x2.Start x2.End k0 G Y Z f0 l0 x2.Roles x2.Decls [(1,.B 4 0),(2,.B 5 0),(4,.B 10 0),(5,.S 12),(6,.S 28),(8,.I C),(10,.I d0),(11,.B 26 0),(49,.S 20),(50,.I (G.length:Int)),(51,.I c0),(79,.O (decide (C≥0)))]) J 3 ?_)))
    refine WP.cutr (σ:=Bool) (fun st=>(zz89 g_ x2.Name q x2.Start x2.End k0 G Y Z f0 l0 x2.Roles x2.Decls [(1,.B 4 0),(2,.B 5 0),(4,.B 10 0),(5,.S 12),(6,.S 28),(8,.I C),(11,.B 26 0),(49,.S 20),(50,.I (G.length:Int)),(51,.I c0),(88,.O st)])) (fun st=>z21_k6 g_ q C Y Z c0 (z21_l4 g_ q (z21_l2 N g_ x2 n12) C G n14) f0 k0 l0 st=some r) ?_ (fun j128=>?_)
    ·intro m0 h
     replace h:z21_k6 g_ q C Y Z c0 (z21_l4 g_ q (z21_l2 N g_ x2 n12) C G n14) f0 k0 l0 m0=some r:=h
     unfold z21_k6 at h
     refine wC (σ:=(List T8)) (fun st=>⟨[(1,.B 4 0),(2,.B 5 0),(4,.B 10 0),(5,.S 12),(6,.S 28),(8,.I C),(11,.B 26 0),(49,.S 20),(50,.I (G.length:Int)),(51,.I c0)],[(4,.box (cC4 0 1 2 3 g_) 27),(5,.box [.s (str []),.nil,.nil,.I 0,.I 0,.I 0,.nil,.nil] 27),(10,.box [.s x2.Name,.sl 6,.sl 7,.I q,.I x2.Start,.I x2.End,.sl 21,.sl 29] 27),(12,.own (rI .i64) k0 true),(20,.own (rI .i64) G true),(21,.own rR2 Y true),(26,.box (cC2 f0) 43),(28,.own (rI .i64) l0 true),(29,.own rR8 st true)],(vV4 0 1 2 3 g_ [(6,.sl rS x2.Roles),(7,.sl rR0 x2.Decls)]),30⟩) (fun st=>z21_k5 q Y c0 (z21_l4 g_ q (z21_l2 N g_ x2 n12) C G n14) f0 k0 l0 st=some r) ?_ (fun j129=>?_)
     ·intro o0 h
      replace h:z21_k5 q Y c0 (z21_l4 g_ q (z21_l2 N g_ x2 n12) C G n14) f0 k0 l0 o0=some r:=h
      unfold z21_k5 at h
      refine wN (fun p0 q0 s0=>?_)
      have t0:p0 0 (zz58 [(4,.B 10 0)] [(106,.B 10 6)]):=q0 _ _ (wL J)
      have u0:p0 1 (zz180 x2.Roles x2.Decls x2.Name q x2.Start x2.End [(106,.B 10 6)] [(107,.S 21)]):=q0 _ _ (wL J)
      have v0:p0 2 (zz58 [(4,.B 10 0)] [(108,.B 10 3)]):=q0 _ _ (wL J)
      have x0:p0 3 (zz180 x2.Roles x2.Decls x2.Name q x2.Start x2.End [(108,.B 10 3)] [(109,.I q)]):=q0 _ _ (wL J)
      have y0:p0 4 (zz58 [(11,.B 26 0)] [(110,.B 26 1)]):=q0 _ _ (wL J)
      have z0:p0 5 ⟨[(110,.B 26 1)],[],[],[(26,.box (cC2 f0) 43)],30,[(111,.a (cC6 f0.Act))],[],[],30⟩:=q0 _ _ (wL J)
      have A0:p0 6 (zz58 [(5,.S 12)] [(112,.S 12)]):=q0 _ _ (wL J)
      have B0:p0 7 (zz58 [(11,.B 26 0)] [(113,.B 26 4)]):=q0 _ _ (wL J)
      have C0:p0 8 ⟨[(113,.B 26 4)],[],[],[(26,.box (cC2 f0) 43)],30,[(114,.I f0.To)],[],[],30⟩:=q0 _ _ (wL J)
      obtain ⟨D0,G0,h⟩:=ob h
      have H0:p0 9 ⟨[(112,.S 12),(114,.I f0.To)],[],[],[(12,.own (rI .i64) k0 true)],30,[(115,.P 30 0)],[(30,.el 12 ((f0.To).toNat * ((rI .i64)).sz))],[],31⟩:=q0 _ _ (wO Q Q Q (fun _ _ _ _ _ _ _ k=>wX J G0 Q Q Q Q Q Q Q Q Q (k)) rfl)
      have I0:p0 10 ⟨[(115,.P 30 0)],[(30,.el 12 ((f0.To).toNat * ((rI .i64)).sz))],[],[(12,.own (rI .i64) k0 true)],31,[(116,.I D0)],[],[],31⟩:=q0 _ _ (wO Q Q Q (fun _ _ _ _ _ _ _ k=>wd (oI .i64) J G0 Q Q Q Q Q Q Q Q Q Q (k)) rfl)
      have L0:p0 11 ⟨[(11,.B 26 0)],[],[],[],31,[(117,.B 26 5)],[],[],31⟩:=q0 _ _ (wL J)
      have M0:p0 12 ⟨[(117,.B 26 5)],[],[],[(26,.box (cC2 f0) 43)],31,[(118,.O f0.Again)],[],[],31⟩:=q0 _ _ (wL J)
      have O0:p0 13 ⟨[(109,.I q),(111,.a (cC6 f0.Act)),(116,.I D0),(118,.O f0.Again)],[],[],[],31,[(119,.a [.I q,.I f0.Act.From,.I f0.Act.To,.I f0.Act.Label,.I D0,.b f0.Again])],[],[],31⟩:=q0 _ _ (wL J)
      have R0:p0 14 ⟨[(119,.a [.I q,.I f0.Act.From,.I f0.Act.To,.I f0.Act.Label,.I D0,.b f0.Again])],[],[],[],31,[(120,.S 31)],[],[(31,.own rR2 ([(⟨q,f0.Act,D0,f0.Again⟩:T2)]:List T2) true)],32⟩:=q0 _ _ (wO Q Q Q (fun _ _ _ _ _ _ _ k=>WPr.bs (cs:=[.I q,.I f0.Act.From,.I f0.Act.To,.I f0.Act.Label,.I D0,.b f0.Again]) oO2 J ([(⟨q,f0.Act,D0,f0.Again⟩:T2)]:List T2) Q Q Q Q Q Q (by kernel_rfl) (by exact (an (an rfl (an (an rfl (an Q Q)) (an Q Q))) rfl)) rfl (k)) rfl)
      obtain ⟨S0,T0,h⟩:=ob h
      have U0:p0 15 ⟨[(107,.S 21),(120,.S 31)],[],[(21,.own rR2 Y true)],[(31,.own rR2 ([(⟨q,f0.Act,D0,f0.Again⟩:T2)]:List T2) true)],32,[(121,.S 32)],[],[(21,.gone),(32,.own rR2 S0 true)],33⟩:=q0 _ _ (wO Q Q Q (fun _ _ _ _ _ _ _ k=>WPr.app J T0 (by exact (srcO rfl)) Q Q Q Q Q Q Q Q Q Q (k)) rfl)
      have V0:p0 16 ⟨[(4,.B 10 0)],[],[],[],33,[(122,.B 10 6)],[],[],33⟩:=q0 _ _ (wL J)
      have X0:p0 17 ⟨[(121,.S 32),(122,.B 10 6)],[(6,.sl rS x2.Roles),(7,.sl rR0 x2.Decls)],[(10,.box [.s x2.Name,.sl 6,.sl 7,.I q,.I x2.Start,.I x2.End,.sl 21,.sl 29] 27)],[(32,.own rR2 S0 true)],33,[],[],[(10,.box [.s x2.Name,.sl 6,.sl 7,.I q,.I x2.Start,.I x2.End,.sl 32,.sl 29] 27)],33⟩:=q0 _ _ (wL J)
      exact wD (t:=⟨[(1,.B 4 0),(2,.B 5 0),(4,.B 10 0),(5,.S 12),(6,.S 28),(8,.I C),(49,.S 20),(50,.I (G.length:Int)),(51,.I c0)],[(4,.box (cC4 0 1 2 3 g_) 27),(5,.box [.s (str []),.nil,.nil,.I 0,.I 0,.I 0,.nil,.nil] 27),(10,.box [.s x2.Name,.sl 6,.sl 7,.I q,.I x2.Start,.I x2.End,.sl 32,.sl 29] 27),(12,.own (rI .i64) k0 true),(20,.own (rI .i64) G true),(28,.own (rI .i64) l0 true),(29,.own rR8 o0 true),(32,.own rR2 S0 true)],(vV4 0 1 2 3 g_ [(6,.sl rS x2.Roles),(7,.sl rR0 x2.Decls)]),33⟩) [0,1,0,4,0,16,0,0,128,448,960,0,2048,8188,16380,32767,65535,131071] (.cons (s0 _ _ t0) (.cons (s0 _ _ u0) (.cons (s0 _ _ v0) (.cons (s0 _ _ x0) (.cons (s0 _ _ y0) (.cons (s0 _ _ z0) (.cons (s0 _ _ A0) (.cons (s0 _ _ B0) (.cons (s0 _ _ C0) (.cons (s0 _ _ H0) (.cons (s0 _ _ I0) (.cons (s0 _ _ L0) (.cons (s0 _ _ M0) (.cons (s0 _ _ O0) (.cons (s0 _ _ R0) (.cons (s0 _ _ U0) (.cons (s0 _ _ V0) (.cons (s0 _ _ X0) .nil)))))))))))))))))) (by kernel_rfl) (by kernel_rfl) (by kernel_rfl) (by kernel_rfl) (wb (wS J 2 Q (wu [(21,.sl 32),(22,.sl 29),(23,.sl 28)] (ih120 (S0,o0,k0,l0,(w64 (c0+1))) h) Q Q Q Q)))
     obtain ⟨K,h⟩|⟨K,h⟩:=oc' h
     ·exact wf K Q (wi (wu [(29,.sl 22)] (j129 Z h) Q Q Q Q))
     refine wt K Q (wN (fun Y0 Z0 a1=>?_))
     have b1:Y0 0 (zz110 [(4,.B 10 0)] [(89,.B 10 7)]):=Z0 _ _ (wL J)
     have c1:Y0 1 (zz181 x2.Roles x2.Decls x2.Name q x2.Start x2.End [(89,.B 10 7)] [(90,.S 22)]):=Z0 _ _ (wL J)
     have d1:Y0 2 (zz110 [(4,.B 10 0)] [(91,.B 10 3)]):=Z0 _ _ (wL J)
     have e1:Y0 3 (zz181 x2.Roles x2.Decls x2.Name q x2.Start x2.End [(91,.B 10 3)] [(92,.I q)]):=Z0 _ _ (wL J)
     have f1:Y0 4 (zz110 [(1,.B 4 0)] [(93,.B 4 7)]):=Z0 _ _ (wL J)
     have g1:Y0 5 ⟨[(93,.B 4 7)],(vV4 0 1 2 3 g_ []),[],[(4,.box (cC4 0 1 2 3 g_) 27)],29,[(94,.S 3)],[],[],29⟩:=Z0 _ _ (wL J)
     have i1:Y0 6 (zz110 [(8,.I C)] [(95,.I C)]):=Z0 _ _ (wL J)
     obtain ⟨k1,l1,h⟩:=ob h
     have m1:Y0 7 ⟨[(94,.S 3),(95,.I C)],[(3,.sl rR8 g_.Timeouts)],[],[],29,[(96,.P 29 0)],[(29,.pl (cC8 k1))],[],30⟩:=Z0 _ _ (wO Q Q Q (fun _ _ _ _ _ _ _ k=>wj oO8 J l1 Q Q Q Q Q Q Q Q Q (k)) rfl)
     have o1:Y0 8 ⟨[(96,.P 29 0)],[(29,.pl (cC8 k1))],[],[],30,[(97,.P 29 1)],[],[],30⟩:=Z0 _ _ (wL J)
     have p1:Y0 9 ⟨[(97,.P 29 1)],[(29,.pl (cC8 k1))],[],[],30,[(98,.I k1.Ticks)],[],[],30⟩:=Z0 _ _ (wL J)
     have q1:Y0 10 (zz58 [(4,.B 10 0)] [(99,.B 10 6)]):=Z0 _ _ (wL J)
     have s1:Y0 11 ⟨[(99,.B 10 6)],[(6,.sl rS x2.Roles),(7,.sl rR0 x2.Decls)],[],[(10,.box [.s x2.Name,.sl 6,.sl 7,.I q,.I x2.Start,.I x2.End,.sl 21,.sl 22] 27)],30,[(100,.S 21)],[],[],30⟩:=Z0 _ _ (wL J)
     have t1:Y0 12 ⟨[(100,.S 21)],[],[],[(21,.own rR2 Y true)],30,[(101,.I (Y.length:Int))],[],[],30⟩:=Z0 _ _ (wL J)
     have u1:Y0 13 (zz58 [(92,.I q),(98,.I k1.Ticks),(101,.I (Y.length:Int))] [(102,.a [.I q,.I k1.Ticks,.I (Y.length:Int)])]):=Z0 _ _ (wL J)
     have v1:Y0 14 ⟨[(102,.a [.I q,.I k1.Ticks,.I (Y.length:Int)])],[],[],[],30,[(103,.S 30)],[],[(30,.own rR8 ([(⟨q,k1.Ticks,(Y.length:Int)⟩:T8)]:List T8) true)],31⟩:=Z0 _ _ (wO Q Q Q (fun _ _ _ _ _ _ _ k=>WPr.bs (cs:=[.I q,.I k1.Ticks,.I (Y.length:Int)]) oO8 J ([(⟨q,k1.Ticks,(Y.length:Int)⟩:T8)]:List T8) Q Q Q Q Q Q (by kernel_rfl) (by exact (an (an rfl (an Q Q)) rfl)) rfl (k)) rfl)
     obtain ⟨y1,z1,h⟩:=ob h
     have A1:Y0 15 ⟨[(90,.S 22),(103,.S 30)],[],[(22,.own rR8 Z true)],[(30,.own rR8 ([(⟨q,k1.Ticks,(Y.length:Int)⟩:T8)]:List T8) true)],31,[(104,.S 31)],[],[(22,.gone),(31,.own rR8 y1 true)],32⟩:=Z0 _ _ (wO Q Q Q (fun _ _ _ _ _ _ _ k=>WPr.app J z1 (by exact (srcO rfl)) Q Q Q Q Q Q Q Q Q Q (k)) rfl)
     have B1:Y0 16 ⟨[(4,.B 10 0)],[],[],[],32,[(105,.B 10 7)],[],[],32⟩:=Z0 _ _ (wL J)
     have C1:Y0 17 ⟨[(104,.S 31),(105,.B 10 7)],[(6,.sl rS x2.Roles),(7,.sl rR0 x2.Decls)],[(10,.box [.s x2.Name,.sl 6,.sl 7,.I q,.I x2.Start,.I x2.End,.sl 21,.sl 22] 27)],[(31,.own rR8 y1 true)],32,[],[],[(10,.box [.s x2.Name,.sl 6,.sl 7,.I q,.I x2.Start,.I x2.End,.sl 21,.sl 31] 27)],32⟩:=Z0 _ _ (wL J)
     exact wD (t:=⟨[(1,.B 4 0),(2,.B 5 0),(4,.B 10 0),(5,.S 12),(6,.S 28),(8,.I C),(11,.B 26 0),(49,.S 20),(50,.I (G.length:Int)),(51,.I c0)],[(4,.box (cC4 0 1 2 3 g_) 27),(5,.box [.s (str []),.nil,.nil,.I 0,.I 0,.I 0,.nil,.nil] 27),(10,.box [.s x2.Name,.sl 6,.sl 7,.I q,.I x2.Start,.I x2.End,.sl 21,.sl 31] 27),(12,.own (rI .i64) k0 true),(20,.own (rI .i64) G true),(21,.own rR2 Y true),(26,.box (cC2 f0) 43),(28,.own (rI .i64) l0 true),(31,.own rR8 y1 true)],(vV4 0 1 2 3 g_ [(6,.sl rS x2.Roles),(7,.sl rR0 x2.Decls)]),32⟩) [0,1,0,4,0,16,0,112,240,496,0,1024,3072,8188,16380,32767,65535,131071] (.cons (a1 _ _ b1) (.cons (a1 _ _ c1) (.cons (a1 _ _ d1) (.cons (a1 _ _ e1) (.cons (a1 _ _ f1) (.cons (a1 _ _ g1) (.cons (a1 _ _ i1) (.cons (a1 _ _ m1) (.cons (a1 _ _ o1) (.cons (a1 _ _ p1) (.cons (a1 _ _ q1) (.cons (a1 _ _ s1) (.cons (a1 _ _ t1) (.cons (a1 _ _ u1) (.cons (a1 _ _ v1) (.cons (a1 _ _ A1) (.cons (a1 _ _ B1) (.cons (a1 _ _ C1) .nil)))))))))))))))))) (by kernel_rfl) (by kernel_rfl) (by kernel_rfl) (by kernel_rfl) (wu [(29,.sl 31)] (j129 y1 h) Q Q Q Q)
    obtain ⟨K,h⟩|⟨K,h⟩:=oc' h
    ·exact wy 79 K Q (wx (zz89 g_ x2.Name q x2.Start x2.End k0 G Y Z f0 l0 x2.Roles x2.Decls [(1,.B 4 0),(2,.B 5 0),(4,.B 10 0),(5,.S 12),(6,.S 28),(8,.I C),(11,.B 26 0),(49,.S 20),(50,.I (G.length:Int)),(51,.I c0),(88,.O false)]) J 9 (wn (wU (j128 false h))))
    refine wy 79 K Q (xw (rg 6 6) (zz89 g_ x2.Name q x2.Start x2.End k0 G Y Z f0 l0 x2.Roles x2.Decls [(1,.B 4 0),(2,.B 5 0),(4,.B 10 0),(5,.S 12),(6,.S 28),(8,.I C),(10,.I d0),(11,.B 26 0),(49,.S 20),(50,.I (G.length:Int)),(51,.I c0),(79,.O true),(81,.S 3),(82,.I C)]) J 3 ?_)
    obtain ⟨D1,G1,h⟩:=ob h
    exact wj oO8 J G1 Q Q Q Q Q Q Q Q Q (wx ⟨[(1,.B 4 0),(2,.B 5 0),(4,.B 10 0),(5,.S 12),(6,.S 28),(8,.I C),(11,.B 26 0),(49,.S 20),(50,.I (G.length:Int)),(51,.I c0),(88,.O (D1.Else==d0))],[(4,.box (cC4 0 1 2 3 g_) 27),(5,.box [.s (str []),.nil,.nil,.I 0,.I 0,.I 0,.nil,.nil] 27),(10,.box [.s x2.Name,.sl 6,.sl 7,.I q,.I x2.Start,.I x2.End,.sl 21,.sl 22] 27),(12,.own (rI .i64) k0 true),(20,.own (rI .i64) G true),(21,.own rR2 Y true),(22,.own rR8 Z true),(26,.box (cC2 f0) 43),(28,.own (rI .i64) l0 true)],(vV4 0 1 2 3 g_ [(6,.sl rS x2.Roles),(7,.sl rR0 x2.Decls)]),30⟩ J 5 (wn (wU (j128 (D1.Else==d0) h))))
   obtain ⟨K,h⟩|⟨K,h⟩:=oc' h
   ·exact wf K Q (wi (wu [(28,.sl 23)] (j127 (a0,b0) h) Q Q Q Q))
   refine wt K Q (wq (wg (xw [5,6] (zz179 g_ x2.Name q x2.Start x2.End a0 G Y Z b0 f0 x2.Roles x2.Decls [(1,.B 4 0),(2,.B 5 0),(4,.B 10 0),(5,.S 12),(6,.S 23),(8,.I C),(10,.I d0),(11,.B 26 0),(49,.S 20),(50,.I (G.length:Int)),(51,.I c0),(66,.S 12),(68,.I f0.To),(70,.I (b0.length:Int))]) J 5 ?_)))
   obtain ⟨H1,I1,h⟩:=ob h
   refine wX J I1 Q Q Q Q Q Q Q Q Q (WPr.sto (oI .i64) J (b0.length:Int) I1 Q Q Q Q Q Q Q Q Q Q (by exact rfl) rfl (wn (wg (xw [3,4,5] ⟨[(1,.B 4 0),(2,.B 5 0),(4,.B 10 0),(5,.S 12),(8,.I C),(10,.I d0),(11,.B 26 0),(49,.S 20),(50,.I (G.length:Int)),(51,.I c0),(72,.S 23),(74,.I f0.To)],[(4,.box (cC4 0 1 2 3 g_) 27),(5,.box [.s (str []),.nil,.nil,.I 0,.I 0,.I 0,.nil,.nil] 27),(10,.box [.s x2.Name,.sl 6,.sl 7,.I q,.I x2.Start,.I x2.End,.sl 21,.sl 22] 27),(12,.own (rI .i64) (setL' a0 f0.To (b0.length:Int)) true),(20,.own (rI .i64) G true),(21,.own rR2 Y true),(22,.own rR8 Z true),(23,.own (rI .i64) b0 true),(26,.box (cC2 f0) 43)],(vV4 0 1 2 3 g_ [(6,.sl rS x2.Roles),(7,.sl rR0 x2.Decls)]),29⟩ J 3 (WPr.bs (cs:=[.I f0.To]) (oI .i64) J ([f0.To]:List Int) Q Q Q Q Q Q (by kernel_rfl) (by exact (an Q Q)) rfl ?_)))))
   obtain ⟨L1,M1,h⟩:=ob h
   exact WPr.app J M1 (by exact (srcO rfl)) Q Q Q Q Q Q Q Q Q Q (wx ⟨[(1,.B 4 0),(2,.B 5 0),(4,.B 10 0),(5,.S 12),(6,.S 30),(8,.I C),(10,.I d0),(11,.B 26 0),(49,.S 20),(50,.I (G.length:Int)),(51,.I c0)],[(4,.box (cC4 0 1 2 3 g_) 27),(5,.box [.s (str []),.nil,.nil,.I 0,.I 0,.I 0,.nil,.nil] 27),(10,.box [.s x2.Name,.sl 6,.sl 7,.I q,.I x2.Start,.I x2.End,.sl 21,.sl 22] 27),(12,.own (rI .i64) (setL' a0 f0.To (b0.length:Int)) true),(20,.own (rI .i64) G true),(21,.own rR2 Y true),(22,.own rR8 Z true),(26,.box (cC2 f0) 43),(30,.own (rI .i64) L1 true)],(vV4 0 1 2 3 g_ [(6,.sl rS x2.Roles),(7,.sl rR0 x2.Decls)]),31⟩ J 1 (wn (wu [(28,.sl 30)] (j127 ((setL' a0 f0.To (b0.length:Int)),L1) h) Q Q Q Q)))
  exact wu [(21,.sl 15),(22,.sl 16),(23,.sl 17)] (ih N (u,v,x,y,0) h) Q Q Q Q
 exact wu [(15,.sl 8),(16,.sl 9),(17,.sl 14)] (ih N (x2.States,x2.Edges,x2.Timeouts,(setL' x3 g_.Start 0),([g_.Start]:List Int)) h) Q Q Q Q
theorem z82_ct (N:Nat) (b_:(List Int)) (n_:Int) (r:(List Int)) (h:z82 N b_ n_=some r) :
 Fn Tryz.prog 82 ⟨1,[.S 0,.I n_],[],[(0,.own (rI .u8) b_ false)],2,.S 1,[],[(1,.own (rI .u8) r false),(0,.gone)]⟩:=by
 refine wF func82 Q Q (fun E F w=>?_)
 unfold z82 at h
 refine wR J 1 Q (wq (wg (xw (rg 2 6) (zz90 b_ [(0,.S 0),(1,.I n_),(4,.c .nil),(7,.c (.i .u64 (wk .u64 (n_))))]) J 2 ?_)))
 obtain ⟨x1,d,h⟩:=ob h
 refine WPr.bin d Q Q Q Q Q Q Q Q (ws J 1 Q ?_)
 obtain ⟨x2,e,h⟩:=ob h
 refine WPr.bin e Q Q Q Q Q Q Q Q (xw [6,7] (zz90 b_ [(0,.S 0),(4,.c .nil),(8,.c (.i .u64 x1)),(11,.c (.i .u64 (wk .u64 (x2))))]) J 1 ?_)
 obtain ⟨x3,f,h⟩:=ob h
 refine WPr.bin f Q Q Q Q Q Q Q Q (ws J 1 Q (wn (wq ?_)))
 refine wC (σ:=(List Int) × Int) (fun st=>(zz91 st.1 [(0,.S 1),(5,.c (.i .u64 st.2))])) (fun st=>z82_k1 st.1 st.2=some r) ?_ (fun j1=>?_)
 ·rintro ⟨g,j⟩ h
  replace h:z82_k1 g j=some r:=h
  unfold z82_k1 at h
  refine wq (wg (xw [3,4,5] (zz91 g [(23,.S 1),(25,.c (.i .u8 (wk .u8 (j))))]) J 3 (WPr.bs (cs:=[.i .u8 (wk .u8 (j))]) (oI .u8) J ([(wk .u8 (j))]:List Int) Q Q Q Q Q Q (by kernel_rfl) (by exact (an Q Q)) rfl ?_)))
  obtain ⟨k,l,h⟩:=ob h
  refine WPr.app J l (by exact (srcO rfl)) Q Q Q Q Q Q Q Q Q Q (wx ⟨[(4,.S 3)],[(3,.own (rI .u8) k false)],[],4⟩ J 1 (wn ?_))
  cases h
  exact we J func82 [(1,.sl 3)] Q Q Q Q
 refine wo ?_
 refine wI (σ:=(List Int) × Int) (fun st=>(zz91 st.1 [(0,.S 1),(5,.c (.i .u64 st.2))])) (fun n st=>z82_l2 n st.1 st.2) (r:=r) (fun _=>rfl) ?_ (fun ih=>?_)
 ·intro n2 ih3
  rintro ⟨m,o⟩ h
  replace h:z82_l2 (n2+1) m o=some r:=h
  unfold z82_l2 at h
  refine wq (wR J 2 Q ?_)
  obtain ⟨K,h⟩|⟨K,h⟩:=oc' h
  ·exact wf K Q (wz rfl (wU (j1 (m,o) h)))
  refine wt K Q (wi (wo (wq (wg (xw [3,4,5,6] (zz91 m [(5,.c (.i .u64 o)),(15,.S 1),(17,.c (.i .u8 (wk .u8 (o))))]) J 3 ?_)))))
  obtain ⟨p,q,h⟩:=ob h
  refine WPr.bin q Q Q Q Q Q Q Q Q (WPr.bs (cs:=[.i .u8 p]) (oI .u8) J ([p]:List Int) Q Q Q Q Q Q (by kernel_rfl) (by exact (an Q Q)) rfl ?_)
  obtain ⟨s,t,h⟩:=ob h
  refine WPr.app J t (by exact (srcO rfl)) Q Q Q Q Q Q Q Q Q Q (wx ⟨[(0,.S 3),(5,.c (.i .u64 o))],[(3,.own (rI .u8) s false)],[],4⟩ J 1 (wn (wg (ws J 1 Q ?_))))
  obtain ⟨u,v,h⟩:=ob h
  exact WPr.bin v Q Q Q Q Q Q Q Q (wx ⟨[(0,.S 3),(5,.c (.i .u64 u))],[(3,.own (rI .u8) s false)],[],4⟩ J 1 (wn (wb (wu [(1,.sl 3)] (ih3 (s,u) h) Q Q Q Q))))
 exact wu [(1,.sl 0)] (ih N (b_,x3) h) Q Q Q Q
theorem z83_ct (N:Nat) (b_:(List Int)) (s_:ByteArray) (r:(List Int)) (h:z83 N b_ s_=some r) :
 Fn Tryz.prog 83 ⟨1,[.S 0,.c (.s s_)],[],[(0,.own (rI .u8) b_ false)],2,.S 1,[],[(1,.own (rI .u8) r false),(0,.gone)]⟩:=by
 refine wF func83 Q Q (fun E F w=>?_)
 unfold z83 at h
 refine wR J 1 Q (wq (wg (xw [3,4,5,6] (zz90 b_ [(1,.c (.s s_)),(5,.S 0),(7,.I (s_.size:Int))]) J 3 ?_)))
 obtain ⟨x1,d,h⟩:=ob h
 refine wc (z82_ct N b_ (s_.size:Int) _ d) [(0,.sl 0)] [] Q Q Q Q Q Q Q Q (.inl rfl) rfl (xw [5,6] (zz91 x1 [(8,.S 1),(9,.c (.s s_))]) J 1 ?_)
 obtain ⟨x2,e,h⟩:=ob h
 refine WPr.app J e (by exact srcS) Q Q Q Q Q Q Q Q Q Q (wx ⟨[(4,.S 2)],[(2,.own (rI .u8) x2 false)],[],3⟩ J 1 (wn ?_))
 cases h
 exact we J func83 [(1,.sl 2)] Q Q Q Q
theorem z85_ct (N:Nat) (b_:(List Int)) (l_:(List Int)) (r:(List Int)) (h:z85 N b_ l_=some r) :
 Fn Tryz.prog 85 ⟨2,[.S 0,.S 1],[(1,.sl (rI .i64) l_)],[(0,.own (rI .u8) b_ false)],3,.S 2,[],[(2,.own (rI .u8) r false),(0,.gone)]⟩:=by
 refine wF func85 Q Q (fun E F w=>?_)
 unfold z85 at h
 refine wR J 1 Q (wq (wV ⟨[(0,.S 0),(4,.c .nil),(7,.S 1),(8,.I (l_.length:Int)),(9,.I 0)],[(0,.own (rI .u8) b_ false)],[(1,.sl (rI .i64) l_)],2⟩ J 3 ?_))
 refine wC (σ:=(List Int)) (fun st=>⟨[(0,.S 2)],[(2,.own (rI .u8) st false)],[(1,.sl (rI .i64) l_)],3⟩) (fun st=>z85_k1 st=some r) ?_ (fun j1=>?_)
 ·intro d h
  replace h:z85_k1 d=some r:=h
  unfold z85_k1 at h
  refine wR J 2 Q ?_
  cases h
  exact we J func85 [(2,.sl 2)] Q Q Q Q
 refine wo ?_
 refine wI (σ:=(List Int) × Int) (fun st=>⟨[(0,.S 2),(7,.S 1),(8,.I (l_.length:Int)),(9,.I st.2)],[(2,.own (rI .u8) st.1 false)],[(1,.sl (rI .i64) l_)],3⟩) (fun n st=>z85_l2 N l_ n st.1 st.2) (r:=r) (fun _=>rfl) ?_ (fun ih=>?_)
 ·intro n2 ih3
  rintro ⟨e,f⟩ h
  replace h:z85_l2 N l_ (n2+1) e f=some r:=h
  unfold z85_l2 at h
  refine wR J 1 Q (wq ?_)
  obtain ⟨K,h⟩|⟨K,h⟩:=oc' h
  ·exact wf K Q (wz rfl (wU (j1 e h)))
  refine wt K Q (wi (wq (wo (wq (wg ?_)))))
  obtain ⟨g,i,h⟩:=ob h
  refine wj (oI .i64) J i Q Q Q Q Q Q Q Q Q (wx ⟨[(0,.S 2),(6,.I g),(7,.S 1),(8,.I (l_.length:Int)),(9,.I f)],[(2,.own (rI .u8) e false)],[(1,.sl (rI .i64) l_)],4⟩ J 2 (wn (wg (ws J 2 Q ?_))))
  obtain ⟨j,k,h⟩:=ob h
  exact wc (z82_ct N e g _ k) [(0,.sl 2)] [] Q Q Q Q Q Q Q Q (.inl rfl) rfl (wx ⟨[(0,.S 4),(7,.S 1),(8,.I (l_.length:Int)),(9,.I f)],[(4,.own (rI .u8) j false)],[(1,.sl (rI .i64) l_)],5⟩ J 1 (wn (wb (wS J 2 Q (wu [(2,.sl 4)] (ih3 (j,(w64 (f+1))) h) Q Q Q Q)))))
 exact wu [(2,.sl 0)] (ih N (b_,0) h) Q Q Q Q
theorem z84_ct (N:Nat) (b_:(List Int)) (d_:T0) (r:(List Int)) (h:z84 N b_ d_=some r) :
 Fn Tryz.prog 84 ⟨4,[.S 0,.a (cC0 1 2 3 d_)],(vV0 1 2 3 d_ []),[(0,.own (rI .u8) b_ false)],5,.S 4,[],[(4,.own (rI .u8) r false),(0,.gone)]⟩:=by
 refine wF func84 Q Q (fun E F w=>?_)
 unfold z84 at h
 refine wR J 2 Q (wq (wN (fun A1 d e=>?_)))
 have f:A1 0 (zz35 [(0,.S 0)] [(11,.S 0)]):=d _ _ (wL J)
 have g:A1 1 (zz35 [(3,.B 4 0)] [(12,.B 4 0)]):=d _ _ (wL J)
 have i:A1 2 ⟨[(12,.B 4 0)],(vV0 1 2 3 d_ []),[],[(4,.box (cC0 1 2 3 d_) 94)],5,[(13,.c (.s d_.Name))],[],[],5⟩:=d _ _ (wL J)
 obtain ⟨x4,j,h⟩:=ob h
 have l:A1 3 ⟨[(11,.S 0),(13,.c (.s d_.Name))],[],[(0,.own (rI .u8) b_ false)],[],5,[(14,.S 5)],[],[(0,.gone),(5,.own (rI .u8) x4 false)],6⟩:=d _ _ (wO Q Q Q (fun _ _ _ _ _ _ _ k=>wc (z83_ct N b_ d_.Name _ j) [(0,.sl 0)] [] Q Q Q Q Q Q Q Q (.inl rfl) rfl (k)) rfl)
 have m:A1 4 (zz3 [(3,.B 4 0)] [(15,.B 4 1)]):=d _ _ (wL J)
 have o:A1 5 ⟨[(15,.B 4 1)],(vV0 1 2 3 d_ []),[],[(4,.box (cC0 1 2 3 d_) 94)],6,[(16,.S 1)],[],[],6⟩:=d _ _ (wL J)
 have p:A1 6 ⟨[(16,.S 1)],[(1,.sl rR3 d_.Fields)],[],[],6,[(17,.I (d_.Fields.length:Int))],[],[],6⟩:=d _ _ (wL J)
 obtain ⟨x9,q,h⟩:=ob h
 have u:A1 7 ⟨[(14,.S 5),(17,.I (d_.Fields.length:Int))],[],[(5,.own (rI .u8) x4 false)],[],6,[(18,.S 6)],[],[(5,.gone),(6,.own (rI .u8) x9 false)],7⟩:=d _ _ (wO Q Q Q (fun _ _ _ _ _ _ _ k=>wc (z82_ct N x4 (d_.Fields.length:Int) _ q) [(0,.sl 5)] [] Q Q Q Q Q Q Q Q (.inl rfl) rfl (k)) rfl)
 have v:A1 8 (zz4 [(18,.S 6)] [(0,.S 6)]):=d _ _ (wL J)
 refine wD (t:=⟨[(0,.S 6),(3,.B 4 0),(4,.c .nil)],[(4,.box (cC0 1 2 3 d_) 94),(6,.own (rI .u8) x9 false)],(vV0 1 2 3 d_ []),7⟩) [0,0,2,7,0,16,48,127,255] (.cons (e _ _ f) (.cons (e _ _ g) (.cons (e _ _ i) (.cons (e _ _ l) (.cons (e _ _ m) (.cons (e _ _ o) (.cons (e _ _ p) (.cons (e _ _ u) (.cons (e _ _ v) .nil))))))))) (by kernel_rfl) (by kernel_rfl) (by kernel_rfl) (by kernel_rfl) (wq (wV ⟨[(0,.S 6),(3,.B 4 0),(4,.c .nil),(20,.S 1),(21,.I (d_.Fields.length:Int)),(22,.I 0)],[(4,.box (cC0 1 2 3 d_) 94),(6,.own (rI .u8) x9 false)],(vV0 1 2 3 d_ []),7⟩ J 4 ?_))
 refine wC (σ:=(List Int)) (fun st=>(zz134 d_ st [(0,.S 7),(3,.B 4 0)])) (fun st=>z84_k5 N d_ st=some r) ?_ (fun j1=>?_)
 ·intro x h
  replace h:z84_k5 N d_ x=some r:=h
  unfold z84_k5 at h
  refine wq (wg (xw [7,8,9] (zz134 d_ x [(3,.B 4 0),(42,.S 7),(44,.I d_.First),(48,.I (d_.Guard.Diffs.length:Int))]) J 7 (WPr.bs (cs:=[.I d_.First,.I (d_.Guard.Diffs.length:Int)]) (oI .i64) J ([d_.First,(d_.Guard.Diffs.length:Int)]:List Int) Q Q Q Q Q Q (by kernel_rfl) (by exact (an rfl (an Q Q))) rfl ?_)))
  obtain ⟨y,z,h⟩:=ob h
  refine wc (z85_ct N x ([d_.First,(d_.Guard.Diffs.length:Int)]:List Int) _ z) [(0,.sl 7),(1,.sl 8)] [8] Q Q Q Q Q Q Q Q (.inr ⟨rfl,⟨(rI_flat _),trivial⟩⟩) rfl (wx ⟨[(0,.S 9),(3,.B 4 0)],[(4,.box (cC0 1 2 3 d_) 94),(9,.own (rI .u8) y false)],(vV0 1 2 3 d_ []),10⟩ J 1 (wn (wq (wV ⟨[(0,.S 9),(3,.B 4 0),(53,.S 2),(54,.I (d_.Guard.Diffs.length:Int)),(55,.I 0)],[(4,.box (cC0 1 2 3 d_) 94),(9,.own (rI .u8) y false)],(vV0 1 2 3 d_ []),10⟩ J 5 ?_))))
  refine wC (σ:=(List Int)) (fun st=>(zz135 d_ st [(0,.S 10),(3,.B 4 0)])) (fun st=>z84_k3 N d_ st=some r) ?_ (fun j3=>?_)
  ·intro A h
   replace h:z84_k3 N d_ A=some r:=h
   unfold z84_k3 at h
   refine wq (wg (xw [5,6] (zz135 d_ A [(3,.B 4 0),(69,.S 10),(73,.I (d_.Guard.Equals.length:Int))]) J 5 ?_))
   obtain ⟨D,G,h⟩:=ob h
   refine wc (z82_ct N A (d_.Guard.Equals.length:Int) _ G) [(0,.sl 10)] [] Q Q Q Q Q Q Q Q (.inl rfl) rfl (wx ⟨[(0,.S 11),(3,.B 4 0)],[(4,.box (cC0 1 2 3 d_) 94),(11,.own (rI .u8) D false)],(vV0 1 2 3 d_ []),12⟩ J 1 (wn (wq (wV ⟨[(0,.S 11),(77,.S 3),(78,.I (d_.Guard.Equals.length:Int)),(79,.I 0)],[(11,.own (rI .u8) D false)],(vV0 1 2 3 d_ []),12⟩ J 5 ?_))))
   refine wC (σ:=(List Int)) (fun st=>⟨[(0,.S 12)],[(12,.own (rI .u8) st false)],(vV0 1 2 3 d_ []),13⟩) (fun st=>z84_k1 st=some r) ?_ (fun j5=>?_)
   ·intro H h
    replace h:z84_k1 H=some r:=h
    unfold z84_k1 at h
    refine wR J 2 Q ?_
    cases h
    exact we J func84 [(4,.sl 12)] Q Q Q Q
   refine wo ?_
   refine wI (σ:=(List Int) × Int) (fun st=>⟨[(0,.S 12),(77,.S 3),(78,.I (d_.Guard.Equals.length:Int)),(79,.I st.2)],[(12,.own (rI .u8) st.1 false)],(vV0 1 2 3 d_ []),13⟩) (fun n st=>z84_l2 N d_ n st.1 st.2) (r:=r) (fun _=>rfl) ?_ (fun ih=>?_)
   ·intro n4 ih7
    rintro ⟨R,T⟩ h
    replace h:z84_l2 N d_ (n4+1) R T=some r:=h
    unfold z84_l2 at h
    refine wR J 1 Q (wq ?_)
    obtain ⟨K,h⟩|⟨K,h⟩:=oc' h
    ·exact wf K Q (wz rfl (wU (j5 R h)))
    refine wt K Q (wi (wq (wo (wq (wg ?_)))))
    obtain ⟨U,Z,h⟩:=ob h
    refine wj (oP (oI .i64) (oI .i64)) J Z Q Q Q Q Q Q Q Q Q (wx ⟨[(0,.S 12),(10,.B 14 0),(77,.S 3),(78,.I (d_.Guard.Equals.length:Int)),(79,.I T)],[(12,.own (rI .u8) R false),(14,.box [.I U.1,.I U.2] 146)],(vV0 1 2 3 d_ []),15⟩ J 3 (wn (wg (ws J 1 Q (WPr.slb (len:=2) (el:=3) (oI .i64) ([U.1,U.2]:List Int) (by exact (an rfl (an Q Q))) Q Q Q Q (by kernel_rfl) (by kernel_rfl) Q Q Q ?_)))))
    obtain ⟨a0,b0,h⟩:=ob h
    exact wc (z85_ct N R ([U.1,U.2]:List Int) _ b0) [(0,.sl 12),(1,.sl 15)] [15] Q Q Q Q Q Q Q Q (.inr ⟨rfl,⟨(rI_flat _),trivial⟩⟩) rfl (wx ⟨[(0,.S 16),(77,.S 3),(78,.I (d_.Guard.Equals.length:Int)),(79,.I T)],[(16,.own (rI .u8) a0 false)],(vV0 1 2 3 d_ []),17⟩ J 1 (wn (wb (wS J 2 Q (wu [(12,.sl 16)] (ih7 (a0,(w64 (T+1))) h) Q Q Q Q)))))
   exact wu [(12,.sl 11)] (ih N (D,0) h) Q Q Q Q
  refine wo ?_
  refine wI (σ:=(List Int) × Int) (fun st=>(zz135 d_ st.1 [(0,.S 10),(3,.B 4 0),(53,.S 2),(54,.I (d_.Guard.Diffs.length:Int)),(55,.I st.2)])) (fun n st=>z84_l4 N d_ n st.1 st.2) (r:=r) (fun _=>rfl) ?_ (fun ih=>?_)
  ·intro n5 ih8
   rintro ⟨c0,d0⟩ h
   replace h:z84_l4 N d_ (n5+1) c0 d0=some r:=h
   unfold z84_l4 at h
   refine wR J 1 Q (wq ?_)
   obtain ⟨K,h⟩|⟨K,h⟩:=oc' h
   ·exact wf K Q (wz rfl (wU (j3 c0 h)))
   refine wt K Q (wi (wq (wo (wq (wg ?_)))))
   obtain ⟨e0,f0,h⟩:=ob h
   refine wj oO1 J f0 Q Q Q Q Q Q Q Q Q (wx ⟨[(0,.S 10),(3,.B 4 0),(8,.B 12 0),(53,.S 2),(54,.I (d_.Guard.Diffs.length:Int)),(55,.I d0)],[(4,.box (cC0 1 2 3 d_) 94),(10,.own (rI .u8) c0 false),(12,.box (cC1 e0) 144)],(vV0 1 2 3 d_ []),13⟩ J 3 (wn (wg (xw [7,8,9] ⟨[(3,.B 4 0),(53,.S 2),(54,.I (d_.Guard.Diffs.length:Int)),(55,.I d0),(59,.S 10),(61,.I e0.X),(63,.I e0.Y),(65,.I e0.C)],[(4,.box (cC0 1 2 3 d_) 94),(10,.own (rI .u8) c0 false)],(vV0 1 2 3 d_ []),13⟩ J 7 (WPr.bs (cs:=(cC1 e0)) (oI .i64) J ([e0.X,e0.Y,e0.C]:List Int) Q Q Q Q Q Q (by kernel_rfl) (by exact (an rfl (an rfl (an Q Q)))) rfl ?_)))))
   obtain ⟨g0,i0,h⟩:=ob h
   exact wc (z85_ct N c0 ([e0.X,e0.Y,e0.C]:List Int) _ i0) [(0,.sl 10),(1,.sl 13)] [13] Q Q Q Q Q Q Q Q (.inr ⟨rfl,⟨(rI_flat _),trivial⟩⟩) rfl (wx ⟨[(0,.S 14),(3,.B 4 0),(53,.S 2),(54,.I (d_.Guard.Diffs.length:Int)),(55,.I d0)],[(4,.box (cC0 1 2 3 d_) 94),(14,.own (rI .u8) g0 false)],(vV0 1 2 3 d_ []),15⟩ J 1 (wn (wb (wS J 2 Q (wu [(10,.sl 14)] (ih8 (g0,(w64 (d0+1))) h) Q Q Q Q)))))
  exact wu [(10,.sl 9)] (ih N (y,0) h) Q Q Q Q
 refine wo ?_
 refine wI (σ:=(List Int) × Int) (fun st=>(zz134 d_ st.1 [(0,.S 7),(3,.B 4 0),(20,.S 1),(21,.I (d_.Fields.length:Int)),(22,.I st.2)])) (fun n st=>z84_l6 N d_ n st.1 st.2) (r:=r) (fun _=>rfl) ?_ (fun ih=>?_)
 ·intro n6 ih9
  rintro ⟨j0,k0⟩ h
  replace h:z84_l6 N d_ (n6+1) j0 k0=some r:=h
  unfold z84_l6 at h
  refine wR J 1 Q (wq ?_)
  obtain ⟨K,h⟩|⟨K,h⟩:=oc' h
  ·exact wf K Q (wz rfl (wU (j1 j0 h)))
  refine wt K Q (wi (wq (wo (wq (wg ?_)))))
  obtain ⟨l0,m0,h⟩:=ob h
  refine wj oO3 J m0 Q Q Q Q Q Q Q Q Q (wx ⟨[(0,.S 7),(3,.B 4 0),(6,.B 9 0),(20,.S 1),(21,.I (d_.Fields.length:Int)),(22,.I k0)],[(4,.box (cC0 1 2 3 d_) 94),(7,.own (rI .u8) j0 false),(9,.box (cC3 l0) 141)],(vV0 1 2 3 d_ []),10⟩ J 3 (wn (wN (fun o0 p0 q0=>?_))))
  have s0:o0 0 (zz20 [(0,.S 7)] [(26,.S 7)]):=p0 _ _ (wL J)
  have t0:o0 1 (zz20 [(6,.B 9 0)] [(27,.B 9 0)]):=p0 _ _ (wL J)
  have u0:o0 2 ⟨[(27,.B 9 0)],[],[],[(9,.box (cC3 l0) 141)],10,[(28,.c (.s l0.Name))],[],[],10⟩:=p0 _ _ (wL J)
  obtain ⟨v0,x0,h⟩:=ob h
  have y0:o0 3 ⟨[(26,.S 7),(28,.c (.s l0.Name))],[],[(7,.own (rI .u8) j0 false)],[],10,[(29,.S 10)],[],[(7,.gone),(10,.own (rI .u8) v0 false)],11⟩:=p0 _ _ (wO Q Q Q (fun _ _ _ _ _ _ _ k=>wc (z83_ct N j0 l0.Name _ x0) [(0,.sl 7)] [] Q Q Q Q Q Q Q Q (.inl rfl) rfl (k)) rfl)
  have z0:o0 4 (zz25 [(6,.B 9 0)] [(30,.B 9 1)]):=p0 _ _ (wL J)
  have A0:o0 5 (zz25 [(30,.B 9 1)] [(31,.B 9 1)]):=p0 _ _ (wL J)
  have B0:o0 6 (zz136 l0 [(31,.B 9 1)] [(32,.I l0.Sort'.Kind)]):=p0 _ _ (wL J)
  have C0:o0 7 (zz25 [(6,.B 9 0)] [(33,.B 9 1)]):=p0 _ _ (wL J)
  have D0:o0 8 (zz25 [(33,.B 9 1)] [(34,.B 9 2)]):=p0 _ _ (wL J)
  have G0:o0 9 (zz136 l0 [(34,.B 9 2)] [(35,.I l0.Sort'.Lo)]):=p0 _ _ (wL J)
  have H0:o0 10 (zz25 [(6,.B 9 0)] [(36,.B 9 1)]):=p0 _ _ (wL J)
  have I0:o0 11 (zz25 [(36,.B 9 1)] [(37,.B 9 3)]):=p0 _ _ (wL J)
  have L0:o0 12 (zz136 l0 [(37,.B 9 3)] [(38,.I l0.Sort'.Hi)]):=p0 _ _ (wL J)
  have M0:o0 13 ⟨[(32,.I l0.Sort'.Kind),(35,.I l0.Sort'.Lo),(38,.I l0.Sort'.Hi)],[],[],[],11,[(39,.S 11)],[],[(11,.own (rI .i64) ([l0.Sort'.Kind,l0.Sort'.Lo,l0.Sort'.Hi]:List Int) true)],12⟩:=p0 _ _ (wO Q Q Q (fun _ _ _ _ _ _ _ k=>WPr.bs (cs:=(cC7 l0.Sort')) (oI .i64) J ([l0.Sort'.Kind,l0.Sort'.Lo,l0.Sort'.Hi]:List Int) Q Q Q Q Q Q (by kernel_rfl) (by exact (an rfl (an rfl (an Q Q)))) rfl (k)) rfl)
  obtain ⟨O0,R0,h⟩:=ob h
  have S0:o0 14 ⟨[(29,.S 10),(39,.S 11)],[],[(10,.own (rI .u8) v0 false)],[(11,.own (rI .i64) ([l0.Sort'.Kind,l0.Sort'.Lo,l0.Sort'.Hi]:List Int) true)],12,[(40,.S 12)],[],[(10,.gone),(12,.own (rI .u8) O0 false)],13⟩:=p0 _ _ (wO Q Q Q (fun _ _ _ _ _ _ _ k=>wc (z85_ct N v0 ([l0.Sort'.Kind,l0.Sort'.Lo,l0.Sort'.Hi]:List Int) _ R0) [(0,.sl 10),(1,.sl 11)] [11] Q Q Q Q Q Q Q Q (.inr ⟨rfl,⟨(rI_flat _),trivial⟩⟩) rfl (k)) rfl)
  have T0:o0 15 (zz36 [(40,.S 12)] [(0,.S 12)]):=p0 _ _ (wL J)
  exact wD (t:=⟨[(0,.S 12),(3,.B 4 0),(20,.S 1),(21,.I (d_.Fields.length:Int)),(22,.I k0)],[(4,.box (cC0 1 2 3 d_) 94),(12,.own (rI .u8) O0 false)],(vV0 1 2 3 d_ []),13⟩) [0,0,2,7,0,16,48,0,128,384,0,1024,3072,8176,16383,32767] (.cons (q0 _ _ s0) (.cons (q0 _ _ t0) (.cons (q0 _ _ u0) (.cons (q0 _ _ y0) (.cons (q0 _ _ z0) (.cons (q0 _ _ A0) (.cons (q0 _ _ B0) (.cons (q0 _ _ C0) (.cons (q0 _ _ D0) (.cons (q0 _ _ G0) (.cons (q0 _ _ H0) (.cons (q0 _ _ I0) (.cons (q0 _ _ L0) (.cons (q0 _ _ M0) (.cons (q0 _ _ S0) (.cons (q0 _ _ T0) .nil)))))))))))))))) (by kernel_rfl) (by kernel_rfl) (by kernel_rfl) (by kernel_rfl) (wb (wS J 2 Q (wu [(7,.sl 12)] (ih9 (O0,(w64 (k0+1))) h) Q Q Q Q)))
 exact wu [(7,.sl 6)] (ih N (x9,0) h) Q Q Q Q
theorem z86_ct (N:Nat) (b_:(List Int)) (v_:Bool) (r:(List Int)) (h:z86 N b_ v_=some r) :
 Fn Tryz.prog 86 ⟨1,[.S 0,.O v_],[],[(0,.own (rI .u8) b_ false)],2,.S 1,[],[(1,.own (rI .u8) r false),(0,.gone)]⟩:=by
 refine wF func86 Q Q (fun E F w=>?_)
 unfold z86 at h
 refine wR J 1 Q (wq (wR J 1 Q ?_))
 obtain ⟨K,h⟩|⟨K,h⟩:=oc h
 ·refine wt K Q (wq (wg (xw [1,2,3] (zz90 b_ [(6,.S 0)]) J 1 (WPr.bs (cs:=[.i .u8 1]) (oI .u8) J ([1]:List Int) Q Q Q Q Q Q (by kernel_rfl) (by exact (an Q Q)) rfl ?_))))
  obtain ⟨x1,c,h⟩:=ob h
  refine WPr.app J c (by exact (srcO rfl)) Q Q Q Q Q Q Q Q Q Q (wx ⟨[(4,.S 2)],[(2,.own (rI .u8) x1 false)],[],3⟩ J 1 (wn ?_))
  cases h
  exact we J func86 [(1,.sl 2)] Q Q Q Q
 refine wf K Q (wi (wq (wg (xw [1,2,3] (zz90 b_ [(9,.S 0)]) J 1 (WPr.bs (cs:=[.i .u8 0]) (oI .u8) J ([0]:List Int) Q Q Q Q Q Q (by kernel_rfl) (by exact (an Q Q)) rfl ?_)))))
 obtain ⟨x2,d,h⟩:=ob h
 refine WPr.app J d (by exact (srcO rfl)) Q Q Q Q Q Q Q Q Q Q (wx ⟨[(4,.S 2)],[(2,.own (rI .u8) x2 false)],[],3⟩ J 1 (wn ?_))
 cases h
 exact we J func86 [(1,.sl 2)] Q Q Q Q
theorem z37_ct (N:Nat) (g_:T4) (r:(List Int)) (h:z37 N g_=some r) :
 Fn Tryz.prog 37 ⟨4,[.a (cC4 0 1 2 3 g_)],(vV4 0 1 2 3 g_ []),[],5,.S 4,[],[(4,.own (rI .u8) r true)]⟩:=by
 refine wF func37 Q Q (fun E F w=>?_)
 unfold z37 at h
 refine wR J 2 Q (wq (wq (wg (xw [1,2] (zz2 g_ [(1,.B 4 0),(2,.c .nil),(12,.a (cC4 0 1 2 3 g_))]) J 1 ?_))))
 obtain ⟨x1,d,h⟩:=ob h
 refine wc (z22_ct N g_ _ d) [(0,.sl 0),(1,.sl 1),(2,.sl 2),(3,.sl 3)] [] Q Q Q Q Q Q Q Q (.inl rfl) rfl (wx (zz2 g_ [(1,.B 4 0),(2,.c .nil),(14,.O (!x1))]) J 1 (wn ?_))
 obtain ⟨K,h⟩|⟨K,h⟩:=oc h
 ·refine wt K Q (wR J 1 Q ?_)
  cases h
  exact we J func37 [(4,.nil)] Q Q Q Q
 refine wf K Q (wi (wq (wN (fun A1 e f=>?_))))
 have g:A1 0 (zz35 [(1,.B 4 0)] [(15,.B 4 0)]):=e _ _ (wL J)
 have i:A1 1 (zz137 g_ [(15,.B 4 0)] [(16,.c (.s g_.Name))]):=e _ _ (wL J)
 obtain ⟨x4,j,h⟩:=ob h
 have l:A1 2 ⟨[(16,.c (.s g_.Name))],[],[],[],5,[(17,.S 5)],[],[(5,.own (rI .u8) x4 true)],6⟩:=e _ _ (wO Q Q Q (fun _ _ _ _ _ _ _ k=>wc (z83_ct N ([]:List Int) g_.Name _ j) [(0,.nil)] [] Q Q Q Q Q Q Q Q (.inl rfl) rfl (k)) rfl)
 have m:A1 3 (zz3 [(1,.B 4 0)] [(18,.B 4 1)]):=e _ _ (wL J)
 have o:A1 4 (zz66 g_ [(18,.B 4 1)] [(19,.S 0)]):=e _ _ (wL J)
 have p:A1 5 ⟨[(19,.S 0)],[(0,.sl rS g_.Roles)],[],[],6,[(20,.I (g_.Roles.length:Int))],[],[],6⟩:=e _ _ (wL J)
 obtain ⟨x9,q,h⟩:=ob h
 have u:A1 6 ⟨[(17,.S 5),(20,.I (g_.Roles.length:Int))],[],[(5,.own (rI .u8) x4 true)],[],6,[(21,.S 6)],[],[(5,.gone),(6,.own (rI .u8) x9 true)],7⟩:=e _ _ (wO Q Q Q (fun _ _ _ _ _ _ _ k=>wc (z82_ct N x4 (g_.Roles.length:Int) _ q) [(0,.sl 5)] [] Q Q Q Q Q Q Q Q (.inl rfl) rfl (k)) rfl)
 have v:A1 7 (zz4 [(21,.S 6)] [(3,.S 6)]):=e _ _ (wL J)
 refine wD (t:=(zz182 g_ x9 [(1,.B 4 0),(2,.c .nil),(3,.S 6)])) [0,1,3,0,8,24,63,127] (.cons (f _ _ g) (.cons (f _ _ i) (.cons (f _ _ l) (.cons (f _ _ m) (.cons (f _ _ o) (.cons (f _ _ p) (.cons (f _ _ u) (.cons (f _ _ v) .nil)))))))) (by kernel_rfl) (by kernel_rfl) (by kernel_rfl) (by kernel_rfl) (wq (wV (zz182 g_ x9 [(1,.B 4 0),(2,.c .nil),(3,.S 6),(23,.S 0),(24,.I (g_.Roles.length:Int)),(25,.I 0)]) J 4 ?_))
 refine wC (σ:=(List Int)) (fun st=>(zz138 g_ st [(1,.B 4 0),(3,.S 7)])) (fun st=>z37_k7 N g_ st=some r) ?_ (fun j1=>?_)
 ·intro x h
  replace h:z37_k7 N g_ x=some r:=h
  unfold z37_k7 at h
  refine wq (wg (xw [4,5] (zz138 g_ x [(1,.B 4 0),(33,.S 7),(36,.I (g_.Decls.length:Int))]) J 4 ?_))
  obtain ⟨y,z,h⟩:=ob h
  refine wc (z82_ct N x (g_.Decls.length:Int) _ z) [(0,.sl 7)] [] Q Q Q Q Q Q Q Q (.inl rfl) rfl (wx (zz139 g_ y [(1,.B 4 0),(3,.S 8)]) J 1 (wn (wq (wV (zz139 g_ y [(1,.B 4 0),(3,.S 8),(39,.S 1),(40,.I (g_.Decls.length:Int)),(41,.I 0)]) J 4 ?_))))
  refine wC (σ:=(List Int)) (fun st=>(zz39 g_ st [(1,.B 4 0),(3,.S 9)])) (fun st=>z37_k5 N g_ st=some r) ?_ (fun j3=>?_)
  ·intro A h
   replace h:z37_k5 N g_ A=some r:=h
   unfold z37_k5 at h
   refine wq (wg (xw [10,11,12] (zz39 g_ A [(1,.B 4 0),(49,.S 9),(51,.I g_.States),(53,.I g_.Start),(55,.I g_.End),(58,.I (g_.Edges.length:Int))]) J 10 (WPr.bs (cs:=[.I g_.States,.I g_.Start,.I g_.End,.I (g_.Edges.length:Int)]) (oI .i64) J ([g_.States,g_.Start,g_.End,(g_.Edges.length:Int)]:List Int) Q Q Q Q Q Q (by kernel_rfl) (by exact (an rfl (an rfl (an rfl (an Q Q))))) rfl ?_)))
   obtain ⟨C,D,h⟩:=ob h
   refine wc (z85_ct N A ([g_.States,g_.Start,g_.End,(g_.Edges.length:Int)]:List Int) _ D) [(0,.sl 9),(1,.sl 10)] [10] Q Q Q Q Q Q Q Q (.inr ⟨rfl,⟨(rI_flat _),trivial⟩⟩) rfl (wx (zz183 g_ C [(1,.B 4 0),(3,.S 11)]) J 1 (wn (wq (wV (zz183 g_ C [(1,.B 4 0),(3,.S 11),(62,.S 2),(63,.I (g_.Edges.length:Int)),(64,.I 0)]) J 4 ?_))))
   refine wC (σ:=(List Int)) (fun st=>(zz67 g_ st [(1,.B 4 0),(3,.S 12)])) (fun st=>z37_k3 N g_ st=some r) ?_ (fun j5=>?_)
   ·intro G h
    replace h:z37_k3 N g_ G=some r:=h
    unfold z37_k3 at h
    refine wq (wg (xw [4,5] (zz67 g_ G [(1,.B 4 0),(88,.S 12),(91,.I (g_.Timeouts.length:Int))]) J 4 ?_))
    obtain ⟨H,R,h⟩:=ob h
    refine wc (z82_ct N G (g_.Timeouts.length:Int) _ R) [(0,.sl 12)] [] Q Q Q Q Q Q Q Q (.inl rfl) rfl (wx (zz68 g_ H [(1,.B 4 0),(3,.S 13)]) J 1 (wn (wq (wV ⟨[(3,.S 13),(94,.S 3),(95,.I (g_.Timeouts.length:Int)),(96,.I 0)],[(13,.own (rI .u8) H true)],(vV4 0 1 2 3 g_ []),14⟩ J 4 ?_))))
    refine wC (σ:=(List Int)) (fun st=>⟨[(3,.S 14)],[(14,.own (rI .u8) st true)],(vV4 0 1 2 3 g_ []),15⟩) (fun st=>z37_k1 st=some r) ?_ (fun j7=>?_)
    ·intro T h
     replace h:z37_k1 T=some r:=h
     unfold z37_k1 at h
     refine wR J 2 Q ?_
     cases h
     exact we J func37 [(4,.sl 14)] Q Q Q Q
    refine wo ?_
    refine wI (σ:=(List Int) × Int) (fun st=>⟨[(3,.S 14),(94,.S 3),(95,.I (g_.Timeouts.length:Int)),(96,.I st.2)],[(14,.own (rI .u8) st.1 true)],(vV4 0 1 2 3 g_ []),15⟩) (fun n st=>z37_l2 N g_ n st.1 st.2) (r:=r) (fun _=>rfl) ?_ (fun ih=>?_)
    ·intro n5 ih9
     rintro ⟨U,X⟩ h
     replace h:z37_l2 N g_ (n5+1) U X=some r:=h
     unfold z37_l2 at h
     refine wR J 1 Q (wq ?_)
     obtain ⟨K,h⟩|⟨K,h⟩:=oc' h
     ·exact wf K Q (wz rfl (wU (j7 U h)))
     refine wt K Q (wi (wq (wo (wq (wg ?_)))))
     obtain ⟨Y,Z,h⟩:=ob h
     refine wj oO8 J Z Q Q Q Q Q Q Q Q Q (wx ⟨[(3,.S 14),(11,.B 16 0),(94,.S 3),(95,.I (g_.Timeouts.length:Int)),(96,.I X)],[(14,.own (rI .u8) U true),(16,.box (cC8 Y) 79)],(vV4 0 1 2 3 g_ []),17⟩ J 3 (wn (wg (xw [7,8,9] ⟨[(94,.S 3),(95,.I (g_.Timeouts.length:Int)),(96,.I X),(100,.S 14),(102,.I Y.State),(104,.I Y.Ticks),(106,.I Y.Else)],[(14,.own (rI .u8) U true)],(vV4 0 1 2 3 g_ []),17⟩ J 7 (WPr.bs (cs:=(cC8 Y)) (oI .i64) J ([Y.State,Y.Ticks,Y.Else]:List Int) Q Q Q Q Q Q (by kernel_rfl) (by exact (an rfl (an rfl (an Q Q)))) rfl ?_)))))
     obtain ⟨a0,b0,h⟩:=ob h
     exact wc (z85_ct N U ([Y.State,Y.Ticks,Y.Else]:List Int) _ b0) [(0,.sl 14),(1,.sl 17)] [17] Q Q Q Q Q Q Q Q (.inr ⟨rfl,⟨(rI_flat _),trivial⟩⟩) rfl (wx ⟨[(3,.S 18),(94,.S 3),(95,.I (g_.Timeouts.length:Int)),(96,.I X)],[(18,.own (rI .u8) a0 true)],(vV4 0 1 2 3 g_ []),19⟩ J 1 (wn (wb (wS J 2 Q (wu [(14,.sl 18)] (ih9 (a0,(w64 (X+1))) h) Q Q Q Q)))))
    exact wu [(14,.sl 13)] (ih N (H,0) h) Q Q Q Q
   refine wo ?_
   refine wI (σ:=(List Int) × Int) (fun st=>(zz67 g_ st.1 [(1,.B 4 0),(3,.S 12),(62,.S 2),(63,.I (g_.Edges.length:Int)),(64,.I st.2)])) (fun n st=>z37_l4 N g_ n st.1 st.2) (r:=r) (fun _=>rfl) ?_ (fun ih=>?_)
   ·intro n6 ih10
    rintro ⟨c0,d0⟩ h
    replace h:z37_l4 N g_ (n6+1) c0 d0=some r:=h
    unfold z37_l4 at h
    refine wR J 1 Q (wq ?_)
    obtain ⟨K,h⟩|⟨K,h⟩:=oc' h
    ·exact wf K Q (wz rfl (wU (j5 c0 h)))
    refine wt K Q (wi (wq (wo (wq (wg ?_)))))
    obtain ⟨e0,f0,h⟩:=ob h
    refine wj oO2 J f0 Q Q Q Q Q Q Q Q Q (wx ⟨[(1,.B 4 0),(3,.S 12),(9,.B 14 0),(62,.S 2),(63,.I (g_.Edges.length:Int)),(64,.I d0)],[(4,.box (cC4 0 1 2 3 g_) 27),(12,.own (rI .u8) c0 true),(14,.box (cC2 e0) 43)],(vV4 0 1 2 3 g_ []),15⟩ J 3 (wn (wN (fun g0 i0 j0=>?_))))
    have k0:g0 0 (zz29 [(3,.S 12)] [(68,.S 12)]):=i0 _ _ (wL J)
    have l0:g0 1 (zz29 [(9,.B 14 0)] [(69,.B 14 0)]):=i0 _ _ (wL J)
    have m0:g0 2 (zz92 e0 [(69,.B 14 0)] [(70,.I e0.From)]):=i0 _ _ (wL J)
    have o0:g0 3 (zz29 [(9,.B 14 0)] [(71,.B 14 1)]):=i0 _ _ (wL J)
    have p0:g0 4 (zz29 [(71,.B 14 1)] [(72,.B 14 1)]):=i0 _ _ (wL J)
    have q0:g0 5 (zz92 e0 [(72,.B 14 1)] [(73,.I e0.Act.From)]):=i0 _ _ (wL J)
    have s0:g0 6 (zz29 [(9,.B 14 0)] [(74,.B 14 1)]):=i0 _ _ (wL J)
    have t0:g0 7 (zz29 [(74,.B 14 1)] [(75,.B 14 2)]):=i0 _ _ (wL J)
    have u0:g0 8 (zz92 e0 [(75,.B 14 2)] [(76,.I e0.Act.To)]):=i0 _ _ (wL J)
    have v0:g0 9 (zz29 [(9,.B 14 0)] [(77,.B 14 1)]):=i0 _ _ (wL J)
    have x0:g0 10 (zz29 [(77,.B 14 1)] [(78,.B 14 3)]):=i0 _ _ (wL J)
    have y0:g0 11 (zz92 e0 [(78,.B 14 3)] [(79,.I e0.Act.Label)]):=i0 _ _ (wL J)
    have z0:g0 12 (zz29 [(9,.B 14 0)] [(80,.B 14 4)]):=i0 _ _ (wL J)
    have A0:g0 13 (zz92 e0 [(80,.B 14 4)] [(81,.I e0.To)]):=i0 _ _ (wL J)
    have B0:g0 14 ⟨[(70,.I e0.From),(73,.I e0.Act.From),(76,.I e0.Act.To),(79,.I e0.Act.Label),(81,.I e0.To)],[],[],[],15,[(82,.S 15)],[],[(15,.own (rI .i64) ([e0.From,e0.Act.From,e0.Act.To,e0.Act.Label,e0.To]:List Int) true)],16⟩:=i0 _ _ (wO Q Q Q (fun _ _ _ _ _ _ _ k=>WPr.bs (cs:=[.I e0.From,.I e0.Act.From,.I e0.Act.To,.I e0.Act.Label,.I e0.To]) (oI .i64) J ([e0.From,e0.Act.From,e0.Act.To,e0.Act.Label,e0.To]:List Int) Q Q Q Q Q Q (by kernel_rfl) (by exact (an rfl (an rfl (an rfl (an rfl (an Q Q)))))) rfl (k)) rfl)
    obtain ⟨C0,D0,h⟩:=ob h
    have G0:g0 15 ⟨[(68,.S 12),(82,.S 15)],[],[(12,.own (rI .u8) c0 true)],[(15,.own (rI .i64) ([e0.From,e0.Act.From,e0.Act.To,e0.Act.Label,e0.To]:List Int) true)],16,[(83,.S 16)],[],[(12,.gone),(16,.own (rI .u8) C0 true)],17⟩:=i0 _ _ (wO Q Q Q (fun _ _ _ _ _ _ _ k=>wc (z85_ct N c0 ([e0.From,e0.Act.From,e0.Act.To,e0.Act.Label,e0.To]:List Int) _ D0) [(0,.sl 12),(1,.sl 15)] [15] Q Q Q Q Q Q Q Q (.inr ⟨rfl,⟨(rI_flat _),trivial⟩⟩) rfl (k)) rfl)
    have H0:g0 16 (zz57 [(9,.B 14 0)] [(84,.B 14 5)]):=i0 _ _ (wL J)
    have I0:g0 17 ⟨[(84,.B 14 5)],[],[],[(14,.box (cC2 e0) 43)],17,[(85,.O e0.Again)],[],[],17⟩:=i0 _ _ (wL J)
    obtain ⟨L0,M0,h⟩:=ob h
    have O0:g0 18 ⟨[(83,.S 16),(85,.O e0.Again)],[],[(16,.own (rI .u8) C0 true)],[],17,[(86,.S 17)],[],[(16,.gone),(17,.own (rI .u8) L0 true)],18⟩:=i0 _ _ (wO Q Q Q (fun _ _ _ _ _ _ _ k=>wc (z86_ct N C0 e0.Again _ M0) [(0,.sl 16)] [] Q Q Q Q Q Q Q Q (.inl rfl) rfl (k)) rfl)
    have R0:g0 19 (zz111 [(86,.S 17)] [(3,.S 17)]):=i0 _ _ (wL J)
    exact wD (t:=(zz69 g_ L0 [(1,.B 4 0),(3,.S 17),(62,.S 2),(63,.I (g_.Edges.length:Int)),(64,.I d0)])) [0,0,2,0,8,24,0,64,192,0,512,1536,0,4096,16382,32767,0,65536,262143,524287] (.cons (j0 _ _ k0) (.cons (j0 _ _ l0) (.cons (j0 _ _ m0) (.cons (j0 _ _ o0) (.cons (j0 _ _ p0) (.cons (j0 _ _ q0) (.cons (j0 _ _ s0) (.cons (j0 _ _ t0) (.cons (j0 _ _ u0) (.cons (j0 _ _ v0) (.cons (j0 _ _ x0) (.cons (j0 _ _ y0) (.cons (j0 _ _ z0) (.cons (j0 _ _ A0) (.cons (j0 _ _ B0) (.cons (j0 _ _ G0) (.cons (j0 _ _ H0) (.cons (j0 _ _ I0) (.cons (j0 _ _ O0) (.cons (j0 _ _ R0) .nil)))))))))))))))))))) (by kernel_rfl) (by kernel_rfl) (by kernel_rfl) (by kernel_rfl) (wb (wS J 2 Q (wu [(12,.sl 17)] (ih10 (L0,(w64 (d0+1))) h) Q Q Q Q)))
   exact wu [(12,.sl 11)] (ih N (C,0) h) Q Q Q Q
  refine wo ?_
  refine wI (σ:=(List Int) × Int) (fun st=>(zz39 g_ st.1 [(1,.B 4 0),(3,.S 9),(39,.S 1),(40,.I (g_.Decls.length:Int)),(41,.I st.2)])) (fun n st=>z37_l6 N g_ n st.1 st.2) (r:=r) (fun _=>rfl) ?_ (fun ih=>?_)
  ·intro n7 ih11
   rintro ⟨S0,T0⟩ h
   replace h:z37_l6 N g_ (n7+1) S0 T0=some r:=h
   unfold z37_l6 at h
   refine wR J 1 Q (wq ?_)
   obtain ⟨K,h⟩|⟨K,h⟩:=oc' h
   ·exact wf K Q (wz rfl (wU (j3 S0 h)))
   refine wt K Q (wi (wq (wo (wq (wg ?_)))))
   obtain ⟨U0,V0,h⟩:=ob h
   refine wj oO0 J V0 Q Q Q Q Q Q Q Q Q (wx ⟨[(1,.B 4 0),(3,.S 9),(7,.B 14 0),(39,.S 1),(40,.I (g_.Decls.length:Int)),(41,.I T0)],[(4,.box (cC4 0 1 2 3 g_) 27),(9,.own (rI .u8) S0 true),(14,.box (cC0 11 12 13 U0) 94)],(vV4 0 1 2 3 g_ (vV0 11 12 13 U0 [])),15⟩ J 3 (wn (wg (ws J 2 Q ?_))))
   obtain ⟨X0,Y0,h⟩:=ob h
   exact wc (z84_ct N S0 U0 _ Y0) [(0,.sl 9),(1,.sl 11),(2,.sl 12),(3,.sl 13)] [] Q Q Q Q Q Q Q Q (.inl rfl) rfl (wx ⟨[(1,.B 4 0),(3,.S 15),(39,.S 1),(40,.I (g_.Decls.length:Int)),(41,.I T0)],[(4,.box (cC4 0 1 2 3 g_) 27),(15,.own (rI .u8) X0 true)],(vV4 0 1 2 3 g_ []),16⟩ J 1 (wn (wb (wS J 2 Q (wu [(9,.sl 15)] (ih11 (X0,(w64 (T0+1))) h) Q Q Q Q)))))
  exact wu [(9,.sl 8)] (ih N (y,0) h) Q Q Q Q
 refine wo ?_
 refine wI (σ:=(List Int) × Int) (fun st=>(zz138 g_ st.1 [(1,.B 4 0),(3,.S 7),(23,.S 0),(24,.I (g_.Roles.length:Int)),(25,.I st.2)])) (fun n st=>z37_l8 N g_ n st.1 st.2) (r:=r) (fun _=>rfl) ?_ (fun ih=>?_)
 ·intro n8 ih12
  rintro ⟨Z0,a1⟩ h
  replace h:z37_l8 N g_ (n8+1) Z0 a1=some r:=h
  unfold z37_l8 at h
  refine wR J 1 Q (wq ?_)
  obtain ⟨K,h⟩|⟨K,h⟩:=oc' h
  ·exact wf K Q (wz rfl (wU (j1 Z0 h)))
  refine wt K Q (wi (wq (wo (wq (wg ?_)))))
  obtain ⟨b1,c1,h⟩:=ob h
  refine wj oS J c1 Q Q Q Q Q Q Q Q Q (wx ⟨[(1,.B 4 0),(3,.S 7),(5,.c (.s b1)),(23,.S 0),(24,.I (g_.Roles.length:Int)),(25,.I a1)],[(4,.box (cC4 0 1 2 3 g_) 27),(7,.own (rI .u8) Z0 true)],(vV4 0 1 2 3 g_ []),9⟩ J 2 (wn (wg (ws J 2 Q ?_))))
  obtain ⟨d1,e1,h⟩:=ob h
  exact wc (z83_ct N Z0 b1 _ e1) [(0,.sl 7)] [] Q Q Q Q Q Q Q Q (.inl rfl) rfl (wx (zz39 g_ d1 [(1,.B 4 0),(3,.S 9),(23,.S 0),(24,.I (g_.Roles.length:Int)),(25,.I a1)]) J 1 (wn (wb (wS J 2 Q (wu [(7,.sl 9)] (ih12 (d1,(w64 (a1+1))) h) Q Q Q Q)))))
 exact wu [(7,.sl 6)] (ih N (x9,0) h) Q Q Q Q
theorem z127_ct (N:Nat) (seed_:Int) (b_:(List Int)) (r:Int) (h:z127 N seed_ b_=some r) :
 Fn Tryz.prog 127 ⟨1,[.c (.i .u64 seed_),.S 0],[(0,.sl (rI .u8) b_)],[],1,.c (.i .u64 r),[],[]⟩:=by
 refine wF func127 Q Q (fun E F w=>?_)
 unfold z127 at h
 refine wR J 1 Q (wq (wV (zz30 b_ [(0,.c (.i .u64 seed_)),(4,.c (.i .u64 0)),(7,.S 0),(8,.I (b_.length:Int)),(9,.I 0)]) J 3 ?_))
 refine wC (σ:=Int) (fun st=>(zz30 b_ [(0,.c (.i .u64 st))])) (fun st=>z127_k1 st=some r) ?_ (fun j1=>?_)
 ·intro d h
  replace h:z127_k1 d=some r:=h
  unfold z127_k1 at h
  refine wR J 2 Q ?_
  cases h
  exact we J func127 [] Q Q Q Q
 refine wo ?_
 refine wI (σ:=Int × Int) (fun st=>(zz30 b_ [(0,.c (.i .u64 st.1)),(7,.S 0),(8,.I (b_.length:Int)),(9,.I st.2)])) (fun n st=>z127_l2 b_ n st.1 st.2) (r:=r) (fun _=>rfl) ?_ (fun ih=>?_)
 ·intro n2 ih3
  rintro ⟨e,f⟩ h
  replace h:z127_l2 b_ (n2+1) e f=some r:=h
  unfold z127_l2 at h
  refine wR J 1 Q (wq ?_)
  obtain ⟨K,h⟩|⟨K,h⟩:=oc' h
  ·exact wf K Q (wz rfl (wU (j1 e h)))
  refine wt K Q (wi (wq (wo (wq (wg ?_)))))
  obtain ⟨g,j,h⟩:=ob h
  refine wj (oI .u8) J j Q Q Q Q Q Q Q Q Q (wx (zz70 b_ [(0,.c (.i .u64 e)),(6,.c (.i .u8 g)),(7,.S 0),(8,.I (b_.length:Int)),(9,.I f)]) J 2 (wn (wg (xw [3,4,5] (zz70 b_ [(7,.S 0),(8,.I (b_.length:Int)),(9,.I f),(13,.c (.i .u64 e)),(15,.c (.i .u64 (wk .u64 (g))))]) J 3 ?_))))
  obtain ⟨k,l,h⟩:=ob h
  exact WPr.bin l Q Q Q Q Q Q Q Q (wx (zz70 b_ [(0,.c (.i .u64 (wk .u64 (k * 1099511628211)))),(7,.S 0),(8,.I (b_.length:Int)),(9,.I f)]) J 2 (wn (wb (wS J 2 Q (wU (ih3 ((wk .u64 (k * 1099511628211)),(w64 (f+1))) h))))))
 exact wU (ih N (seed_,0) h)
theorem z73_ct (N:Nat) (b_:(List Int)) (r:Int) (h:z73 N b_=some r) :
 Fn Tryz.prog 73 ⟨1,[.S 0],[(0,.sl (rI .u8) b_)],[],1,.c (.i .u64 r),[],[]⟩:=by
 refine wF func73 Q Q (fun E F w=>?_)
 unfold z73 at h
 refine wR J 1 Q (wq (wg (ws J 1 Q ?_)))
 obtain ⟨x1,d,h⟩:=ob h
 refine wc (z127_ct N 14695981039346656037 b_ _ d) [(0,.sl 0)] [] Q Q Q Q Q Q Q Q (.inl rfl) rfl (wx (zz30 b_ [(2,.c (.i .u64 x1))]) J 1 (wn ?_))
 cases h
 exact we J func73 [] Q Q Q Q
theorem z24_ct (N:Nat) (g_:T4) (r:Int) (h:z24 N g_=some r) :
 Fn Tryz.prog 24 ⟨4,[.a (cC4 0 1 2 3 g_)],(vV4 0 1 2 3 g_ []),[],4,.c (.i .u64 r),[],[]⟩:=by
 refine wF func24 Q Q (fun E F w=>?_)
 unfold z24 at h
 refine wR J 2 Q (wq (wg (xw (rg 1 7) (zz6 g_ [(2,.c (.i .u64 0)),(6,.a (cC4 0 1 2 3 g_))]) J 1 ?_)))
 obtain ⟨x1,d,h⟩:=ob h
 refine wc (z21_ct N g_ _ d) [(0,.sl 0),(1,.sl 1),(2,.sl 2),(3,.sl 3)] [] Q Q Q Q Q Q Q Q (.inl rfl) rfl (wx ⟨[(2,.c (.i .u64 0)),(3,.B 9 0),(4,.I x1.2)],[(9,.box (cC4 5 6 7 8 x1.1) 27)],(vV4 0 1 2 3 g_ (vV4 5 6 7 8 x1.1 [])),10⟩ J 6 (wn (wq (wR J 2 Q ?_))))
 obtain ⟨K,h⟩|⟨K,h⟩:=oc h
 ·refine wt K Q (wV ⟨[(2,.c (.i .u64 0))],[],(vV4 0 1 2 3 g_ []),10⟩ J 1 ?_)
  cases h
  exact we J func24 [] Q Q Q Q
 refine wf K Q (wi (wq (wg (xw [1,2,3] ⟨[(12,.a (cC4 5 6 7 8 x1.1))],[],(vV4 0 1 2 3 g_ (vV4 5 6 7 8 x1.1 [])),10⟩ J 1 ?_))))
 obtain ⟨x2,e,h⟩:=ob h
 refine wc (z37_ct N x1.1 _ e) [(0,.sl 5),(1,.sl 6),(2,.sl 7),(3,.sl 8)] [] Q Q Q Q Q Q Q Q (.inl rfl) rfl (xw [2,3] ⟨[(13,.S 10)],[(10,.own (rI .u8) x2 true)],(vV4 0 1 2 3 g_ []),11⟩ J 0 ?_)
 obtain ⟨x3,f,h⟩:=ob h
 refine wc (z73_ct N x2 _ f) [(0,.sl 10)] [10] Q Q Q Q Q Q Q Q (.inr ⟨rfl,trivial⟩) rfl (wx ⟨[(2,.c (.i .u64 x3))],[],(vV4 0 1 2 3 g_ []),11⟩ J 1 (wn ?_))
 cases h
 exact we J func24 [] Q Q Q Q
theorem z12_ct (N:Nat) (r:Bool) (h:z12 N=some r) :
 Fn Tryz.prog 12 ⟨0,[],[],[],0,.O r,[],[]⟩:=by
 refine wF func12 Q Q (fun E F w=>?_)
 unfold z12 at h
 refine wR J 1 Q (wq (wg ?_))
 obtain ⟨x1,c,h⟩:=ob h
 refine wc (z43_ct N _ c) [] [] Q Q Q Q Q Q Q Q (.inl rfl) rfl (wx (zz2 x1 [(0,.O false),(1,.B 4 0)]) J 2 (wn (wq (wg (ws J 1 Q ?_)))))
 obtain ⟨x2,d,h⟩:=ob h
 refine wc (z14_ct N x1 3 _ d) [(0,.sl 0),(1,.sl 1),(2,.sl 2),(3,.sl 3)] [] Q Q Q Q Q Q Q Q (.inl rfl) rfl (wx (zz64 x1 x2.1 [(0,.O false),(1,.B 4 0),(2,.S 5),(3,.I x2.2)]) J 5 (wn (wq (wg (ws J 2 Q ?_)))))
 obtain ⟨x3,e,h⟩:=ob h
 refine wc (z17_ct N x1 0 (⟨0,1,0⟩:T6) _ e) [(0,.sl 0),(1,.sl 1),(2,.sl 2),(3,.sl 3)] [] Q Q Q Q Q Q Q Q (.inl rfl) rfl (wx (zz64 x1 x2.1 [(0,.O false),(1,.B 4 0),(2,.S 5),(3,.I x2.2),(4,.I x3.1),(5,.O x3.2)]) J 5 (wn (wq (wg (ws J 1 Q ?_)))))
 obtain ⟨x4,f,h⟩:=ob h
 refine wc (z22_ct N x1 _ f) [(0,.sl 0),(1,.sl 1),(2,.sl 2),(3,.sl 3)] [] Q Q Q Q Q Q Q Q (.inl rfl) rfl (xw (rg 3 38) (zz64 x1 x2.1 [(1,.B 4 0),(2,.S 5),(3,.I x2.2),(4,.I x3.1),(5,.O x3.2),(20,.O x4)]) J 1 ?_)
 obtain ⟨K,h⟩|⟨K,h⟩:=oc' h
 ·refine wy 20 K Q (wx ⟨[(0,.O false)],[],[],6⟩ J 38 (wn ?_))
  cases h
  exact we J func12 [] Q Q Q Q
 refine wy 20 K Q (xw (rg 7 34) (zz64 x1 x2.1 [(1,.B 4 0),(2,.S 5),(4,.I x3.1),(5,.O x3.2),(24,.O (x2.2==0))]) J 4 ?_)
 obtain ⟨K,h⟩|⟨K,h⟩:=oc' h
 ·refine wy 24 K Q (wx ⟨[(0,.O false)],[],[],6⟩ J 34 (wn ?_))
  cases h
  exact we J func12 [] Q Q Q Q
 refine wy 24 K Q (xw (rg 12 29) (zz64 x1 x2.1 [(1,.B 4 0),(2,.S 5),(4,.I x3.1),(5,.O x3.2),(29,.O ((x2.1.length:Int)==2))]) J 5 ?_)
 obtain ⟨K,h⟩|⟨K,h⟩:=oc' h
 ·refine wy 29 K Q (wx ⟨[(0,.O false)],[],[],6⟩ J 29 (wn ?_))
  cases h
  exact we J func12 [] Q Q Q Q
 refine wy 29 K Q (ws J 1 Q ?_)
 obtain ⟨x5,g,h⟩:=ob h
 refine wX J g Q Q Q Q Q Q Q Q Q (wd (oSl rR6) J g Q Q Q Q Q Q Q Q Q Q (xw (rg 19 22) (zz18 x1 [(1,.B 4 0),(4,.I x3.1),(5,.O x3.2),(36,.O ((x5.length:Int)==1))]) J 4 ?_))
 obtain ⟨K,h⟩|⟨K,h⟩:=oc' h
 ·refine wy 36 K Q (wx ⟨[(0,.O false)],[],[],8⟩ J 22 (wn ?_))
  cases h
  exact we J func12 [] Q Q Q Q
 refine wy 36 K Q (xw (rg 22 19) (zz18 x1 [(1,.B 4 0),(4,.I x3.1),(39,.O x3.2)]) J 3 ?_)
 obtain ⟨K,h⟩|⟨K,h⟩:=oc' h
 ·refine wy 39 K Q (wx ⟨[(0,.O false)],[],[],8⟩ J 19 (wn ?_))
  cases h
  exact we J func12 [] Q Q Q Q
 refine wy 39 K Q (xw (rg 26 15) (zz18 x1 [(1,.B 4 0),(43,.O (x3.1==1))]) J 4 ?_)
 obtain ⟨K,h⟩|⟨K,h⟩:=oc' h
 ·refine wy 43 K Q (wx ⟨[(0,.O false)],[],[],8⟩ J 15 (wn ?_))
  cases h
  exact we J func12 [] Q Q Q Q
 refine wy 43 K Q (ws J 2 Q ?_)
 obtain ⟨x6,i,h⟩:=ob h
 refine wc (z23_ct N x1 x1 _ i) [(0,.sl 0),(1,.sl 1),(2,.sl 2),(3,.sl 3),(4,.sl 0),(5,.sl 1),(6,.sl 2),(7,.sl 3)] [] Q Q Q Q Q Q Q Q (.inl rfl) rfl (xw (rg 31 10) (zz18 x1 [(1,.B 4 0),(48,.O x6)]) J 2 ?_)
 obtain ⟨K,h⟩|⟨K,h⟩:=oc' h
 ·refine wy 48 K Q (wx ⟨[(0,.O false)],[],[],8⟩ J 10 (wn ?_))
  cases h
  exact we J func12 [] Q Q Q Q
 refine wy 48 K Q (ws J 1 Q ?_)
 obtain ⟨x7,j,h⟩:=ob h
 refine wc (z31_ct N x1 (str [120]) _ j) [(0,.sl 0),(1,.sl 1),(2,.sl 2),(3,.sl 3)] [] Q Q Q Q Q Q Q Q (.inl rfl) rfl (xw [36,37,38,39,40] (zz18 x1 [(1,.B 4 0),(53,.O (x7==0))]) J 3 ?_)
 obtain ⟨K,h⟩|⟨K,h⟩:=oc' h
 ·refine wy 53 K Q (wx ⟨[(0,.O false)],[],[],8⟩ J 5 (wn ?_))
  cases h
  exact we J func12 [] Q Q Q Q
 refine wy 53 K Q (ws J 1 Q ?_)
 obtain ⟨x8,k,h⟩:=ob h
 refine wc (z24_ct N x1 _ k) [(0,.sl 0),(1,.sl 1),(2,.sl 2),(3,.sl 3)] [] Q Q Q Q Q Q Q Q (.inl rfl) rfl (wx ⟨[(0,.O (x8 != 0))],[],[],8⟩ J 3 (wn ?_))
 cases h
 exact we J func12 [] Q Q Q Q
theorem z44_ct (N:Nat) (l_:(List T0)) (r:Bool) (h:z44 N l_=some r) :
 Fn Tryz.prog 44 ⟨1,[.S 0],[(0,.sl rR0 l_)],[],1,.O r,[],[]⟩:=by
 refine wF func44 Q Q (fun E F w=>?_)
 unfold z44 at h
 refine wR J 1 Q (wR J 1 Q (wq (wV (zz7 l_ [(0,.S 0),(2,.O false),(3,.I 0),(4,.I 0)]) J 1 ?_)))
 refine wC (σ:=Int) (fun st=>(zz7 l_ [(0,.S 0),(3,.I st)])) (fun st=>z44_k1 l_ st=some r) ?_ (fun j1=>?_)
 ·intro c h
  replace h:z44_k1 l_ c=some r:=h
  unfold z44_k1 at h
  refine wq (wg (xw [4,5,6,7] (zz7 l_ [(3,.I c),(38,.O (decide ((l_.length:Int)≤60)))]) J 4 ?_))
  obtain ⟨K,h⟩|⟨K,h⟩:=oc h
  ·refine wy 38 K Q (wx (zz7 l_ [(2,.O (decide (c≤100)))]) J 4 (wn ?_))
   cases h
   exact we J func44 [] Q Q Q Q
  refine wy 38 K Q (wx (zz7 l_ [(2,.O false)]) J 4 (wn ?_))
  cases h
  exact we J func44 [] Q Q Q Q
 refine wo ?_
 refine wI (σ:=Int × Int) (fun st=>(zz7 l_ [(0,.S 0),(3,.I st.1),(4,.I st.2)])) (fun n st=>z44_l2 l_ n st.1 st.2) (r:=r) (fun _=>rfl) ?_ (fun ih=>?_)
 ·intro n2 ih3
  rintro ⟨d,e⟩ h
  replace h:z44_l2 l_ (n2+1) d e=some r:=h
  unfold z44_l2 at h
  refine wq (wV (zz7 l_ [(0,.S 0),(3,.I d),(4,.I e),(8,.O (decide (e < (l_.length:Int))))]) J 4 ?_)
  obtain ⟨K,h⟩|⟨K,h⟩:=oc' h
  ·exact wf K Q (wz rfl (wU (j1 d h)))
  refine wt K Q (wi (wq (wo (wQ (by kernel_rfl) (by kernel_rfl) (xq (rg 3 22) (zz7 l_ [(0,.S 0),(4,.I e),(11,.I d),(12,.S 0),(13,.I e)]) J 3 ?_)))))
  obtain ⟨f,g,h⟩:=ob h
  refine WPq.op Q Q (VN.vs (VN.ix oO0 J g Q Q Q Q Q Q Q)) (xq (rg 9 16) ⟨[(0,.S 0),(4,.I e),(11,.I d),(17,.I (f.Fields.length:Int)),(18,.S 0),(19,.I e)],[],[(0,.sl rR0 l_)],5⟩ J 5 ?_)
  obtain ⟨i,j,h⟩:=ob h
  refine WPq.op Q Q (VN.vs (VN.ix oO0 J j Q Q Q Q Q Q Q)) (xq (rg 17 8) ⟨[(0,.S 0),(4,.I e),(11,.I d),(25,.I (w64 ((f.Fields.length:Int)+(i.Guard.Diffs.length:Int)))),(26,.S 0),(27,.I e)],[],[(0,.sl rR0 l_)],9⟩ J 7 ?_)
  obtain ⟨k,l,h⟩:=ob h
  exact WPq.op Q Q (VN.vs (VN.ix oO0 J l Q Q Q Q Q Q Q)) (qx ⟨[(0,.S 0),(3,.I (w64 (d+(w64 ((w64 ((f.Fields.length:Int)+(i.Guard.Diffs.length:Int)))+(k.Guard.Equals.length:Int)))))),(4,.I e)],[],[(0,.sl rR0 l_)],13⟩ J 7 (qn (wb (wT ⟨[(0,.S 0),(3,.I (w64 (d+(w64 ((w64 ((f.Fields.length:Int)+(i.Guard.Diffs.length:Int)))+(k.Guard.Equals.length:Int)))))),(4,.I (w64 (e+1)))],[],[(0,.sl rR0 l_)],13⟩ J 3 (wU (ih3 ((w64 (d+(w64 ((w64 ((f.Fields.length:Int)+(i.Guard.Diffs.length:Int)))+(k.Guard.Equals.length:Int))))),(w64 (e+1))) h))))))
 exact wU (ih N (0,0) h)
theorem z13_ct (N:Nat) (g_:T4) (r:Bool) (h:z13 N g_=some r) :
 Fn Tryz.prog 13 ⟨4,[.a (cC4 0 1 2 3 g_)],(vV4 0 1 2 3 g_ []),[],4,.O r,[],[]⟩:=by
 refine wF func13 Q Q (fun E F w=>?_)
 unfold z13 at h
 refine wR J 2 Q (wq (wg (xw (rg 4 23) (zz2 g_ [(1,.B 4 0),(6,.O (decide (g_.States≤40)))]) J 4 ?_)))
 obtain ⟨K,h⟩|⟨K,h⟩:=oc' h
 ·refine wy 6 K Q (wx (zz6 g_ [(2,.O false)]) J 23 (wn ?_))
  cases h
  exact we J func13 [] Q Q Q Q
 refine wy 6 K Q (xw (rg 10 17) (zz2 g_ [(1,.B 4 0),(12,.O (decide ((g_.Edges.length:Int)≤80)))]) J 6 ?_)
 obtain ⟨K,h⟩|⟨K,h⟩:=oc' h
 ·refine wy 12 K Q (wx (zz6 g_ [(2,.O false)]) J 17 (wn ?_))
  cases h
  exact we J func13 [] Q Q Q Q
 refine wy 12 K Q (xw (rg 16 11) (zz2 g_ [(1,.B 4 0),(18,.O (decide ((g_.Timeouts.length:Int)≤40)))]) J 6 ?_)
 obtain ⟨K,h⟩|⟨K,h⟩:=oc' h
 ·refine wy 18 K Q (wx (zz6 g_ [(2,.O false)]) J 11 (wn ?_))
  cases h
  exact we J func13 [] Q Q Q Q
 refine wy 18 K Q (xw [22,23,24,25,26] (zz2 g_ [(1,.B 4 0),(24,.O (decide ((g_.Roles.length:Int)≤10)))]) J 6 ?_)
 obtain ⟨K,h⟩|⟨K,h⟩:=oc' h
 ·refine wy 24 K Q (wx (zz6 g_ [(2,.O false)]) J 5 (wn ?_))
  cases h
  exact we J func13 [] Q Q Q Q
 refine wy 24 K Q (ws J 2 Q ?_)
 obtain ⟨x1,c,h⟩:=ob h
 refine wc (z44_ct N g_.Decls _ c) [(0,.sl 1)] [] Q Q Q Q Q Q Q Q (.inl rfl) rfl (wx (zz6 g_ [(2,.O x1)]) J 2 (wn ?_))
 cases h
 exact we J func13 [] Q Q Q Q
theorem z169_ct (N:Nat) (c_:Int) (r:Bool) (h:z169 N c_=some r) :
 Fn Tryz.prog 169 ⟨0,[.c (.i .u8 c_)],[],[],0,.O r,[],[]⟩:=by
 refine wF func169 Q Q (fun E F w=>?_)
 unfold z169 at h
 refine wR J 1 Q (wq (wg (xw (rg 3 12) (zz0 [(0,.c (.i .u8 c_)),(5,.O (decide (c_≥97)))]) J 3 ?_)))
 obtain ⟨K,h⟩|⟨K,h⟩:=oc' h
 ·refine wy 5 K Q (xw [10,11,12,13,14] (zz0 [(0,.c (.i .u8 c_)),(9,.O false),(12,.O (decide (c_≥65)))]) J 7 ?_)
  obtain ⟨K,h⟩|⟨K,h⟩:=oc h
  ·refine wy 12 K Q (wx (zz0 [(2,.O (decide (c_≤90)))]) J 5 (wn ?_))
   cases h
   exact we J func169 [] Q Q Q Q
  refine wy 12 K Q (wx (zz0 [(2,.O false)]) J 5 (wn ?_))
  cases h
  exact we J func169 [] Q Q Q Q
 refine wy 5 K Q (xw (rg 7 8) (zz0 [(0,.c (.i .u8 c_)),(9,.O (decide (c_≤122)))]) J 4 ?_)
 obtain ⟨K,h⟩|⟨K,h⟩:=oc h
 ·refine wy 9 K Q (wx (zz0 [(2,.O true)]) J 8 (wn ?_))
  cases h
  exact we J func169 [] Q Q Q Q
 refine wy 9 K Q (xw [10,11,12,13,14] (zz0 [(0,.c (.i .u8 c_)),(9,.O false),(12,.O (decide (c_≥65)))]) J 3 ?_)
 obtain ⟨K,h⟩|⟨K,h⟩:=oc h
 ·refine wy 12 K Q (wx (zz0 [(2,.O (decide (c_≤90)))]) J 5 (wn ?_))
  cases h
  exact we J func169 [] Q Q Q Q
 refine wy 12 K Q (wx (zz0 [(2,.O false)]) J 5 (wn ?_))
 cases h
 exact we J func169 [] Q Q Q Q
theorem z184_ct (N:Nat) (c_:Int) (r:Bool) (h:z184 N c_=some r) :
 Fn Tryz.prog 184 ⟨0,[.c (.i .u8 c_)],[],[],0,.O r,[],[]⟩:=by
 refine wF func184 Q Q (fun E F w=>?_)
 unfold z184 at h
 refine wR J 1 Q (wq (wg (xw [3,4,5,6] (zz0 [(0,.c (.i .u8 c_)),(5,.O (decide (c_≥48)))]) J 3 ?_)))
 obtain ⟨K,h⟩|⟨K,h⟩:=oc h
 ·refine wy 5 K Q (wx (zz0 [(2,.O (decide (c_≤57)))]) J 4 (wn ?_))
  cases h
  exact we J func184 [] Q Q Q Q
 refine wy 5 K Q (wx (zz0 [(2,.O false)]) J 4 (wn ?_))
 cases h
 exact we J func184 [] Q Q Q Q
theorem z170_ct (N:Nat) (c_:Int) (r:Bool) (h:z170 N c_=some r) :
 Fn Tryz.prog 170 ⟨0,[.c (.i .u8 c_)],[],[],0,.O r,[],[]⟩:=by
 refine wF func170 Q Q (fun E F w=>?_)
 unfold z170 at h
 refine wR J 1 Q (wq (wg (ws J 1 Q ?_)))
 obtain ⟨x1,d,h⟩:=ob h
 refine wc (z169_ct N c_ _ d) [] [] Q Q Q Q Q Q Q Q (.inl rfl) rfl (xw (rg 3 8) (zz0 [(0,.c (.i .u8 c_)),(5,.O x1)]) J 1 ?_)
 obtain ⟨K,h⟩|⟨K,h⟩:=oc h
 ·refine wy 5 K Q (wx (zz0 [(2,.O true)]) J 8 (wn ?_))
  cases h
  exact we J func170 [] Q Q Q Q
 refine wy 5 K Q (ws J 1 Q ?_)
 obtain ⟨x2,e,h⟩:=ob h
 refine wc (z184_ct N c_ _ e) [] [] Q Q Q Q Q Q Q Q (.inl rfl) rfl (xw [7,8,9,10] (zz0 [(0,.c (.i .u8 c_)),(9,.O x2)]) J 2 ?_)
 obtain ⟨K,h⟩|⟨K,h⟩:=oc h
 ·refine wy 9 K Q (wx (zz0 [(2,.O true)]) J 4 (wn ?_))
  cases h
  exact we J func170 [] Q Q Q Q
 refine wy 9 K Q (wx (zz0 [(2,.O (c_==95))]) J 4 (wn ?_))
 cases h
 exact we J func170 [] Q Q Q Q
theorem z148_ct (N:Nat) (s_:ByteArray) (r:Bool) (h:z148 N s_=some r) :
 Fn Tryz.prog 148 ⟨0,[.c (.s s_)],[],[],0,.O r,[],[]⟩:=by
 refine wF func148 Q Q (fun E F w=>?_)
 unfold z148 at h
 refine wR J 1 Q (wq (wq (wg (xw (rg 3 10) (zz0 [(0,.c (.s s_)),(2,.O false),(6,.O (s_.toList==(str []).toList))]) J 3 ?_))))
 obtain ⟨K,h⟩|⟨K,h⟩:=oc h
 ·refine wy 6 K Q (wx (zz0 [(0,.c (.s s_)),(2,.O false),(16,.O true)]) J 10 (wn (wt Q Q (wR J 1 Q ?_))))
  cases h
  exact we J func148 [] Q Q Q Q
 refine wy 6 K Q (ws J 1 Q ?_)
 obtain ⟨x1,d,h⟩:=ob h
 refine WPr.sx J d Q Q Q Q Q Q Q Q Q ?_
 obtain ⟨x2,e,h⟩:=ob h
 refine wc (z169_ct N x1 _ e) [] [] Q Q Q Q Q Q Q Q (.inl rfl) rfl (xw [9,10,11,12] (zz0 [(0,.c (.s s_)),(2,.O false),(12,.O (!x2))]) J 3 ?_)
 obtain ⟨K,h⟩|⟨K,h⟩:=oc h
 ·refine wy 12 K Q (wx (zz0 [(0,.c (.s s_)),(2,.O false),(16,.O true)]) J 4 (wn (wt Q Q (wR J 1 Q ?_))))
  cases h
  exact we J func148 [] Q Q Q Q
 refine wy 12 K Q (wx (zz0 [(0,.c (.s s_)),(2,.O false),(16,.O (decide ((s_.size:Int) > 16)))]) J 4 (wn ?_))
 obtain ⟨K,h⟩|⟨K,h⟩:=oc h
 ·refine wt K Q (wR J 1 Q ?_)
  cases h
  exact we J func148 [] Q Q Q Q
 refine wf K Q (wi (wq (wR J 1 Q ?_)))
 refine wC (σ:=Unit) (fun st=>(zz0 [])) (fun st=>z148_k1=some r) ?_ (fun j1=>?_)
 ·intro _ h
  replace h:z148_k1=some r:=h
  unfold z148_k1 at h
  refine wR J 1 Q ?_
  cases h
  exact we J func148 [] Q Q Q Q
 refine wo ?_
 refine wI (σ:=Int) (fun st=>(zz0 [(0,.c (.s s_)),(3,.I st)])) (fun n st=>z148_l2 N s_ n st) (r:=r) (fun _=>rfl) ?_ (fun ih=>?_)
 ·intro n2 ih3
  intro f h
  replace h:z148_l2 N s_ (n2+1) f=some r:=h
  unfold z148_l2 at h
  refine wq (wV (zz0 [(0,.c (.s s_)),(3,.I f),(20,.O (decide (f < (s_.size:Int))))]) J 4 ?_)
  obtain ⟨K,h⟩|⟨K,h⟩:=oc' h
  ·exact wf K Q (wz rfl (wU (j1 () h)))
  refine wt K Q (wi (wq (wo (wq (wg (ws J 2 Q ?_))))))
  obtain ⟨g,j,h⟩:=ob h
  refine WPr.sx J j Q Q Q Q Q Q Q Q Q (xw [3,4] (zz0 [(0,.c (.s s_)),(3,.I f),(25,.c (.i .u8 g))]) J 0 ?_)
  obtain ⟨k,l,h⟩:=ob h
  refine wc (z170_ct N g _ l) [] [] Q Q Q Q Q Q Q Q (.inl rfl) rfl (wx (zz0 [(0,.c (.s s_)),(3,.I f),(27,.O (!k))]) J 1 (wn ?_))
  obtain ⟨K,h⟩|⟨K,h⟩:=oc h
  ·refine wt K Q (wR J 1 Q ?_)
   cases h
   exact we J func148 [] Q Q Q Q
  exact wf K Q (wi (wb (wT (zz0 [(0,.c (.s s_)),(3,.I (w64 (f+1)))]) J 3 (wU (ih3 (w64 (f+1)) h)))))
 exact wU (ih N 0 h)
theorem z150_ct (N:Nat) (r:(List ByteArray)) (h:z150 N=some r) :
 Fn Tryz.prog 150 ⟨0,[],[],[],1,.S 0,[],[(0,.own rS r true)]⟩:=by
 refine wF func150 Q Q (fun E F w=>?_)
 unfold z150 at h
 refine wR J 1 Q (wq (wg (WPr.bs (cs:=[.s (str [97,103,97,105,110]),.s (str [97,110,100]),.s (str [97,115]),.s (str [97,116]),.s (str [99,97,108,108]),.s (str [99,104,111,105,99,101]),.s (str [101,108,115,101]),.s (str [102,114,111,109]),.s (str [105,102]),.s (str [105,110,116]),.s (str [108,101,110]),.s (str [108,111,111,112]),.s (str [109,101,115,115,97,103,101]),.s (str [111,102]),.s (str [111,102,102,101,114]),.s (str [111,110]),.s (str [111,114]),.s (str [112,97,114]),.s (str [112,108,97,121,115]),.s (str [112,114,111,116,111,99,111,108]),.s (str [115,101,114,118,105,99,101]),.s (str [116,101,120,116]),.s (str [116,105,109,101,115]),.s (str [116,111]),.s (str [118,97,114]),.s (str [119,104,101,114,101]),.s (str [119,104,105,108,101]),.s (str [119,105,116,104,105,110])]) oS J ([(str [97,103,97,105,110]),(str [97,110,100]),(str [97,115]),(str [97,116]),(str [99,97,108,108]),(str [99,104,111,105,99,101]),(str [101,108,115,101]),(str [102,114,111,109]),(str [105,102]),(str [105,110,116]),(str [108,101,110]),(str [108,111,111,112]),(str [109,101,115,115,97,103,101]),(str [111,102]),(str [111,102,102,101,114]),(str [111,110]),(str [111,114]),(str [112,97,114]),(str [112,108,97,121,115]),(str [112,114,111,116,111,99,111,108]),(str [115,101,114,118,105,99,101]),(str [116,101,120,116]),(str [116,105,109,101,115]),(str [116,111]),(str [118,97,114]),(str [119,104,101,114,101]),(str [119,104,105,108,101]),(str [119,105,116,104,105,110])]:List ByteArray) Q Q Q Q Q Q (by kernel_rfl) (by exact (an rfl (an rfl (an rfl (an rfl (an rfl (an rfl (an rfl (an rfl (an rfl (an rfl (an rfl (an rfl (an rfl (an rfl (an rfl (an rfl (an rfl (an rfl (an rfl (an rfl (an rfl (an rfl (an rfl (an rfl (an rfl (an rfl (an rfl (an Q Q))))))))))))))))))))))))))))) rfl (wx ⟨[(0,.S 0)],[(0,.own rS ([(str [97,103,97,105,110]),(str [97,110,100]),(str [97,115]),(str [97,116]),(str [99,97,108,108]),(str [99,104,111,105,99,101]),(str [101,108,115,101]),(str [102,114,111,109]),(str [105,102]),(str [105,110,116]),(str [108,101,110]),(str [108,111,111,112]),(str [109,101,115,115,97,103,101]),(str [111,102]),(str [111,102,102,101,114]),(str [111,110]),(str [111,114]),(str [112,97,114]),(str [112,108,97,121,115]),(str [112,114,111,116,111,99,111,108]),(str [115,101,114,118,105,99,101]),(str [116,101,120,116]),(str [116,105,109,101,115]),(str [116,111]),(str [118,97,114]),(str [119,104,101,114,101]),(str [119,104,105,108,101]),(str [119,105,116,104,105,110])]:List ByteArray) true)],[],1⟩ J 1 (wn ?_)))))
 cases h
 exact we J func150 [(0,.sl 0)] Q Q Q Q
theorem z149_ct (N:Nat) (l_:(List ByteArray)) (s_:ByteArray) (r:Bool) (h:z149 N l_ s_=some r) :
 Fn Tryz.prog 149 ⟨1,[.S 0,.c (.s s_)],[(0,.sl rS l_)],[],1,.O r,[],[]⟩:=by
 refine wF func149 Q Q (fun E F w=>?_)
 unfold z149 at h
 refine wR J 1 Q (wq (wR J 1 Q ?_))
 refine wC (σ:=Unit) (fun st=>(zz13 l_ [])) (fun st=>z149_k1=some r) ?_ (fun j1=>?_)
 ·intro _ h
  replace h:z149_k1=some r:=h
  unfold z149_k1 at h
  refine wR J 1 Q ?_
  cases h
  exact we J func149 [] Q Q Q Q
 refine wo ?_
 refine wI (σ:=Int) (fun st=>(zz13 l_ [(0,.S 0),(1,.c (.s s_)),(5,.I st)])) (fun n st=>z149_l2 l_ s_ n st) (r:=r) (fun _=>rfl) ?_ (fun ih=>?_)
 ·intro n2 ih3
  intro d h
  replace h:z149_l2 l_ s_ (n2+1) d=some r:=h
  unfold z149_l2 at h
  refine wq (wV (zz13 l_ [(0,.S 0),(1,.c (.s s_)),(5,.I d),(9,.O (decide (d < (l_.length:Int))))]) J 4 ?_)
  obtain ⟨K,h⟩|⟨K,h⟩:=oc' h
  ·exact wf K Q (wz rfl (wU (j1 () h)))
  refine wt K Q (wi (wq (wo (wq (wg (ws J 2 Q ?_))))))
  obtain ⟨x9,e,h⟩:=ob h
  refine wj oS J e Q Q Q Q Q Q Q Q Q (wx (zz60 l_ [(0,.S 0),(1,.c (.s s_)),(5,.I d),(17,.O (x9.toList==s_.toList))]) J 3 (wn ?_))
  obtain ⟨K,h⟩|⟨K,h⟩:=oc h
  ·refine wt K Q (wR J 1 Q ?_)
   cases h
   exact we J func149 [] Q Q Q Q
  exact wf K Q (wi (wb (wT (zz60 l_ [(0,.S 0),(1,.c (.s s_)),(5,.I (w64 (d+1)))]) J 3 (wU (ih3 (w64 (d+1)) h)))))
 exact wU (ih N 0 h)
theorem z112_ct (N:Nat) (s_:ByteArray) (r:Bool) (h:z112 N s_=some r) :
 Fn Tryz.prog 112 ⟨0,[.c (.s s_)],[],[],0,.O r,[],[]⟩:=by
 refine wF func112 Q Q (fun E F w=>?_)
 unfold z112 at h
 refine wR J 1 Q (wq (wg (ws J 1 Q ?_)))
 obtain ⟨x1,d,h⟩:=ob h
 refine wc (z148_ct N s_ _ d) [] [] Q Q Q Q Q Q Q Q (.inl rfl) rfl (xw (rg 3 6) (zz0 [(0,.c (.s s_)),(5,.O x1)]) J 1 ?_)
 obtain ⟨K,h⟩|⟨K,h⟩:=oc' h
 ·refine wy 5 K Q (wx (zz0 [(2,.O false)]) J 6 (wn ?_))
  cases h
  exact we J func112 [] Q Q Q Q
 refine wy 5 K Q ?_
 obtain ⟨x2,e,h⟩:=ob h
 refine wc (z150_ct N _ e) [] [] Q Q Q Q Q Q Q Q (.inl rfl) rfl (xw [5,6,7,8] (zz16 x2 [(5,.O true),(6,.S 0),(7,.c (.s s_))]) J 1 ?_)
 obtain ⟨x3,f,h⟩:=ob h
 refine wc (z149_ct N x2 s_ _ f) [(0,.sl 0)] [0] Q Q Q Q Q Q Q Q (.inr ⟨rfl,trivial⟩) rfl (wx (zz21 [(2,.O (!x3))]) J 3 (wn ?_))
 cases h
 exact we J func112 [] Q Q Q Q
theorem z76_ct (N:Nat) (l_:(List ByteArray)) (s_:ByteArray) (r:Int) (h:z76 N l_ s_=some r) :
 Fn Tryz.prog 76 ⟨1,[.S 0,.c (.s s_)],[(0,.sl rS l_)],[],1,.I r,[],[]⟩:=by
 refine wF func76 Q Q (fun E F w=>?_)
 unfold z76 at h
 refine wR J 1 Q (wq (wR J 1 Q ?_))
 refine wC (σ:=Unit) (fun st=>(zz13 l_ [])) (fun st=>z76_k1=some r) ?_ (fun j1=>?_)
 ·intro _ h
  replace h:z76_k1=some r:=h
  unfold z76_k1 at h
  refine wR J 1 Q ?_
  cases h
  exact we J func76 [] Q Q Q Q
 refine wo ?_
 refine wI (σ:=Int) (fun st=>(zz13 l_ [(0,.S 0),(1,.c (.s s_)),(5,.I st)])) (fun n st=>z76_l2 l_ s_ n st) (r:=r) (fun _=>rfl) ?_ (fun ih=>?_)
 ·intro n2 ih3
  intro d h
  replace h:z76_l2 l_ s_ (n2+1) d=some r:=h
  unfold z76_l2 at h
  refine wq (wV (zz13 l_ [(0,.S 0),(1,.c (.s s_)),(5,.I d),(9,.O (decide (d < (l_.length:Int))))]) J 4 ?_)
  obtain ⟨K,h⟩|⟨K,h⟩:=oc' h
  ·exact wf K Q (wz rfl (wU (j1 () h)))
  refine wt K Q (wi (wq (wo (wq (wg (ws J 2 Q ?_))))))
  obtain ⟨x9,e,h⟩:=ob h
  refine wj oS J e Q Q Q Q Q Q Q Q Q (wx (zz60 l_ [(0,.S 0),(1,.c (.s s_)),(5,.I d),(17,.O (x9.toList==s_.toList))]) J 3 (wn ?_))
  obtain ⟨K,h⟩|⟨K,h⟩:=oc h
  ·refine wt K Q (wR J 2 Q ?_)
   cases h
   exact we J func76 [] Q Q Q Q
  exact wf K Q (wi (wb (wT (zz60 l_ [(0,.S 0),(1,.c (.s s_)),(5,.I (w64 (d+1)))]) J 3 (wU (ih3 (w64 (d+1)) h)))))
 exact wU (ih N 0 h)
theorem z151_ct (N:Nat) (decls_:(List T0)) (r:Int) (h:z151 N decls_=some r) :
 Fn Tryz.prog 151 ⟨1,[.S 0],[(0,.sl rR0 decls_)],[],1,.I r,[],[]⟩:=by
 refine wF func151 Q Q (fun E F w=>?_)
 unfold z151 at h
 refine wR J 1 Q (wR J 1 Q (wq (wV (zz7 decls_ [(0,.S 0),(2,.I 0),(3,.I 0),(4,.I 0)]) J 1 ?_)))
 refine wC (σ:=Int) (fun st=>(zz7 decls_ [(3,.I st)])) (fun st=>z151_k1 st=some r) ?_ (fun j1=>?_)
 ·intro c h
  replace h:z151_k1 c=some r:=h
  unfold z151_k1 at h
  refine wR J 2 Q ?_
  cases h
  exact we J func151 [] Q Q Q Q
 refine wo ?_
 refine wI (σ:=Int × Int) (fun st=>(zz7 decls_ [(0,.S 0),(3,.I st.1),(4,.I st.2)])) (fun n st=>z151_l2 decls_ n st.1 st.2) (r:=r) (fun _=>rfl) ?_ (fun ih=>?_)
 ·intro n2 ih3
  rintro ⟨d,e⟩ h
  replace h:z151_l2 decls_ (n2+1) d e=some r:=h
  unfold z151_l2 at h
  refine wq (wV (zz7 decls_ [(0,.S 0),(3,.I d),(4,.I e),(8,.O (decide (e < (decls_.length:Int))))]) J 4 ?_)
  obtain ⟨K,h⟩|⟨K,h⟩:=oc' h
  ·exact wf K Q (wz rfl (wU (j1 d h)))
  refine wt K Q (wi (wq (wo (wg (xw (rg 3 6) (zz7 decls_ [(0,.S 0),(4,.I e),(11,.I d),(12,.S 0),(13,.I e)]) J 3 ?_)))))
  obtain ⟨x9,f,h⟩:=ob h
  exact wj oO0 J f Q Q Q Q Q Q Q Q Q (wx ⟨[(0,.S 0),(3,.I (w64 (d+(x9.Fields.length:Int)))),(4,.I e)],[],[(0,.sl rR0 decls_)],5⟩ J 5 (wn (wb (wT ⟨[(0,.S 0),(3,.I (w64 (d+(x9.Fields.length:Int)))),(4,.I (w64 (e+1)))],[],[(0,.sl rR0 decls_)],5⟩ J 3 (wU (ih3 ((w64 (d+(x9.Fields.length:Int))),(w64 (e+1))) h))))))
 exact wU (ih N (0,0) h)
theorem z152_ct (N:Nat) (s_:T7) (r:Bool) (h:z152 N s_=some r) :
 Fn Tryz.prog 152 ⟨0,[.a (cC7 s_)],[],[],0,.O r,[],[]⟩:=by
 refine wF func152 Q Q (fun E F w=>?_)
 unfold z152 at h
 refine wR J 2 Q (wV (zz23 s_ [(1,.B 0 0),(2,.O false),(3,.I (-1000)),(4,.I 1000)]) J 2 (wq (wV (zz23 s_ [(1,.B 0 0),(2,.O false),(3,.I (-1000)),(4,.I 1000),(7,.O (s_.Kind==2))]) J 3 ?_)))
 refine wC (σ:=Int × Int) (fun st=>(zz23 s_ [(1,.B 0 0),(3,.I st.1),(4,.I st.2)])) (fun st=>z152_k1 s_ st.1 st.2=some r) ?_ (fun j1=>?_)
 ·rintro ⟨c,d⟩ h
  replace h:z152_k1 s_ c d=some r:=h
  unfold z152_k1 at h
  refine wq (wg (xw (rg 4 24) (zz23 s_ [(1,.B 0 0),(3,.I c),(4,.I d),(11,.O (s_.Kind==1))]) J 4 ?_))
  obtain ⟨K,h⟩|⟨K,h⟩:=oc h
  ·refine wy 11 K Q (xw (rg 15 13) (zz23 s_ [(1,.B 0 0),(4,.I d),(22,.O (decide (s_.Lo≥c)))]) J 11 ?_)
   obtain ⟨K,h⟩|⟨K,h⟩:=oc' h
   ·refine wy 22 K Q (wx (zz21 [(2,.O false)]) J 13 (wn ?_))
    cases h
    exact we J func152 [] Q Q Q Q
   refine wy 22 K Q (xw (rg 21 7) (zz23 s_ [(1,.B 0 0),(28,.O (decide (s_.Hi≤d)))]) J 6 ?_)
   obtain ⟨K,h⟩|⟨K,h⟩:=oc h
   ·refine wy 28 K Q (wx (zz21 [(2,.O (decide (s_.Lo≤s_.Hi)))]) J 7 (wn ?_))
    cases h
    exact we J func152 [] Q Q Q Q
   refine wy 28 K Q (wx (zz21 [(2,.O false)]) J 7 (wn ?_))
   cases h
   exact we J func152 [] Q Q Q Q
  refine wy 11 K Q (xw (rg 9 19) (zz23 s_ [(1,.B 0 0),(3,.I c),(4,.I d),(16,.O (s_.Kind==2))]) J 5 ?_)
  obtain ⟨K,h⟩|⟨K,h⟩:=oc' h
  ·refine wy 16 K Q (wx (zz21 [(2,.O false)]) J 19 (wn ?_))
   cases h
   exact we J func152 [] Q Q Q Q
  refine wy 16 K Q (xw (rg 15 13) (zz23 s_ [(1,.B 0 0),(4,.I d),(22,.O (decide (s_.Lo≥c)))]) J 6 ?_)
  obtain ⟨K,h⟩|⟨K,h⟩:=oc' h
  ·refine wy 22 K Q (wx (zz21 [(2,.O false)]) J 13 (wn ?_))
   cases h
   exact we J func152 [] Q Q Q Q
  refine wy 22 K Q (xw (rg 21 7) (zz23 s_ [(1,.B 0 0),(28,.O (decide (s_.Hi≤d)))]) J 6 ?_)
  obtain ⟨K,h⟩|⟨K,h⟩:=oc h
  ·refine wy 28 K Q (wx (zz21 [(2,.O (decide (s_.Lo≤s_.Hi)))]) J 7 (wn ?_))
   cases h
   exact we J func152 [] Q Q Q Q
  refine wy 28 K Q (wx (zz21 [(2,.O false)]) J 7 (wn ?_))
  cases h
  exact we J func152 [] Q Q Q Q
 obtain ⟨K,h⟩|⟨K,h⟩:=oc h
 ·exact wt K Q (wS J 2 Q (wU (j1 (0,40) h)))
 exact wf K Q (wi (wU (j1 ((-1000),1000) h)))
theorem z171_ct (N:Nat) (s_:ByteArray) (r:Bool) (h:z171 N s_=some r) :
 Fn Tryz.prog 171 ⟨0,[.c (.s s_)],[],[],0,.O r,[],[]⟩:=by
 refine wF func171 Q Q (fun E F w=>?_)
 unfold z171 at h
 refine wR J 1 Q (wq (wg (ws J 1 Q ?_)))
 obtain ⟨x1,d,h⟩:=ob h
 refine wc (z112_ct N s_ _ d) [] [] Q Q Q Q Q Q Q Q (.inl rfl) rfl (wx (zz0 [(2,.O x1)]) J 1 (wn ?_))
 cases h
 exact we J func171 [] Q Q Q Q
theorem z153_ct (N:Nat) (s_:ByteArray) (r:Bool) (h:z153 N s_=some r) :
 Fn Tryz.prog 153 ⟨0,[.c (.s s_)],[],[],0,.O r,[],[]⟩:=by
 refine wF func153 Q Q (fun E F w=>?_)
 unfold z153 at h
 refine wR J 1 Q (wR J 1 Q (wq (wV (zz0 [(0,.c (.s s_)),(2,.O false),(3,.I 0),(4,.I 0)]) J 1 ?_)))
 refine wC (σ:=Unit) (fun st=>(zz0 [(0,.c (.s s_))])) (fun st=>z153_k1 s_=some r) ?_ (fun j1=>?_)
 ·intro _ h
  replace h:z153_k1 s_=some r:=h
  unfold z153_k1 at h
  refine wV (zz0 [(2,.O (decide ((s_.size:Int)≤50)))]) J 4 ?_
  cases h
  exact we J func153 [] Q Q Q Q
 refine wo ?_
 refine wI (σ:=Int × Int) (fun st=>(zz0 [(0,.c (.s s_)),(3,.I st.1),(4,.I st.2)])) (fun n st=>z153_l2 N s_ n st.1 st.2) (r:=r) (fun _=>rfl) ?_ (fun ih=>?_)
 ·intro n2 ih6
  rintro ⟨d,e⟩ h
  replace h:z153_l2 N s_ (n2+1) d e=some r:=h
  unfold z153_l2 at h
  refine wq (wV (zz0 [(0,.c (.s s_)),(3,.I d),(4,.I e),(8,.O (decide (e≤(s_.size:Int))))]) J 4 ?_)
  obtain ⟨K,h⟩|⟨K,h⟩:=oc' h
  ·exact wf K Q (wz rfl (wU (j1 () h)))
  refine wt K Q (wi (wq (wo (wq (wg (xw [5,6,7,8,9] (zz0 [(0,.c (.s s_)),(3,.I d),(4,.I e),(15,.O (e==(s_.size:Int)))]) J 5 ?_))))))
  refine WP.cutr (σ:=Bool) (fun st=>(zz0 [(0,.c (.s s_)),(3,.I d),(4,.I e),(20,.O st)])) (fun st=>z153_k3 N s_ d e (z153_l2 N s_ n2) st=some r) ?_ (fun j9=>?_)
  ·intro f h
   replace h:z153_k3 N s_ d e (z153_l2 N s_ n2) f=some r:=h
   unfold z153_k3 at h
   obtain ⟨K,h⟩|⟨K,h⟩:=oc' h
   ·exact wf K Q (wi (wb (wT (zz0 [(0,.c (.s s_)),(3,.I d),(4,.I (w64 (e+1)))]) J 3 (wU (ih6 (d,(w64 (e+1))) h)))))
   refine wt K Q (wq (wq (wg (xw [3,4,5] (zz0 [(0,.c (.s s_)),(4,.I e),(21,.c (.s s_)),(22,.I d),(23,.I e)]) J 3 ?_))))
   obtain ⟨g,i,h⟩:=ob h
   refine WPr.ssl J (l:=some (.i64,d)) (h:=some (.i64,e)) i Q Q Q Q Q Q Q Q Q Q ?_
   obtain ⟨j,k,h⟩:=ob h
   refine wc (z171_ct N g _ k) [] [] Q Q Q Q Q Q Q Q (.inl rfl) rfl (wx (zz0 [(0,.c (.s s_)),(4,.I e),(26,.O (!j))]) J 1 (wn ?_))
   obtain ⟨K,h⟩|⟨K,h⟩:=oc h
   ·refine wt K Q (wR J 1 Q ?_)
    cases h
    exact we J func153 [] Q Q Q Q
   exact wf K Q (wi (wT (zz0 [(0,.c (.s s_)),(3,.I (w64 (e+1))),(4,.I e)]) J 3 (wb (wT (zz0 [(0,.c (.s s_)),(3,.I (w64 (e+1))),(4,.I (w64 (e+1)))]) J 3 (wU (ih6 ((w64 (e+1)),(w64 (e+1))) h))))))
  obtain ⟨K,h⟩|⟨K,h⟩:=oc h
  ·exact wy 15 K Q (wx (zz0 [(0,.c (.s s_)),(3,.I d),(4,.I e),(20,.O true)]) J 5 (wn (wU (j9 true h))))
  refine wy 15 K Q (ws J 2 Q ?_)
  obtain ⟨m,o,h⟩:=ob h
  exact WPr.sx J o Q Q Q Q Q Q Q Q Q (wx (zz0 [(0,.c (.s s_)),(3,.I d),(4,.I e),(20,.O (m==46))]) J 2 (wn (wU (j9 (m==46) h))))
 exact wU (ih N (0,0) h)
theorem z185_ct (N:Nat) (decls_:(List T0)) (x_:Int) (r:T3) (h:z185 N decls_ x_=some r) :
 Fn Tryz.prog 185 ⟨1,[.S 0,.I x_],[(0,.sl rR0 decls_)],[],1,.a (cC3 r),[],[]⟩:=by
 refine wF func185 Q Q (fun E F w=>?_)
 unfold z185 at h
 refine wR J 1 Q (wq (wR J 1 Q ?_))
 refine wC (σ:=Unit) (fun st=>(zz112 decls_ [(4,.B 1 0)])) (fun st=>z185_k1=some r) ?_ (fun j1=>?_)
 ·intro _ h
  replace h:z185_k1=some r:=h
  unfold z185_k1 at h
  refine wR J 2 Q ?_
  cases h
  exact we J func185 [] Q Q Q Q
 refine wo ?_
 refine wI (σ:=Int × Int) (fun st=>(zz112 decls_ [(0,.S 0),(1,.I st.1),(4,.B 1 0),(5,.I st.2)])) (fun n st=>z185_l2 decls_ n st.1 st.2) (r:=r) (fun _=>rfl) ?_ (fun ih=>?_)
 ·intro n2 ih3
  rintro ⟨c,d⟩ h
  replace h:z185_l2 decls_ (n2+1) c d=some r:=h
  unfold z185_l2 at h
  refine wq (wV (zz112 decls_ [(0,.S 0),(1,.I c),(4,.B 1 0),(5,.I d),(9,.O (decide (d < (decls_.length:Int))))]) J 4 ?_)
  obtain ⟨K,h⟩|⟨K,h⟩:=oc' h
  ·exact wf K Q (wz rfl (wU (j1 () h)))
  refine wt K Q (wi (wq (wo (wq (wq (wg (xw [3,4,5,6,7] (zz112 decls_ [(0,.S 0),(1,.I c),(4,.B 1 0),(5,.I d),(12,.I c),(13,.S 0),(14,.I d)]) J 3 ?_)))))))
  obtain ⟨e,f,h⟩:=ob h
  refine wj oO0 J f Q Q Q Q Q Q Q Q Q (wx ⟨[(0,.S 0),(1,.I c),(4,.B 1 0),(5,.I d),(19,.O (decide (c < (e.Fields.length:Int))))],[(1,.box [.s (str []),.I 0,.I 0,.I 0] 141)],[(0,.sl rR0 decls_)],6⟩ J 4 (wn ?_))
  obtain ⟨K,h⟩|⟨K,h⟩:=oc' h
  ·refine wf K Q (wi (wg (xw (rg 3 6) ⟨[(0,.S 0),(4,.B 1 0),(5,.I d),(28,.I c),(29,.S 0),(30,.I d)],[(1,.box [.s (str []),.I 0,.I 0,.I 0] 141)],[(0,.sl rR0 decls_)],6⟩ J 3 ?_)))
   obtain ⟨g,i,h⟩:=ob h
   exact wj oO0 J i Q Q Q Q Q Q Q Q Q (wx ⟨[(0,.S 0),(1,.I (w64 (c-(g.Fields.length:Int)))),(4,.B 1 0),(5,.I d)],[(1,.box [.s (str []),.I 0,.I 0,.I 0] 141)],[(0,.sl rR0 decls_)],10⟩ J 5 (wn (wb (wT ⟨[(0,.S 0),(1,.I (w64 (c-(g.Fields.length:Int)))),(4,.B 1 0),(5,.I (w64 (d+1)))],[(1,.box [.s (str []),.I 0,.I 0,.I 0] 141)],[(0,.sl rR0 decls_)],10⟩ J 3 (wU (ih3 ((w64 (c-(g.Fields.length:Int))),(w64 (d+1))) h))))))
  refine wt K Q (wq (wg (ws J 2 Q ?_)))
  obtain ⟨j,k,h⟩:=ob h
  refine wj oO0 J k Q Q Q Q Q Q Q Q Q (xw [6,7,8] ⟨[(4,.B 1 0),(24,.S 7),(25,.I c)],[(1,.box [.s (str []),.I 0,.I 0,.I 0] 141)],[(0,.sl rR0 decls_),(7,.sl rR3 j.Fields)],10⟩ J 3 ?_)
  obtain ⟨l,m,h⟩:=ob h
  refine wj oO3 J m Q Q Q Q Q Q Q Q Q (wx ⟨[(4,.B 1 0)],[(1,.box (cC3 l) 141)],[(0,.sl rR0 decls_)],11⟩ J 2 (wn ?_))
  cases h
  exact we J func185 [] Q Q Q Q
 exact wU (ih N (x_,0) h)
theorem z172_ct (N:Nat) (decls_:(List T0)) (x_:Int) (r:Bool) (h:z172 N decls_ x_=some r) :
 Fn Tryz.prog 172 ⟨1,[.S 0,.I x_],[(0,.sl rR0 decls_)],[],1,.O r,[],[]⟩:=by
 refine wF func172 Q Q (fun E F w=>?_)
 unfold z172 at h
 refine wR J 1 Q (wq (wg (xw (rg 3 14) (zz7 decls_ [(0,.S 0),(1,.I x_),(7,.O (decide (x_≥0)))]) J 3 ?_)))
 obtain ⟨K,h⟩|⟨K,h⟩:=oc' h
 ·refine wy 7 K Q (wx (zz7 decls_ [(4,.O false)]) J 14 (wn ?_))
  cases h
  exact we J func172 [] Q Q Q Q
 refine wy 7 K Q (ws J 2 Q ?_)
 obtain ⟨x1,c,h⟩:=ob h
 refine wc (z151_ct N decls_ _ c) [(0,.sl 0)] [] Q Q Q Q Q Q Q Q (.inl rfl) rfl (xw (rg 9 8) (zz7 decls_ [(0,.S 0),(1,.I x_),(13,.O (decide (x_ < x1)))]) J 3 ?_)
 obtain ⟨K,h⟩|⟨K,h⟩:=oc' h
 ·refine wy 13 K Q (wx (zz7 decls_ [(4,.O false)]) J 8 (wn ?_))
  cases h
  exact we J func172 [] Q Q Q Q
 refine wy 13 K Q (ws J 2 Q ?_)
 obtain ⟨x2,d,h⟩:=ob h
 refine wc (z185_ct N decls_ x_ _ d) [(0,.sl 0)] [] Q Q Q Q Q Q Q Q (.inl rfl) rfl (wx (zz7 decls_ [(4,.O (x2.Sort'.Kind==2))]) J 5 (wn ?_))
 cases h
 exact we J func172 [] Q Q Q Q
theorem z154_ct (N:Nat) (decls_:(List T0)) (g_:T5) (r:Bool) (h:z154 N decls_ g_=some r) :
 Fn Tryz.prog 154 ⟨3,[.S 0,.a [.sl 1,.sl 2]],[(0,.sl rR0 decls_),(1,.sl rR1 g_.Diffs),(2,.sl (rP (rI .i64) (rI .i64)) g_.Equals)],[],3,.O r,[],[]⟩:=by
 refine wF func154 Q Q (fun E F w=>?_)
 unfold z154 at h
 refine wR J 2 Q (wq (wg (xw [1,2] (zz31 decls_ g_.Diffs g_.Equals [(0,.S 0),(3,.B 3 0),(4,.O false),(9,.S 0)]) J 1 ?_)))
 obtain ⟨x1,c,h⟩:=ob h
 refine wc (z151_ct N decls_ _ c) [(0,.sl 0)] [] Q Q Q Q Q Q Q Q (.inl rfl) rfl (wx (zz31 decls_ g_.Diffs g_.Equals [(0,.S 0),(3,.B 3 0),(4,.O false),(5,.I x1)]) J 1 (wn (wq (wR J 1 Q ?_))))
 refine wC (σ:=Unit) (fun st=>(zz31 decls_ g_.Diffs g_.Equals [(0,.S 0),(3,.B 3 0)])) (fun st=>z154_k3 N decls_ g_=some r) ?_ (fun j1=>?_)
 ·intro _ h
  replace h:z154_k3 N decls_ g_=some r:=h
  unfold z154_k3 at h
  refine wq (wR J 1 Q ?_)
  refine wC (σ:=Unit) (fun st=>(zz31 decls_ g_.Diffs g_.Equals [(3,.B 3 0)])) (fun st=>z154_k1 g_=some r) ?_ (fun j3=>?_)
  ·intro _ h
   replace h:z154_k1 g_=some r:=h
   unfold z154_k1 at h
   refine wq (wg (xw (rg 5 6) (zz31 decls_ g_.Diffs g_.Equals [(3,.B 3 0),(84,.O (decide ((g_.Diffs.length:Int)≤20)))]) J 5 ?_))
   obtain ⟨K,h⟩|⟨K,h⟩:=oc h
   ·refine wy 84 K Q (wx ⟨[(4,.O (decide ((g_.Equals.length:Int)≤20)))],[],[(0,.sl rR0 decls_),(1,.sl rR1 g_.Diffs),(2,.sl (rP (rI .i64) (rI .i64)) g_.Equals)],4⟩ J 6 (wn ?_))
    cases h
    exact we J func154 [] Q Q Q Q
   refine wy 84 K Q (wx ⟨[(4,.O false)],[],[(0,.sl rR0 decls_),(1,.sl rR1 g_.Diffs),(2,.sl (rP (rI .i64) (rI .i64)) g_.Equals)],4⟩ J 6 (wn ?_))
   cases h
   exact we J func154 [] Q Q Q Q
  refine wo ?_
  refine wI (σ:=Int) (fun st=>(zz31 decls_ g_.Diffs g_.Equals [(0,.S 0),(3,.B 3 0),(8,.I st)])) (fun n st=>z154_l2 N decls_ g_ n st) (r:=r) (fun _=>rfl) ?_ (fun ih=>?_)
  ·intro n3 ih5
   intro d h
   replace h:z154_l2 N decls_ g_ (n3+1) d=some r:=h
   unfold z154_l2 at h
   refine wq (wV (zz31 decls_ g_.Diffs g_.Equals [(0,.S 0),(3,.B 3 0),(8,.I d),(57,.O (decide (d < (g_.Equals.length:Int))))]) J 5 ?_)
   obtain ⟨K,h⟩|⟨K,h⟩:=oc' h
   ·exact wf K Q (wz rfl (wU (j3 () h)))
   refine wt K Q (wi (wq (wo (wq (wg (xw (rg 4 16) (zz31 decls_ g_.Diffs g_.Equals [(0,.S 0),(3,.B 3 0),(8,.I d),(60,.S 0),(62,.S 2),(63,.I d)]) J 4 ?_))))))
   obtain ⟨e,f,h⟩:=ob h
   refine wj (oP (oI .i64) (oI .i64)) J f Q Q Q Q Q Q Q Q Q (WPr.axp (len:=2) (el:=3) (es:=1) 0 Q Q Q Q Q (by kernel_rfl) (by kernel_rfl) Q Q (Or.inl ⟨_,rfl⟩) Q Q (xw (rg 7 13) (zz113 decls_ g_.Diffs g_.Equals [(0,.S 0),(3,.B 3 0),(8,.I d),(60,.S 0),(66,.I e.1)]) J 1 ?_))
   obtain ⟨g,i,h⟩:=ob h
   refine wc (z172_ct N decls_ e.1 _ i) [(0,.sl 0)] [] Q Q Q Q Q Q Q Q (.inl rfl) rfl (xw (rg 10 10) (zz113 decls_ g_.Diffs g_.Equals [(0,.S 0),(3,.B 3 0),(8,.I d),(69,.O (!g))]) J 2 ?_)
   obtain ⟨K,h⟩|⟨K,h⟩:=oc h
   ·refine wy 69 K Q (wx (zz113 decls_ g_.Diffs g_.Equals [(0,.S 0),(3,.B 3 0),(8,.I d),(79,.O true)]) J 10 (wn (wt Q Q (wR J 1 Q ?_))))
    cases h
    exact we J func154 [] Q Q Q Q
   refine wy 69 K Q (xw (rg 14 6) (zz113 decls_ g_.Diffs g_.Equals [(0,.S 0),(3,.B 3 0),(8,.I d),(69,.O false),(70,.S 0),(72,.S 2),(73,.I d)]) J 4 ?_)
   obtain ⟨j,k,h⟩:=ob h
   refine wj (oP (oI .i64) (oI .i64)) J k Q Q Q Q Q Q Q Q Q (WPr.axp (len:=2) (el:=3) (es:=1) 1 Q Q Q Q Q (by kernel_rfl) (by kernel_rfl) Q Q (Or.inl ⟨_,rfl⟩) Q Q (xw [17,18,19] (zz34 decls_ g_.Diffs g_.Equals [(0,.S 0),(3,.B 3 0),(8,.I d),(69,.O false),(70,.S 0),(76,.I j.2)]) J 1 ?_))
   obtain ⟨l,m,h⟩:=ob h
   refine wc (z172_ct N decls_ j.2 _ m) [(0,.sl 0)] [] Q Q Q Q Q Q Q Q (.inl rfl) rfl (wx (zz34 decls_ g_.Diffs g_.Equals [(0,.S 0),(3,.B 3 0),(8,.I d),(79,.O (!l))]) J 2 (wn ?_))
   obtain ⟨K,h⟩|⟨K,h⟩:=oc h
   ·refine wt K Q (wR J 1 Q ?_)
    cases h
    exact we J func154 [] Q Q Q Q
   exact wf K Q (wi (wb (wT (zz34 decls_ g_.Diffs g_.Equals [(0,.S 0),(3,.B 3 0),(8,.I (w64 (d+1)))]) J 3 (wU (ih5 (w64 (d+1)) h)))))
  exact wU (ih N 0 h)
 refine wo ?_
 refine wI (σ:=Int) (fun st=>(zz31 decls_ g_.Diffs g_.Equals [(0,.S 0),(3,.B 3 0),(5,.I x1),(6,.I st)])) (fun n st=>z154_l4 N decls_ g_ x1 n st) (r:=r) (fun _=>rfl) ?_ (fun ih=>?_)
 ·intro n4 ih6
  intro o h
  replace h:z154_l4 N decls_ g_ x1 (n4+1) o=some r:=h
  unfold z154_l4 at h
  refine wq (wV (zz31 decls_ g_.Diffs g_.Equals [(0,.S 0),(3,.B 3 0),(5,.I x1),(6,.I o),(15,.O (decide (o < (g_.Diffs.length:Int))))]) J 5 ?_)
  obtain ⟨K,h⟩|⟨K,h⟩:=oc' h
  ·exact wf K Q (wz rfl (wU (j1 () h)))
  refine wt K Q (wi (wq (wo (wq (wg (xw [3,4,5,6] (zz31 decls_ g_.Diffs g_.Equals [(0,.S 0),(3,.B 3 0),(5,.I x1),(6,.I o),(19,.S 1),(20,.I o)]) J 3 ?_))))))
  obtain ⟨p,q,h⟩:=ob h
  refine wj oO1 J q Q Q Q Q Q Q Q Q Q (wx (zz71 p decls_ g_.Diffs g_.Equals [(0,.S 0),(3,.B 3 0),(5,.I x1),(6,.I o),(7,.B 5 0)]) J 3 (wn (wq (wg (xw (rg 4 26) (zz71 p decls_ g_.Diffs g_.Equals [(0,.S 0),(3,.B 3 0),(5,.I x1),(6,.I o),(7,.B 5 0),(26,.O (decide (p.X < (-1))))]) J 4 ?_)))))
  obtain ⟨K,h⟩|⟨K,h⟩:=oc h
  ·refine wy 26 K Q (wx (zz34 decls_ g_.Diffs g_.Equals [(0,.S 0),(3,.B 3 0),(5,.I x1),(6,.I o),(52,.O true)]) J 26 (wn (wt Q Q (wR J 1 Q ?_))))
   cases h
   exact we J func154 [] Q Q Q Q
  refine wy 26 K Q (xw (rg 10 20) (zz71 p decls_ g_.Diffs g_.Equals [(0,.S 0),(3,.B 3 0),(5,.I x1),(6,.I o),(7,.B 5 0),(32,.O (decide (p.X≥x1)))]) J 6 ?_)
  obtain ⟨K,h⟩|⟨K,h⟩:=oc h
  ·refine wy 32 K Q (wx (zz34 decls_ g_.Diffs g_.Equals [(0,.S 0),(3,.B 3 0),(5,.I x1),(6,.I o),(52,.O true)]) J 20 (wn (wt Q Q (wR J 1 Q ?_))))
   cases h
   exact we J func154 [] Q Q Q Q
  refine wy 32 K Q (xw (rg 15 15) (zz71 p decls_ g_.Diffs g_.Equals [(0,.S 0),(3,.B 3 0),(5,.I x1),(6,.I o),(7,.B 5 0),(37,.O (decide (p.Y < (-1))))]) J 5 ?_)
  obtain ⟨K,h⟩|⟨K,h⟩:=oc h
  ·refine wy 37 K Q (wx (zz34 decls_ g_.Diffs g_.Equals [(0,.S 0),(3,.B 3 0),(5,.I x1),(6,.I o),(52,.O true)]) J 15 (wn (wt Q Q (wR J 1 Q ?_))))
   cases h
   exact we J func154 [] Q Q Q Q
  refine wy 37 K Q (xw (rg 21 9) (zz71 p decls_ g_.Diffs g_.Equals [(0,.S 0),(3,.B 3 0),(5,.I x1),(6,.I o),(7,.B 5 0),(43,.O (decide (p.Y≥x1)))]) J 6 ?_)
  obtain ⟨K,h⟩|⟨K,h⟩:=oc h
  ·refine wy 43 K Q (wx (zz34 decls_ g_.Diffs g_.Equals [(0,.S 0),(3,.B 3 0),(5,.I x1),(6,.I o),(52,.O true)]) J 9 (wn (wt Q Q (wR J 1 Q ?_))))
   cases h
   exact we J func154 [] Q Q Q Q
  refine wy 43 K Q (xw [26,27,28,29] (zz71 p decls_ g_.Diffs g_.Equals [(0,.S 0),(3,.B 3 0),(5,.I x1),(6,.I o),(7,.B 5 0),(48,.O (decide (p.C < (-20000))))]) J 5 ?_)
  obtain ⟨K,h⟩|⟨K,h⟩:=oc h
  ·refine wy 48 K Q (wx (zz34 decls_ g_.Diffs g_.Equals [(0,.S 0),(3,.B 3 0),(5,.I x1),(6,.I o),(52,.O true)]) J 4 (wn (wt Q Q (wR J 1 Q ?_))))
   cases h
   exact we J func154 [] Q Q Q Q
  refine wy 48 K Q (wx (zz34 decls_ g_.Diffs g_.Equals [(0,.S 0),(3,.B 3 0),(5,.I x1),(6,.I o),(52,.O (decide (p.C > 20000)))]) J 4 (wn ?_))
  obtain ⟨K,h⟩|⟨K,h⟩:=oc h
  ·refine wt K Q (wR J 1 Q ?_)
   cases h
   exact we J func154 [] Q Q Q Q
  exact wf K Q (wi (wb (wT (zz34 decls_ g_.Diffs g_.Equals [(0,.S 0),(3,.B 3 0),(5,.I x1),(6,.I (w64 (o+1)))]) J 3 (wU (ih6 (w64 (o+1)) h)))))
 exact wU (ih N 0 h)
theorem z113_ct (N:Nat) (decls_:(List T0)) (r:Bool) (h:z113 N decls_=some r) :
 Fn Tryz.prog 113 ⟨1,[.S 0],[(0,.sl rR0 decls_)],[],1,.O r,[],[]⟩:=by
 refine wF func113 Q Q (fun E F w=>?_)
 unfold z113 at h
 refine wR J 1 Q (wq (wq (wg (xw [4,5,6,7] (zz7 decls_ [(0,.S 0),(2,.O false),(12,.O (decide ((decls_.length:Int) > 40)))]) J 4 ?_))))
 obtain ⟨K,h⟩|⟨K,h⟩:=oc h
 ·refine wy 12 K Q (wx (zz7 decls_ [(0,.S 0),(2,.O false),(16,.O true)]) J 4 (wn (wt Q Q (wR J 1 Q ?_))))
  cases h
  exact we J func113 [] Q Q Q Q
 refine wy 12 K Q (ws J 1 Q ?_)
 obtain ⟨x1,d,h⟩:=ob h
 refine wc (z151_ct N decls_ _ d) [(0,.sl 0)] [] Q Q Q Q Q Q Q Q (.inl rfl) rfl (wx (zz7 decls_ [(0,.S 0),(2,.O false),(16,.O (decide (x1 > 24)))]) J 2 (wn ?_))
 obtain ⟨K,h⟩|⟨K,h⟩:=oc h
 ·refine wt K Q (wR J 1 Q ?_)
  cases h
  exact we J func113 [] Q Q Q Q
 refine wf K Q (wi (wR J 1 Q (wq (wR J 1 Q ?_))))
 refine wC (σ:=Unit) (fun st=>(zz7 decls_ [])) (fun st=>z113_k1=some r) ?_ (fun j1=>?_)
 ·intro _ h
  replace h:z113_k1=some r:=h
  unfold z113_k1 at h
  refine wR J 1 Q ?_
  cases h
  exact we J func113 [] Q Q Q Q
 refine wo ?_
 refine wI (σ:=Int × Int) (fun st=>(zz7 decls_ [(0,.S 0),(3,.I st.1),(4,.I st.2)])) (fun n st=>z113_l2 N decls_ n st.1 st.2) (r:=r) (fun _=>rfl) ?_ (fun ih=>?_)
 ·intro n82 ih75
  rintro ⟨e,f⟩ h
  replace h:z113_l2 N decls_ (n82+1) e f=some r:=h
  unfold z113_l2 at h
  refine wq (wV (zz7 decls_ [(0,.S 0),(3,.I e),(4,.I f),(20,.O (decide (f < (decls_.length:Int))))]) J 4 ?_)
  obtain ⟨K,h⟩|⟨K,h⟩:=oc' h
  ·exact wf K Q (wz rfl (wU (j1 () h)))
  refine wt K Q (wi (wq (wo (wq (wg (ws J 2 Q ?_))))))
  obtain ⟨g,i,h⟩:=ob h
  refine wj oO0 J i Q Q Q Q Q Q Q Q Q (wx (zz22 g decls_ [(0,.S 0),(3,.I e),(4,.I f),(5,.B 5 0)]) J 3 (wn (wq (wR J 1 Q ?_))))
  refine wC (σ:=Unit) (fun st=>(zz22 g decls_ [(0,.S 0),(3,.I e),(4,.I f),(5,.B 5 0)])) (fun st=>z113_k7 N decls_ e f (z113_l2 N decls_ n82) g=some r) ?_ (fun j124=>?_)
  ·intro _ h
   replace h:z113_k7 N decls_ e f (z113_l2 N decls_ n82) g=some r:=h
   unfold z113_k7 at h
   refine wq (wR J 1 Q ?_)
   refine wC (σ:=Unit) (fun st=>(zz22 g decls_ [(0,.S 0),(3,.I e),(4,.I f),(5,.B 5 0)])) (fun st=>z113_k3 N decls_ e f (z113_l2 N decls_ n82) g=some r) ?_ (fun j126=>?_)
   ·intro _ h
    replace h:z113_k3 N decls_ e f (z113_l2 N decls_ n82) g=some r:=h
    unfold z113_k3 at h
    refine wq (wq (wg (ws J 2 Q ?_)))
    obtain ⟨j,k,h⟩:=ob h
    refine wc (z153_ct N g.Name _ k) [] [] Q Q Q Q Q Q Q Q (.inl rfl) rfl (xw (rg 5 18) (zz22 g decls_ [(0,.S 0),(3,.I e),(4,.I f),(5,.B 5 0),(87,.O (!j))]) J 2 ?_)
    obtain ⟨K,h⟩|⟨K,h⟩:=oc h
    ·refine wy 87 K Q (wx (zz22 g decls_ [(0,.S 0),(3,.I e),(4,.I f),(5,.B 5 0),(105,.O true)]) J 18 (wn (wt Q Q (wR J 1 Q ?_))))
     cases h
     exact we J func113 [] Q Q Q Q
    refine wy 87 K Q (xw (rg 11 12) (zz22 g decls_ [(0,.S 0),(3,.I e),(4,.I f),(5,.B 5 0),(93,.O (decide ((g.Fields.length:Int) > 4)))]) J 6 ?_)
    obtain ⟨K,h⟩|⟨K,h⟩:=oc h
    ·refine wy 93 K Q (wx (zz22 g decls_ [(0,.S 0),(3,.I e),(4,.I f),(5,.B 5 0),(105,.O true)]) J 12 (wn (wt Q Q (wR J 1 Q ?_))))
     cases h
     exact we J func113 [] Q Q Q Q
    refine wy 93 K Q (xw (rg 17 6) (zz22 g decls_ [(0,.S 0),(3,.I e),(4,.I f),(5,.B 5 0),(99,.O (g.First != e))]) J 6 ?_)
    obtain ⟨K,h⟩|⟨K,h⟩:=oc h
    ·refine wy 99 K Q (wx (zz22 g decls_ [(0,.S 0),(3,.I e),(4,.I f),(5,.B 5 0),(105,.O true)]) J 6 (wn (wt Q Q (wR J 1 Q ?_))))
     cases h
     exact we J func113 [] Q Q Q Q
    refine wy 99 K Q (xw [20,21,22] (zz22 g decls_ [(0,.S 0),(3,.I e),(4,.I f),(5,.B 5 0),(99,.O false),(100,.S 0),(102,.a [.sl 3,.sl 4])]) J 3 ?_)
    obtain ⟨l,m,h⟩:=ob h
    refine wc (z154_ct N decls_ g.Guard _ m) [(0,.sl 0),(1,.sl 3),(2,.sl 4)] [] Q Q Q Q Q Q Q Q (.inl rfl) rfl (wx (zz22 g decls_ [(0,.S 0),(3,.I e),(4,.I f),(5,.B 5 0),(105,.O (!l))]) J 2 (wn ?_))
    obtain ⟨K,h⟩|⟨K,h⟩:=oc h
    ·refine wt K Q (wR J 1 Q ?_)
     cases h
     exact we J func113 [] Q Q Q Q
    exact wf K Q (wi (wT ⟨[(0,.S 0),(3,.I (w64 (e+(g.Fields.length:Int)))),(4,.I f)],[],[(0,.sl rR0 decls_)],6⟩ J 6 (wb (wT ⟨[(0,.S 0),(3,.I (w64 (e+(g.Fields.length:Int)))),(4,.I (w64 (f+1)))],[],[(0,.sl rR0 decls_)],6⟩ J 3 (wU (ih75 ((w64 (e+(g.Fields.length:Int))),(w64 (f+1))) h))))))
   refine wo ?_
   refine wI (σ:=Int) (fun st=>(zz22 g decls_ [(0,.S 0),(3,.I e),(4,.I f),(5,.B 5 0),(7,.I st)])) (fun n st=>z113_l4 N decls_ e f (z113_l2 N decls_ n82) g n st) (r:=r) (fun _=>rfl) ?_ (fun ih=>?_)
   ·intro n95 ih137
    intro o h
    replace h:z113_l4 N decls_ e f (z113_l2 N decls_ n82) g (n95+1) o=some r:=h
    unfold z113_l4 at h
    refine wq (wV (zz22 g decls_ [(0,.S 0),(3,.I e),(4,.I f),(5,.B 5 0),(7,.I o),(44,.O (decide (o < (g.Fields.length:Int))))]) J 5 ?_)
    obtain ⟨K,h⟩|⟨K,h⟩:=oc' h
    ·exact wf K Q (wz rfl (wU (j126 () h)))
    refine wt K Q (wi (wq (wo (wq (wq (wg (xw (rg 3 15) (zz22 g decls_ [(0,.S 0),(3,.I e),(4,.I f),(5,.B 5 0),(7,.I o),(48,.S 2),(49,.I o)]) J 3 ?_)))))))
    obtain ⟨p,q,h⟩:=ob h
    refine wj oO3 J q Q Q Q Q Q Q Q Q Q (xw (rg 6 12) (zz114 g decls_ [(0,.S 0),(3,.I e),(4,.I f),(5,.B 5 0),(7,.I o),(52,.a (cC7 p.Sort'))]) J 2 ?_)
    obtain ⟨t,u,h⟩:=ob h
    refine wc (z152_ct N p.Sort' _ u) [] [] Q Q Q Q Q Q Q Q (.inl rfl) rfl (xw (rg 9 9) (zz114 g decls_ [(0,.S 0),(3,.I e),(4,.I f),(5,.B 5 0),(7,.I o),(55,.O (!t))]) J 2 ?_)
    obtain ⟨K,h⟩|⟨K,h⟩:=oc h
    ·refine wy 55 K Q (wx (zz114 g decls_ [(0,.S 0),(3,.I e),(4,.I f),(5,.B 5 0),(7,.I o),(64,.O true)]) J 9 (wn (wt Q Q (wR J 1 Q ?_))))
     cases h
     exact we J func113 [] Q Q Q Q
    refine wy 55 K Q (xw (rg 12 6) (zz114 g decls_ [(0,.S 0),(3,.I e),(4,.I f),(5,.B 5 0),(7,.I o),(55,.O false),(57,.S 2),(58,.I o)]) J 3 ?_)
    obtain ⟨v,x,h⟩:=ob h
    refine wj oO3 J x Q Q Q Q Q Q Q Q Q (xw [15,16,17] (zz59 g decls_ [(0,.S 0),(3,.I e),(4,.I f),(5,.B 5 0),(7,.I o),(55,.O false),(61,.c (.s v.Name))]) J 2 ?_)
    obtain ⟨y,z,h⟩:=ob h
    refine wc (z112_ct N v.Name _ z) [] [] Q Q Q Q Q Q Q Q (.inl rfl) rfl (wx (zz59 g decls_ [(0,.S 0),(3,.I e),(4,.I f),(5,.B 5 0),(7,.I o),(64,.O (!y))]) J 2 (wn ?_))
    obtain ⟨K,h⟩|⟨K,h⟩:=oc h
    ·refine wt K Q (wR J 1 Q ?_)
     cases h
     exact we J func113 [] Q Q Q Q
    refine wf K Q (wi (wR J 1 Q ?_))
    refine wC (σ:=Unit) (fun st=>(zz59 g decls_ [(0,.S 0),(3,.I e),(4,.I f),(5,.B 5 0),(7,.I o)])) (fun st=>z113_k5 o (z113_l4 N decls_ e f (z113_l2 N decls_ n82) g n95)=some r) ?_ (fun j144=>?_)
    ·intro _ h
     replace h:z113_k5 o (z113_l4 N decls_ e f (z113_l2 N decls_ n82) g n95)=some r:=h
     unfold z113_k5 at h
     exact wb (wT (zz59 g decls_ [(0,.S 0),(3,.I e),(4,.I f),(5,.B 5 0),(7,.I (w64 (o+1)))]) J 3 (wU (ih137 (w64 (o+1)) h)))
    refine wo ?_
    refine wI (σ:=Int) (fun st=>(zz59 g decls_ [(0,.S 0),(3,.I e),(4,.I f),(5,.B 5 0),(7,.I o),(8,.I st)])) (fun n st=>z113_l6 g o (z113_l4 N decls_ e f (z113_l2 N decls_ n82) g n95) n st) (r:=r) (fun _=>rfl) ?_ (fun ih=>?_)
    ·intro n97 ih146
     intro A h
     replace h:z113_l6 g o (z113_l4 N decls_ e f (z113_l2 N decls_ n82) g n95) (n97+1) A=some r:=h
     unfold z113_l6 at h
     refine wq (wV (zz59 g decls_ [(0,.S 0),(3,.I e),(4,.I f),(5,.B 5 0),(7,.I o),(8,.I A),(67,.O (decide (A < o)))]) J 3 ?_)
     obtain ⟨K,h⟩|⟨K,h⟩:=oc' h
     ·exact wf K Q (wz rfl (wU (j144 () h)))
     refine wt K Q (wi (wq (wo (wq (wQ (by kernel_rfl) (by kernel_rfl) (xq (rg 3 10) (zz59 g decls_ [(0,.S 0),(3,.I e),(4,.I f),(5,.B 5 0),(7,.I o),(8,.I A),(71,.S 2),(72,.I A)]) J 3 ?_))))))
     obtain ⟨C,D,h⟩:=ob h
     refine WPq.op Q Q (VN.vs (VN.ix oO3 J D Q Q Q Q Q Q Q)) (xq [9,10,11,12] ⟨[(0,.S 0),(3,.I e),(4,.I f),(5,.B 5 0),(7,.I o),(8,.I A),(75,.c (.s C.Name)),(77,.S 2),(78,.I o)],[(5,.box (cC0 2 3 4 g) 94)],((0,.sl rR0 decls_)::vV0 2 3 4 g []),9⟩ J 5 ?_)
     obtain ⟨G,H,h⟩:=ob h
     refine WPq.op Q Q (VN.vs (VN.ix oO3 J H Q Q Q Q Q Q Q)) (qx (zz115 g decls_ [(0,.S 0),(3,.I e),(4,.I f),(5,.B 5 0),(7,.I o),(8,.I A),(82,.O (C.Name.toList==G.Name.toList))]) J 3 (qn ?_))
     obtain ⟨K,h⟩|⟨K,h⟩:=oc h
     ·refine wt K Q (wR J 1 Q ?_)
      cases h
      exact we J func113 [] Q Q Q Q
     exact wf K Q (wi (wb (wT (zz115 g decls_ [(0,.S 0),(3,.I e),(4,.I f),(5,.B 5 0),(7,.I o),(8,.I (w64 (A+1)))]) J 3 (wU (ih146 (w64 (A+1)) h)))))
    exact wU (ih N 0 h)
   exact wU (ih N 0 h)
  refine wo ?_
  refine wI (σ:=Int) (fun st=>(zz22 g decls_ [(0,.S 0),(3,.I e),(4,.I f),(5,.B 5 0),(6,.I st)])) (fun n st=>z113_l8 N decls_ e f (z113_l2 N decls_ n82) g n st) (r:=r) (fun _=>rfl) ?_ (fun ih=>?_)
  ·intro n98 ih147
   intro R h
   replace h:z113_l8 N decls_ e f (z113_l2 N decls_ n82) g (n98+1) R=some r:=h
   unfold z113_l8 at h
   refine wq (wV (zz22 g decls_ [(0,.S 0),(3,.I e),(4,.I f),(5,.B 5 0),(6,.I R),(29,.O (decide (R < f)))]) J 3 ?_)
   obtain ⟨K,h⟩|⟨K,h⟩:=oc' h
   ·exact wf K Q (wz rfl (wU (j124 () h)))
   refine wt K Q (wi (wq (wo (wq (wQ (by kernel_rfl) (by kernel_rfl) (WPq.sil J 2 rfl ?_))))))
   obtain ⟨T,U,h⟩:=ob h
   refine WPq.op Q Q (VN.vs (VN.ix oO0 J U Q Q Q Q Q Q Q)) (qx (zz115 g decls_ [(0,.S 0),(3,.I e),(4,.I f),(5,.B 5 0),(6,.I R),(39,.O (T.Name.toList==g.Name.toList))]) J 5 (qn ?_))
   obtain ⟨K,h⟩|⟨K,h⟩:=oc h
   ·refine wt K Q (wR J 1 Q ?_)
    cases h
    exact we J func113 [] Q Q Q Q
   exact wf K Q (wi (wb (wT (zz115 g decls_ [(0,.S 0),(3,.I e),(4,.I f),(5,.B 5 0),(6,.I (w64 (R+1)))]) J 3 (wU (ih147 (w64 (R+1)) h)))))
  exact wU (ih N 0 h)
 exact wU (ih N (0,0) h)
theorem z51_ct (N:Nat) (g_:T4) (r:Bool) (h:z51 N g_=some r) :
 Fn Tryz.prog 51 ⟨4,[.a (cC4 0 1 2 3 g_)],(vV4 0 1 2 3 g_ []),[],4,.O r,[],[]⟩:=by
 refine wF func51 Q Q (fun E F w=>?_)
 unfold z51 at h
 refine wR J 2 Q (wq (wV (zz2 g_ [(1,.B 4 0),(2,.O false),(3,.I 0)]) J 1 ?_))
 refine wC (σ:=Unit) (fun st=>(zz2 g_ [(1,.B 4 0)])) (fun st=>z51_k1 N g_=some r) ?_ (fun j1=>?_)
 ·intro _ h
  replace h:z51_k1 N g_=some r:=h
  unfold z51_k1 at h
  refine wq (wg (ws J 2 Q ?_))
  obtain ⟨c,d,h⟩:=ob h
  refine wc (z112_ct N g_.Name _ d) [] [] Q Q Q Q Q Q Q Q (.inl rfl) rfl (xw (rg 4 17) (zz2 g_ [(1,.B 4 0),(33,.O c)]) J 1 ?_)
  obtain ⟨K,h⟩|⟨K,h⟩:=oc' h
  ·refine wy 33 K Q (wx (zz6 g_ [(2,.O false)]) J 17 (wn ?_))
   cases h
   exact we J func51 [] Q Q Q Q
  refine wy 33 K Q (xw (rg 10 11) (zz2 g_ [(1,.B 4 0),(39,.O (decide ((g_.Roles.length:Int)≥1)))]) J 6 ?_)
  obtain ⟨K,h⟩|⟨K,h⟩:=oc' h
  ·refine wy 39 K Q (wx (zz6 g_ [(2,.O false)]) J 11 (wn ?_))
   cases h
   exact we J func51 [] Q Q Q Q
  refine wy 39 K Q (xw [16,17,18,19,20] (zz2 g_ [(1,.B 4 0),(45,.O (decide ((g_.Roles.length:Int)≤6)))]) J 6 ?_)
  obtain ⟨K,h⟩|⟨K,h⟩:=oc' h
  ·refine wy 45 K Q (wx (zz6 g_ [(2,.O false)]) J 5 (wn ?_))
   cases h
   exact we J func51 [] Q Q Q Q
  refine wy 45 K Q (ws J 2 Q ?_)
  obtain ⟨e,f,h⟩:=ob h
  refine wc (z113_ct N g_.Decls _ f) [(0,.sl 1)] [] Q Q Q Q Q Q Q Q (.inl rfl) rfl (wx (zz6 g_ [(2,.O e)]) J 2 (wn ?_))
  cases h
  exact we J func51 [] Q Q Q Q
 refine wo ?_
 refine wI (σ:=Int) (fun st=>(zz2 g_ [(1,.B 4 0),(3,.I st)])) (fun n st=>z51_l2 N g_ n st) (r:=r) (fun _=>rfl) ?_ (fun ih=>?_)
 ·intro n2 ih3
  intro g h
  replace h:z51_l2 N g_ (n2+1) g=some r:=h
  unfold z51_l2 at h
  refine wq (wV (zz2 g_ [(1,.B 4 0),(3,.I g),(8,.O (decide (g < (g_.Roles.length:Int))))]) J 5 ?_)
  obtain ⟨K,h⟩|⟨K,h⟩:=oc' h
  ·exact wf K Q (wz rfl (wU (j1 () h)))
  refine wt K Q (wi (wq (wo (wq (wQ (by kernel_rfl) (by kernel_rfl) (xq (rg 3 16) (zz2 g_ [(1,.B 4 0),(3,.I g),(12,.S 0),(13,.I g)]) J 3 ?_))))))
  obtain ⟨i,j,h⟩:=ob h
  refine WPq.op Q Q (VN.vs (VN.ix oS J j Q Q Q Q Q Q Q)) (WPq.sil J 1 rfl ?_)
  obtain ⟨k,l,h⟩:=ob h
  refine qc (z112_ct N i _ l) [] [] Q Q Q Q Q Q Q Q Q Q Q Q (xq (rg 8 11) (zz43 g_ [(1,.B 4 0),(3,.I g),(18,.O (!k))]) J 2 ?_)
  obtain ⟨K,h⟩|⟨K,h⟩:=oc h
  ·refine qy 18 K Q (qx (zz43 g_ [(1,.B 4 0),(3,.I g),(29,.O true)]) J 11 (qn (wt Q Q (wR J 1 Q ?_))))
   cases h
   exact we J func51 [] Q Q Q Q
  refine qy 18 K Q (xq (rg 13 6) (zz43 g_ [(1,.B 4 0),(3,.I g),(18,.O false),(20,.S 0),(22,.S 0),(23,.I g)]) J 5 ?_)
  obtain ⟨m,o,h⟩:=ob h
  refine WPq.op Q Q (VN.vs (VN.ix oS J o Q Q Q Q Q Q Q)) (WPq.sil J 1 rfl ?_)
  obtain ⟨p,q,h⟩:=ob h
  refine qc (z76_ct N g_.Roles m _ q) [(0,.sl 0)] [] Q Q Q Q Q Q Q Q Q Q Q Q (qx (zz14 g_ [(1,.B 4 0),(3,.I g),(29,.O (decide (p < g)))]) J 3 (qn ?_))
  obtain ⟨K,h⟩|⟨K,h⟩:=oc h
  ·refine wt K Q (wR J 1 Q ?_)
   cases h
   exact we J func51 [] Q Q Q Q
  exact wf K Q (wi (wb (wT (zz14 g_ [(1,.B 4 0),(3,.I (w64 (g+1)))]) J 3 (wU (ih3 (w64 (g+1)) h)))))
 exact wU (ih N 0 h)
theorem z114_ct (N:Nat) (g_:T4) (s_:Int) (r:Bool) (h:z114 N g_ s_=some r) :
 Fn Tryz.prog 114 ⟨4,[.a (cC4 0 1 2 3 g_),.I s_],(vV4 0 1 2 3 g_ []),[],4,.O r,[],[]⟩:=by
 refine wF func114 Q Q (fun E F w=>?_)
 unfold z114 at h
 refine wR J 2 Q (wq (wg (xw (rg 3 6) (zz2 g_ [(1,.I s_),(2,.B 4 0),(7,.O (decide (s_≥0)))]) J 3 ?_)))
 obtain ⟨K,h⟩|⟨K,h⟩:=oc h
 ·refine wy 7 K Q (wx (zz6 g_ [(4,.O (decide (s_ < g_.States)))]) J 6 (wn ?_))
  cases h
  exact we J func114 [] Q Q Q Q
 refine wy 7 K Q (wx (zz6 g_ [(4,.O false)]) J 6 (wn ?_))
 cases h
 exact we J func114 [] Q Q Q Q
theorem z52_ct (N:Nat) (g_:T4) (r:Bool) (h:z52 N g_=some r) :
 Fn Tryz.prog 52 ⟨4,[.a (cC4 0 1 2 3 g_)],(vV4 0 1 2 3 g_ []),[],4,.O r,[],[]⟩:=by
 refine wF func52 Q Q (fun E F w=>?_)
 unfold z52 at h
 refine wR J 2 Q (wq (wV (zz2 g_ [(1,.B 4 0),(2,.O false),(3,.I 0)]) J 1 ?_))
 refine wC (σ:=Unit) (fun st=>(zz2 g_ [(1,.B 4 0)])) (fun st=>z52_k1 N g_=some r) ?_ (fun j1=>?_)
 ·intro _ h
  replace h:z52_k1 N g_=some r:=h
  unfold z52_k1 at h
  refine wq (wg (xw (rg 4 23) (zz2 g_ [(1,.B 4 0),(86,.O (decide (g_.States≥1)))]) J 4 ?_))
  obtain ⟨K,h⟩|⟨K,h⟩:=oc' h
  ·refine wy 86 K Q (wx (zz6 g_ [(2,.O false)]) J 23 (wn ?_))
   cases h
   exact we J func52 [] Q Q Q Q
  refine wy 86 K Q (xw (rg 9 18) (zz2 g_ [(1,.B 4 0),(91,.O (decide (g_.States≤200)))]) J 5 ?_)
  obtain ⟨K,h⟩|⟨K,h⟩:=oc' h
  ·refine wy 91 K Q (wx (zz6 g_ [(2,.O false)]) J 18 (wn ?_))
   cases h
   exact we J func52 [] Q Q Q Q
  refine wy 91 K Q (xw (rg 12 15) (zz2 g_ [(1,.B 4 0),(91,.O true),(92,.a (cC4 0 1 2 3 g_)),(94,.I g_.Start)]) J 3 ?_)
  obtain ⟨c,d,h⟩:=ob h
  refine wc (z114_ct N g_ g_.Start _ d) [(0,.sl 0),(1,.sl 1),(2,.sl 2),(3,.sl 3)] [] Q Q Q Q Q Q Q Q (.inl rfl) rfl (xw (rg 15 12) (zz2 g_ [(1,.B 4 0),(97,.O c)]) J 2 ?_)
  obtain ⟨K,h⟩|⟨K,h⟩:=oc' h
  ·refine wy 97 K Q (wx (zz6 g_ [(2,.O false)]) J 12 (wn ?_))
   cases h
   exact we J func52 [] Q Q Q Q
  refine wy 97 K Q (xw (rg 18 9) (zz2 g_ [(1,.B 4 0),(97,.O true),(98,.a (cC4 0 1 2 3 g_)),(100,.I g_.End)]) J 3 ?_)
  obtain ⟨e,f,h⟩:=ob h
  refine wc (z114_ct N g_ g_.End _ f) [(0,.sl 0),(1,.sl 1),(2,.sl 2),(3,.sl 3)] [] Q Q Q Q Q Q Q Q (.inl rfl) rfl (xw (rg 21 6) (zz2 g_ [(1,.B 4 0),(103,.O e)]) J 2 ?_)
  obtain ⟨K,h⟩|⟨K,h⟩:=oc h
  ·refine wy 103 K Q (wx (zz6 g_ [(2,.O (decide ((g_.Edges.length:Int)≤400)))]) J 6 (wn ?_))
   cases h
   exact we J func52 [] Q Q Q Q
  refine wy 103 K Q (wx (zz6 g_ [(2,.O false)]) J 6 (wn ?_))
  cases h
  exact we J func52 [] Q Q Q Q
 refine wo ?_
 refine wI (σ:=Int) (fun st=>(zz2 g_ [(1,.B 4 0),(3,.I st)])) (fun n st=>z52_l2 N g_ n st) (r:=r) (fun _=>rfl) ?_ (fun ih=>?_)
 ·intro n2 ih3
  intro g h
  replace h:z52_l2 N g_ (n2+1) g=some r:=h
  unfold z52_l2 at h
  refine wq (wV (zz2 g_ [(1,.B 4 0),(3,.I g),(9,.O (decide (g < (g_.Edges.length:Int))))]) J 5 ?_)
  obtain ⟨K,h⟩|⟨K,h⟩:=oc' h
  ·exact wf K Q (wz rfl (wU (j1 () h)))
  refine wt K Q (wi (wq (wo (wq (wg (xw [3,4,5,6] (zz2 g_ [(1,.B 4 0),(3,.I g),(13,.S 2),(14,.I g)]) J 3 ?_))))))
  obtain ⟨i,j,h⟩:=ob h
  refine wj oO2 J j Q Q Q Q Q Q Q Q Q (wx (zz8 g_ i [(1,.B 4 0),(3,.I g),(4,.B 6 0)]) J 3 (wn (wq (wg (xw (rg 3 63) (zz8 g_ i [(1,.B 4 0),(3,.I g),(4,.B 6 0),(17,.a (cC4 0 1 2 3 g_)),(19,.I i.From)]) J 3 ?_)))))
  obtain ⟨k,l,h⟩:=ob h
  refine wc (z114_ct N g_ i.From _ l) [(0,.sl 0),(1,.sl 1),(2,.sl 2),(3,.sl 3)] [] Q Q Q Q Q Q Q Q (.inl rfl) rfl (xw (rg 6 60) (zz8 g_ i [(1,.B 4 0),(3,.I g),(4,.B 6 0),(22,.O (!k))]) J 2 ?_)
  obtain ⟨K,h⟩|⟨K,h⟩:=oc h
  ·refine wy 22 K Q (wx (zz14 g_ [(1,.B 4 0),(3,.I g),(82,.O true)]) J 60 (wn (wt Q Q (wR J 1 Q ?_))))
   cases h
   exact we J func52 [] Q Q Q Q
  refine wy 22 K Q (xw (rg 9 57) (zz8 g_ i [(1,.B 4 0),(3,.I g),(4,.B 6 0),(22,.O false),(23,.a (cC4 0 1 2 3 g_)),(25,.I i.To)]) J 3 ?_)
  obtain ⟨m,o,h⟩:=ob h
  refine wc (z114_ct N g_ i.To _ o) [(0,.sl 0),(1,.sl 1),(2,.sl 2),(3,.sl 3)] [] Q Q Q Q Q Q Q Q (.inl rfl) rfl (xw (rg 13 53) (zz8 g_ i [(1,.B 4 0),(3,.I g),(4,.B 6 0),(29,.O (!m))]) J 3 ?_)
  obtain ⟨K,h⟩|⟨K,h⟩:=oc h
  ·refine wy 29 K Q (wx (zz14 g_ [(1,.B 4 0),(3,.I g),(82,.O true)]) J 53 (wn (wt Q Q (wR J 1 Q ?_))))
   cases h
   exact we J func52 [] Q Q Q Q
  refine wy 29 K Q (xw (rg 19 47) (zz8 g_ i [(1,.B 4 0),(3,.I g),(4,.B 6 0),(35,.O (decide (i.Act.From < 0)))]) J 6 ?_)
  obtain ⟨K,h⟩|⟨K,h⟩:=oc h
  ·refine wy 35 K Q (wx (zz14 g_ [(1,.B 4 0),(3,.I g),(82,.O true)]) J 47 (wn (wt Q Q (wR J 1 Q ?_))))
   cases h
   exact we J func52 [] Q Q Q Q
  refine wy 35 K Q (xw (rg 28 38) (zz8 g_ i [(1,.B 4 0),(3,.I g),(4,.B 6 0),(44,.O (decide (i.Act.From≥(g_.Roles.length:Int))))]) J 9 ?_)
  obtain ⟨K,h⟩|⟨K,h⟩:=oc h
  ·refine wy 44 K Q (wx (zz14 g_ [(1,.B 4 0),(3,.I g),(82,.O true)]) J 38 (wn (wt Q Q (wR J 1 Q ?_))))
   cases h
   exact we J func52 [] Q Q Q Q
  refine wy 44 K Q (xw (rg 34 32) (zz8 g_ i [(1,.B 4 0),(3,.I g),(4,.B 6 0),(50,.O (decide (i.Act.To < 0)))]) J 6 ?_)
  obtain ⟨K,h⟩|⟨K,h⟩:=oc h
  ·refine wy 50 K Q (wx (zz14 g_ [(1,.B 4 0),(3,.I g),(82,.O true)]) J 32 (wn (wt Q Q (wR J 1 Q ?_))))
   cases h
   exact we J func52 [] Q Q Q Q
  refine wy 50 K Q (xw (rg 43 23) (zz8 g_ i [(1,.B 4 0),(3,.I g),(4,.B 6 0),(59,.O (decide (i.Act.To≥(g_.Roles.length:Int))))]) J 9 ?_)
  obtain ⟨K,h⟩|⟨K,h⟩:=oc h
  ·refine wy 59 K Q (wx (zz14 g_ [(1,.B 4 0),(3,.I g),(82,.O true)]) J 23 (wn (wt Q Q (wR J 1 Q ?_))))
   cases h
   exact we J func52 [] Q Q Q Q
  refine wy 59 K Q (xw (rg 52 14) (zz8 g_ i [(1,.B 4 0),(3,.I g),(4,.B 6 0),(68,.O (i.Act.From==i.Act.To))]) J 9 ?_)
  obtain ⟨K,h⟩|⟨K,h⟩:=oc h
  ·refine wy 68 K Q (wx (zz14 g_ [(1,.B 4 0),(3,.I g),(82,.O true)]) J 14 (wn (wt Q Q (wR J 1 Q ?_))))
   cases h
   exact we J func52 [] Q Q Q Q
  refine wy 68 K Q (xw (rg 58 8) (zz8 g_ i [(1,.B 4 0),(3,.I g),(4,.B 6 0),(74,.O (decide (i.Act.Label < 0)))]) J 6 ?_)
  obtain ⟨K,h⟩|⟨K,h⟩:=oc h
  ·refine wy 74 K Q (wx (zz14 g_ [(1,.B 4 0),(3,.I g),(82,.O true)]) J 8 (wn (wt Q Q (wR J 1 Q ?_))))
   cases h
   exact we J func52 [] Q Q Q Q
  refine wy 74 K Q (wx (zz14 g_ [(1,.B 4 0),(3,.I g),(82,.O (decide (i.Act.Label≥(g_.Decls.length:Int))))]) J 8 (wn ?_))
  obtain ⟨K,h⟩|⟨K,h⟩:=oc h
  ·refine wt K Q (wR J 1 Q ?_)
   cases h
   exact we J func52 [] Q Q Q Q
  exact wf K Q (wi (wb (wT (zz14 g_ [(1,.B 4 0),(3,.I (w64 (g+1)))]) J 3 (wU (ih3 (w64 (g+1)) h)))))
 exact wU (ih N 0 h)
theorem z53_ct (N:Nat) (g_:T4) (r:Bool) (h:z53 N g_=some r) :
 Fn Tryz.prog 53 ⟨4,[.a (cC4 0 1 2 3 g_)],(vV4 0 1 2 3 g_ []),[],4,.O r,[],[]⟩:=by
 refine wF func53 Q Q (fun E F w=>?_)
 unfold z53 at h
 refine wR J 2 Q (wq (wV (zz2 g_ [(1,.B 4 0),(2,.O false),(3,.I 0)]) J 1 ?_))
 refine wC (σ:=Unit) (fun st=>(zz6 g_ [])) (fun st=>z53_k1=some r) ?_ (fun j1=>?_)
 ·intro _ h
  replace h:z53_k1=some r:=h
  unfold z53_k1 at h
  refine wR J 1 Q ?_
  cases h
  exact we J func53 [] Q Q Q Q
 refine wo ?_
 refine wI (σ:=Int) (fun st=>(zz2 g_ [(1,.B 4 0),(3,.I st)])) (fun n st=>z53_l2 N g_ n st) (r:=r) (fun _=>rfl) ?_ (fun ih=>?_)
 ·intro n12 ih33
  intro c h
  replace h:z53_l2 N g_ (n12+1) c=some r:=h
  unfold z53_l2 at h
  refine wq (wV (zz2 g_ [(1,.B 4 0),(3,.I c),(11,.O (decide (c < (g_.Edges.length:Int))))]) J 5 ?_)
  obtain ⟨K,h⟩|⟨K,h⟩:=oc' h
  ·exact wf K Q (wz rfl (wU (j1 () h)))
  refine wt K Q (wi (wq (wo (wq (wg (xw [3,4,5,6] (zz2 g_ [(1,.B 4 0),(3,.I c),(15,.S 2),(16,.I c)]) J 3 ?_))))))
  obtain ⟨d,e,h⟩:=ob h
  refine wj oO2 J e Q Q Q Q Q Q Q Q Q (wx (zz8 g_ d [(1,.B 4 0),(3,.I c),(4,.B 6 0)]) J 3 (wn (wq (wq (wg (xw (rg 3 6) (zz8 g_ d [(1,.B 4 0),(3,.I c),(4,.B 6 0),(21,.O d.Again)]) J 3 ?_))))))
  refine WP.cutr (σ:=Bool) (fun st=>(zz8 g_ d [(1,.B 4 0),(3,.I c),(4,.B 6 0),(27,.O st)])) (fun st=>z53_k6 N g_ c (z53_l2 N g_ n12) d st=some r) ?_ (fun j54=>?_)
  ·intro f h
   replace h:z53_k6 N g_ c (z53_l2 N g_ n12) d f=some r:=h
   unfold z53_k6 at h
   obtain ⟨K,h⟩|⟨K,h⟩:=oc h
   ·refine wt K Q (wR J 1 Q ?_)
    cases h
    exact we J func53 [] Q Q Q Q
   refine wf K Q (wi (wR J 1 Q ?_))
   refine wC (σ:=Unit) (fun st=>(zz14 g_ [(1,.B 4 0),(3,.I c)])) (fun st=>z53_k3 c (z53_l2 N g_ n12)=some r) ?_ (fun j55=>?_)
   ·intro _ h
    replace h:z53_k3 c (z53_l2 N g_ n12)=some r:=h
    unfold z53_k3 at h
    exact wb (wT (zz14 g_ [(1,.B 4 0),(3,.I (w64 (c+1)))]) J 3 (wU (ih33 (w64 (c+1)) h)))
   refine wo ?_
   refine wI (σ:=Int) (fun st=>(zz8 g_ d [(1,.B 4 0),(3,.I c),(4,.B 6 0),(5,.I st)])) (fun n st=>z53_l4 g_ c (z53_l2 N g_ n12) d n st) (r:=r) (fun _=>rfl) ?_ (fun ih=>?_)
   ·intro n14 ih60
    intro g h
    replace h:z53_l4 g_ c (z53_l2 N g_ n12) d (n14+1) g=some r:=h
    unfold z53_l4 at h
    refine wq (wV (zz8 g_ d [(1,.B 4 0),(3,.I c),(4,.B 6 0),(5,.I g),(32,.O (decide (g < (g_.Edges.length:Int))))]) J 5 ?_)
    obtain ⟨K,h⟩|⟨K,h⟩:=oc' h
    ·exact wf K Q (wz rfl (wU (j55 () h)))
    refine wt K Q (wi (wq (wo (wq (wg (xw [3,4,5,6] (zz8 g_ d [(1,.B 4 0),(3,.I c),(4,.B 6 0),(5,.I g),(36,.S 2),(37,.I g)]) J 3 ?_))))))
    obtain ⟨i,j,h⟩:=ob h
    refine wj oO2 J j Q Q Q Q Q Q Q Q Q (wx (zz9 g_ d i [(1,.B 4 0),(3,.I c),(4,.B 6 0),(5,.I g),(6,.B 8 0)]) J 3 (wn (wq (wq (wg (xw (rg 4 26) (zz9 g_ d i [(1,.B 4 0),(3,.I c),(4,.B 6 0),(5,.I g),(6,.B 8 0),(43,.O (g != c))]) J 4 ?_))))))
    refine WP.cutr (σ:=Bool) (fun st=>(zz9 g_ d i [(1,.B 4 0),(3,.I c),(4,.B 6 0),(5,.I g),(6,.B 8 0),(69,.O st)])) (fun st=>z53_k5 d g (z53_l4 g_ c (z53_l2 N g_ n12) d n14) i st=some r) ?_ (fun j63=>?_)
    ·intro k h
     replace h:z53_k5 d g (z53_l4 g_ c (z53_l2 N g_ n12) d n14) i k=some r:=h
     unfold z53_k5 at h
     obtain ⟨K,h⟩|⟨K,h⟩:=oc h
     ·refine wt K Q (wR J 1 Q ?_)
      cases h
      exact we J func53 [] Q Q Q Q
     refine wf K Q (wi (wq (wg (xw (rg 3 24) (zz9 g_ d i [(1,.B 4 0),(3,.I c),(4,.B 6 0),(5,.I g),(6,.B 8 0),(72,.O d.Again)]) J 3 ?_))))
     obtain ⟨K,h⟩|⟨K,h⟩:=oc' h
     ·exact wy 72 K Q (wx (zz26 g_ d [(1,.B 4 0),(3,.I c),(4,.B 6 0),(5,.I g),(96,.O false)]) J 24 (wn (wf Q Q (wi (wb (wT (zz26 g_ d [(1,.B 4 0),(3,.I c),(4,.B 6 0),(5,.I (w64 (g+1)))]) J 3 (wU (ih60 (w64 (g+1)) h))))))))
     refine wy 72 K Q (xw (rg 10 17) (zz9 g_ d i [(1,.B 4 0),(3,.I c),(4,.B 6 0),(5,.I g),(6,.B 8 0),(79,.O (i.To==d.From))]) J 7 ?_)
     obtain ⟨K,h⟩|⟨K,h⟩:=oc' h
     ·exact wy 79 K Q (wx (zz26 g_ d [(1,.B 4 0),(3,.I c),(4,.B 6 0),(5,.I g),(96,.O false)]) J 17 (wn (wf Q Q (wi (wb (wT (zz26 g_ d [(1,.B 4 0),(3,.I c),(4,.B 6 0),(5,.I (w64 (g+1)))]) J 3 (wU (ih60 (w64 (g+1)) h))))))))
     refine wy 79 K Q (xw (rg 18 9) (zz9 g_ d i [(1,.B 4 0),(3,.I c),(4,.B 6 0),(5,.I g),(6,.B 8 0),(79,.O true),(87,.O (i.Act.From != d.Act.From))]) J 8 ?_)
     obtain ⟨K,h⟩|⟨K,h⟩:=oc h
     ·refine wy 87 K Q (wx (zz26 g_ d [(1,.B 4 0),(3,.I c),(4,.B 6 0),(5,.I g),(96,.O true)]) J 9 (wn (wt Q Q (wR J 1 Q ?_))))
      cases h
      exact we J func53 [] Q Q Q Q
     refine wy 87 K Q (wx (zz26 g_ d [(1,.B 4 0),(3,.I c),(4,.B 6 0),(5,.I g),(96,.O (i.Act.Label != d.Act.Label))]) J 9 (wn ?_))
     obtain ⟨K,h⟩|⟨K,h⟩:=oc h
     ·refine wt K Q (wR J 1 Q ?_)
      cases h
      exact we J func53 [] Q Q Q Q
     exact wf K Q (wi (wb (wT (zz26 g_ d [(1,.B 4 0),(3,.I c),(4,.B 6 0),(5,.I (w64 (g+1)))]) J 3 (wU (ih60 (w64 (g+1)) h)))))
    obtain ⟨K,h⟩|⟨K,h⟩:=oc' h
    ·exact wy 43 K Q (wx (zz9 g_ d i [(1,.B 4 0),(3,.I c),(4,.B 6 0),(5,.I g),(6,.B 8 0),(69,.O false)]) J 26 (wn (wU (j63 false h))))
    refine wy 43 K Q (xw (rg 11 19) (zz9 g_ d i [(1,.B 4 0),(3,.I c),(4,.B 6 0),(5,.I g),(6,.B 8 0),(50,.O (d.From==i.From))]) J 7 ?_)
    obtain ⟨K,h⟩|⟨K,h⟩:=oc' h
    ·exact wy 50 K Q (wx (zz9 g_ d i [(1,.B 4 0),(3,.I c),(4,.B 6 0),(5,.I g),(6,.B 8 0),(69,.O false)]) J 19 (wn (wU (j63 false h))))
    refine wy 50 K Q (xw (rg 15 15) (zz9 g_ d i [(1,.B 4 0),(3,.I c),(4,.B 6 0),(5,.I g),(6,.B 8 0),(50,.O true),(52,.a (cC6 d.Act)),(54,.a (cC6 i.Act))]) J 4 (WPr.eqa (neg:=false) (equal_run (b:=((d.Act.From==i.Act.From) && ((d.Act.To==i.Act.To) && ((d.Act.Label==i.Act.Label) && true)))) (by kernel_rfl) (by kernel_rfl)) (by kernel_rfl) Q Q Q Q Q Q Q (ws J 1 Q ?_)))
    obtain ⟨K,h⟩|⟨K,h⟩:=oc h
    ·exact wy 56 K Q (wx (zz9 g_ d i [(1,.B 4 0),(3,.I c),(4,.B 6 0),(5,.I g),(6,.B 8 0),(69,.O true)]) J 13 (wn (wU (j63 true h))))
    refine wy 56 K Q (xw [26,27,28,29] (zz9 g_ d i [(1,.B 4 0),(3,.I c),(4,.B 6 0),(5,.I g),(6,.B 8 0),(50,.O true),(65,.O (d.Act.From != i.Act.From))]) J 9 ?_)
    obtain ⟨K,h⟩|⟨K,h⟩:=oc h
    ·exact wy 65 K Q (wx (zz9 g_ d i [(1,.B 4 0),(3,.I c),(4,.B 6 0),(5,.I g),(6,.B 8 0),(69,.O true)]) J 4 (wn (wU (j63 true h))))
    exact wy 65 K Q (wx (zz9 g_ d i [(1,.B 4 0),(3,.I c),(4,.B 6 0),(5,.I g),(6,.B 8 0),(69,.O d.Again)]) J 4 (wn (wU (j63 d.Again h))))
   exact wU (ih N 0 h)
  obtain ⟨K,h⟩|⟨K,h⟩:=oc h
  ·exact wy 21 K Q (wx (zz8 g_ d [(1,.B 4 0),(3,.I c),(4,.B 6 0),(27,.O (d.From==g_.Start))]) J 6 (wn (wU (j54 (d.From==g_.Start) h))))
  exact wy 21 K Q (wx (zz8 g_ d [(1,.B 4 0),(3,.I c),(4,.B 6 0),(27,.O false)]) J 6 (wn (wU (j54 false h))))
 exact wU (ih N 0 h)
end Gx
end
