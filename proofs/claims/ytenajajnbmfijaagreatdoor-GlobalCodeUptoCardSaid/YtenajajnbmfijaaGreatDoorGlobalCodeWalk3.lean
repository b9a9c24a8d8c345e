/- Each function of the statement computes what its plain definition says, part 3. -/
import Derived.Test.YtenajajnbmfijaaGreatDoorGlobalCodeWalk2
set_option linter.all false
section
set_option maxRecDepth 10000
set_option maxHeartbeats 4000000
open Go Go.Kx Go.Proofs Tryz
namespace Gx
theorem z81_ct (N:Nat) (g_:T4) (r:(List Int)) (h:z81 N g_=some r) :
 Fn Tryz.prog 81 ⟨4,[.a (cC4 0 1 2 3 g_)],(vV4 0 1 2 3 g_ []),[],5,.S 4,[],[(4,.own (rI .i64) r true)]⟩:=by
 refine wF func81 Q Q (fun E F w=>?_)
 unfold z81 at h
 refine wR J 2 Q (wq (wg (xw [2,3] (zz2 g_ [(1,.B 4 0),(2,.c .nil),(9,.I g_.States)]) J 2 ?_)))
 obtain ⟨x1,d,h⟩:=ob h
 refine WPr.mk (oI .i64) J 0 d Q Q Q Q Q Q Q Q (by exact an Q Q) rfl (ws J 1 Q (wn (wq (wV (zz27 g_ x1 [(1,.B 4 0),(2,.c .nil),(3,.S 5),(4,.I 0)]) J 1 ?_))))
 refine wC (σ:=(List Int)) (fun st=>(zz27 g_ st [(1,.B 4 0),(3,.S 5)])) (fun st=>z81_k5 N g_ st=some r) ?_ (fun j1=>?_)
 ·intro e h
  replace h:z81_k5 N g_ e=some r:=h
  unfold z81_k5 at h
  refine wq (wg (xw [3,4] (zz27 g_ e [(1,.B 4 0),(3,.S 5),(20,.S 5),(22,.I g_.End)]) J 3 ?_))
  obtain ⟨x6,f,h⟩:=ob h
  refine wX J f Q Q Q Q Q Q Q Q Q (WPr.sto (oI .i64) J 0 f Q Q Q Q Q Q Q Q Q Q (by exact rfl) rfl (wn (wq (wV (zz24 g_ (setL' e g_.End 0) [(1,.B 4 0),(3,.S 5),(5,.I 0)]) J 1 ?_))))
  refine wC (σ:=(List Int)) (fun st=>⟨[(3,.S 5)],[(5,.own (rI .i64) st true)],(vV4 0 1 2 3 g_ []),7⟩) (fun st=>z81_k1 st=some r) ?_ (fun j3=>?_)
  ·intro g h
   replace h:z81_k1 g=some r:=h
   unfold z81_k1 at h
   refine wR J 2 Q ?_
   cases h
   exact we J func81 [(4,.sl 5)] Q Q Q Q
  refine wo ?_
  refine wI (σ:=(List Int) × Int) (fun st=>(zz24 g_ st.1 [(1,.B 4 0),(3,.S 5),(5,.I st.2)])) (fun n st=>z81_l2 N g_ n st.1 st.2) (r:=r) (fun _=>rfl) ?_ (fun ih=>?_)
  ·intro n13 ih14
   rintro ⟨i,j⟩ h
   replace h:z81_l2 N g_ (n13+1) i j=some r:=h
   unfold z81_l2 at h
   refine wq (wV (zz24 g_ i [(1,.B 4 0),(3,.S 5),(5,.I j),(27,.O (decide (j < g_.States)))]) J 4 ?_)
   obtain ⟨K,h⟩|⟨K,h⟩:=oc' h
   ·exact wf K Q (wz rfl (wU (j3 i h)))
   refine wt K Q (wi (wq (wo (wR J 1 Q ?_))))
   refine wC (σ:=(List Int)) (fun st=>(zz24 g_ st [(1,.B 4 0),(3,.S 5),(5,.I j)])) (fun st=>z81_k3 j (z81_l2 N g_ n13) st=some r) ?_ (fun j21=>?_)
   ·intro k h
    replace h:z81_k3 j (z81_l2 N g_ n13) k=some r:=h
    unfold z81_k3 at h
    exact wb (wT (zz24 g_ k [(1,.B 4 0),(3,.S 5),(5,.I (w64 (j+1)))]) J 3 (wU (ih14 (k,(w64 (j+1))) h)))
   refine wo ?_
   refine wI (σ:=(List Int) × Int) (fun st=>(zz24 g_ st.1 [(1,.B 4 0),(3,.S 5),(5,.I j),(6,.I st.2)])) (fun n st=>z81_l4 g_ j (z81_l2 N g_ n13) n st.1 st.2) (r:=r) (fun _=>rfl) ?_ (fun ih=>?_)
   ·intro n15 ih23
    rintro ⟨l,m⟩ h
    replace h:z81_l4 g_ j (z81_l2 N g_ n13) (n15+1) l m=some r:=h
    unfold z81_l4 at h
    refine wq (wV (zz24 g_ l [(1,.B 4 0),(3,.S 5),(5,.I j),(6,.I m),(34,.O (decide (m < (g_.Edges.length:Int))))]) J 5 ?_)
    obtain ⟨K,h⟩|⟨K,h⟩:=oc' h
    ·exact wf K Q (wz rfl (wU (j21 l h)))
    refine wt K Q (wi (wq (wo (wq (wg (xw [3,4,5,6] (zz24 g_ l [(1,.B 4 0),(3,.S 5),(5,.I j),(6,.I m),(38,.S 2),(39,.I m)]) J 3 ?_))))))
    obtain ⟨o,p,h⟩:=ob h
    refine wj oO2 J p Q Q Q Q Q Q Q Q Q (wx (zz184 g_ l o [(1,.B 4 0),(3,.S 5),(5,.I j),(6,.I m),(7,.B 8 0)]) J 3 (wn (wq (wg (xw (rg 3 12) (zz184 g_ l o [(1,.B 4 0),(3,.S 5),(5,.I j),(6,.I m),(7,.B 8 0),(42,.S 5),(44,.I o.To)]) J 3 ?_)))))
    obtain ⟨q,s,h⟩:=ob h
    refine wX J s Q Q Q Q Q Q Q Q Q (wd (oI .i64) J s Q Q Q Q Q Q Q Q Q Q (xw (rg 8 7) (zz140 g_ l o [(1,.B 4 0),(3,.S 5),(5,.I j),(6,.I m),(7,.B 8 0),(49,.O (q==j))]) J 3 ?_))
    obtain ⟨K,h⟩|⟨K,h⟩:=oc' h
    ·exact wy 49 K Q (wx (zz140 g_ l o [(1,.B 4 0),(3,.S 5),(5,.I j),(6,.I m),(7,.B 8 0),(56,.O false)]) J 7 (wn (wf Q Q (wi (wb (wT ⟨[(1,.B 4 0),(3,.S 5),(5,.I j),(6,.I (w64 (m+1)))],[(4,.box (cC4 0 1 2 3 g_) 27),(5,.own (rI .i64) l true)],(vV4 0 1 2 3 g_ []),10⟩ J 3 (wU (ih23 (l,(w64 (m+1))) h))))))))
    refine wy 49 K Q (xw [11,12,13,14] (zz140 g_ l o [(1,.B 4 0),(3,.S 5),(5,.I j),(6,.I m),(7,.B 8 0),(49,.O true),(50,.S 5),(52,.I o.From)]) J 3 ?_)
    obtain ⟨t,u,h⟩:=ob h
    refine wX J u Q Q Q Q Q Q Q Q Q (wd (oI .i64) J u Q Q Q Q Q Q Q Q Q Q (wx ⟨[(1,.B 4 0),(3,.S 5),(5,.I j),(6,.I m),(7,.B 8 0),(56,.O (decide (t < 0)))],[(4,.box (cC4 0 1 2 3 g_) 27),(5,.own (rI .i64) l true),(8,.box (cC2 o) 43)],(vV4 0 1 2 3 g_ []),11⟩ J 2 (wn ?_)))
    obtain ⟨K,h⟩|⟨K,h⟩:=oc' h
    ·exact wf K Q (wi (wb (wT (zz185 g_ l [(1,.B 4 0),(3,.S 5),(5,.I j),(6,.I (w64 (m+1)))]) J 3 (wU (ih23 (l,(w64 (m+1))) h)))))
    refine wt K Q (wg (xw [5,6] (zz185 g_ l [(1,.B 4 0),(3,.S 5),(5,.I j),(6,.I m),(57,.S 5),(59,.I o.From),(61,.I (w64 (j+1)))]) J 5 ?_))
    obtain ⟨v,x,h⟩:=ob h
    exact wX J x Q Q Q Q Q Q Q Q Q (WPr.sto (oI .i64) J (w64 (j+1)) x Q Q Q Q Q Q Q Q Q Q (by exact rfl) rfl (wn (wb (wT ⟨[(1,.B 4 0),(3,.S 5),(5,.I j),(6,.I (w64 (m+1)))],[(4,.box (cC4 0 1 2 3 g_) 27),(5,.own (rI .i64) (setL' l o.From (w64 (j+1))) true)],(vV4 0 1 2 3 g_ []),12⟩ J 3 (wU (ih23 ((setL' l o.From (w64 (j+1))),(w64 (m+1))) h))))))
   exact wU (ih N (i,0) h)
  exact wU (ih N ((setL' e g_.End 0),0) h)
 refine wo ?_
 refine wI (σ:=(List Int) × Int) (fun st=>(zz27 g_ st.1 [(1,.B 4 0),(3,.S 5),(4,.I st.2)])) (fun n st=>z81_l6 N g_ n st.1 st.2) (r:=r) (fun _=>rfl) ?_ (fun ih=>?_)
 ·intro n16 ih24
  rintro ⟨y,z⟩ h
  replace h:z81_l6 N g_ (n16+1) y z=some r:=h
  unfold z81_l6 at h
  refine wq (wV (zz27 g_ y [(1,.B 4 0),(3,.S 5),(4,.I z),(14,.O (decide (z < g_.States)))]) J 4 ?_)
  obtain ⟨K,h⟩|⟨K,h⟩:=oc' h
  ·exact wf K Q (wz rfl (wU (j1 y h)))
  refine wt K Q (wi (wq (wo (wg (ws J 2 Q ?_)))))
  obtain ⟨A,C,h⟩:=ob h
  exact wX J C Q Q Q Q Q Q Q Q Q (xw [3] ⟨[(1,.B 4 0),(3,.S 5),(4,.I z),(19,.P 6 0)],[(4,.box (cC4 0 1 2 3 g_) 27),(5,.own (rI .i64) y true)],(vV4 0 1 2 3 g_ [(6,.el 5 ((z).toNat * ((rI .i64)).sz))]),7⟩ J 0 (WPr.sto (oI .i64) J (-1) C Q Q Q Q Q Q Q Q Q Q (by exact rfl) rfl (wn (wb (wT (zz24 g_ (setL' y z (-1)) [(1,.B 4 0),(3,.S 5),(4,.I (w64 (z+1)))]) J 3 (wU (ih24 ((setL' y z (-1)),(w64 (z+1))) h)))))))
 exact wU (ih N (x1,0) h)
theorem z74_ct (N:Nat) (g_:T4) (i_:Int) (k_:Int) (r:Bool) (h:z74 N g_ i_ k_=some r) :
 Fn Tryz.prog 74 ⟨4,[.a (cC4 0 1 2 3 g_),.I i_,.I k_],(vV4 0 1 2 3 g_ []),[],4,.O r,[],[]⟩:=by
 refine wF func74 Q Q (fun E F w=>?_)
 unfold z74 at h
 refine wR J 2 Q (wq (wN (fun A1 c d=>?_)))
 have e:A1 0 (zz35 [(3,.B 4 0)] [(9,.B 4 6)]):=c _ _ (wL J)
 have f:A1 1 (zz137 g_ [(9,.B 4 6)] [(10,.S 2)]):=c _ _ (wL J)
 have g:A1 2 (zz35 [(1,.I i_)] [(11,.I i_)]):=c _ _ (wL J)
 obtain ⟨x4,i,h⟩:=ob h
 have j:A1 3 ⟨[(10,.S 2),(11,.I i_)],[(2,.sl rR2 g_.Edges)],[],[],5,[(12,.P 5 0)],[(5,.pl (cC2 x4))],[],6⟩:=c _ _ (wO Q Q Q (fun _ _ _ _ _ _ _ k=>wj oO2 J i Q Q Q Q Q Q Q Q Q (k)) rfl)
 have l:A1 4 (zz103 x4 [(12,.P 5 0)] [(13,.P 5 1)]):=c _ _ (wL J)
 have m:A1 5 (zz103 x4 [(13,.P 5 1)] [(14,.a (cC6 x4.Act))]):=c _ _ (wL J)
 have o:A1 6 (zz3 [(3,.B 4 0)] [(15,.B 4 6)]):=c _ _ (wL J)
 have p:A1 7 (zz66 g_ [(15,.B 4 6)] [(16,.S 2)]):=c _ _ (wL J)
 have q:A1 8 (zz3 [(2,.I k_)] [(17,.I k_)]):=c _ _ (wL J)
 obtain ⟨s,u,h⟩:=ob h
 have v:A1 9 ⟨[(16,.S 2),(17,.I k_)],[(2,.sl rR2 g_.Edges)],[],[],6,[(18,.P 6 0)],[(6,.pl (cC2 s))],[],7⟩:=c _ _ (wO Q Q Q (fun _ _ _ _ _ _ _ k=>wj oO2 J u Q Q Q Q Q Q Q Q Q (k)) rfl)
 have x:A1 10 (zz104 s [(18,.P 6 0)] [(19,.P 6 1)]):=c _ _ (wL J)
 have y:A1 11 (zz104 s [(19,.P 6 1)] [(20,.a (cC6 s.Act))]):=c _ _ (wL J)
 have z:A1 12 ⟨[],[],[],[],7,[(7,.B 7 0)],[],[(7,.box [.I 0,.I 0,.I 0] 37)],8⟩:=c _ _ (wL J)
 have A:A1 13 ⟨[],[],[],[],8,[(8,.B 8 0)],[],[(8,.box [.I 0,.I 0,.I 0] 37)],9⟩:=c _ _ (wL J)
 have C:A1 14 ⟨[(7,.B 7 0),(14,.a (cC6 x4.Act))],[],[(7,.box [.I 0,.I 0,.I 0] 37)],[],9,[],[],[(7,.box (cC6 x4.Act) 37)],9⟩:=c _ _ (wL J)
 have D:A1 15 ⟨[(8,.B 8 0),(20,.a (cC6 s.Act))],[],[(8,.box [.I 0,.I 0,.I 0] 37)],[],9,[],[],[(8,.box (cC6 s.Act) 37)],9⟩:=c _ _ (wL J)
 refine wD (t:=(zz141 x4.Act s.Act g_ [(1,.I i_),(2,.I k_),(6,.O false),(7,.B 7 0),(8,.B 8 0)])) [0,1,0,7,15,31,0,64,0,448,960,1984,0,0,12351,32767] (.cons (d _ _ e) (.cons (d _ _ f) (.cons (d _ _ g) (.cons (d _ _ j) (.cons (d _ _ l) (.cons (d _ _ m) (.cons (d _ _ o) (.cons (d _ _ p) (.cons (d _ _ q) (.cons (d _ _ v) (.cons (d _ _ x) (.cons (d _ _ y) (.cons (d _ _ z) (.cons (d _ _ A) (.cons (d _ _ C) (.cons (d _ _ D) .nil)))))))))))))))) (by kernel_rfl) (by kernel_rfl) (by kernel_rfl) (by kernel_rfl) (wq (wV (zz141 x4.Act s.Act g_ [(1,.I i_),(2,.I k_),(6,.O false),(7,.B 7 0),(8,.B 8 0),(25,.O (x4.Act.To != s.Act.To))]) J 5 ?_))
 obtain ⟨K,h⟩|⟨K,h⟩:=oc h
 ·refine wt K Q (wV ⟨[(6,.O (decide (x4.Act.To < s.Act.To)))],[],(vV4 0 1 2 3 g_ []),9⟩ J 6 ?_)
  cases h
  exact we J func74 [] Q Q Q Q
 refine wf K Q (wi (wq (wV (zz141 x4.Act s.Act g_ [(1,.I i_),(2,.I k_),(6,.O false),(7,.B 7 0),(8,.B 8 0),(35,.O (x4.Act.Label != s.Act.Label))]) J 5 ?_)))
 obtain ⟨K,h⟩|⟨K,h⟩:=oc h
 ·refine wt K Q (wV ⟨[(6,.O (decide (x4.Act.Label < s.Act.Label)))],[],(vV4 0 1 2 3 g_ []),9⟩ J 6 ?_)
  cases h
  exact we J func74 [] Q Q Q Q
 refine wf K Q (wi (wV ⟨[(6,.O (decide (i_ < k_)))],[],(vV4 0 1 2 3 g_ []),9⟩ J 4 ?_))
 cases h
 exact we J func74 [] Q Q Q Q
theorem z28_ct (N:Nat) (g_:T4) (s_:Int) (r:(List Int)) (h:z28 N g_ s_=some r) :
 Fn Tryz.prog 28 ⟨4,[.a (cC4 0 1 2 3 g_),.I s_],(vV4 0 1 2 3 g_ []),[],5,.S 4,[],[(4,.own (rI .i64) r true)]⟩:=by
 refine wF func28 Q Q (fun E F w=>?_)
 unfold z28 at h
 refine wR J 2 Q (wV (zz2 g_ [(1,.I s_),(2,.B 4 0),(4,.c .nil),(5,.c .nil)]) J 1 (wq (wR J 1 Q ?_)))
 refine wC (σ:=(List Int)) (fun st=>⟨[(5,.S 5)],[(5,.own (rI .i64) st true)],(vV4 0 1 2 3 g_ []),6⟩) (fun st=>z28_k1 st=some r) ?_ (fun j1=>?_)
 ·intro d h
  replace h:z28_k1 d=some r:=h
  unfold z28_k1 at h
  refine wR J 2 Q ?_
  cases h
  exact we J func28 [(4,.sl 5)] Q Q Q Q
 refine wo ?_
 refine wI (σ:=(List Int) × Int) (fun st=>(zz27 g_ st.1 [(1,.I s_),(2,.B 4 0),(5,.S 5),(6,.I st.2)])) (fun n st=>z28_l2 N g_ s_ n st.1 st.2) (r:=r) (fun _=>rfl) ?_ (fun ih=>?_)
 ·intro n12 ih12
  rintro ⟨e,f⟩ h
  replace h:z28_l2 N g_ s_ (n12+1) e f=some r:=h
  unfold z28_l2 at h
  refine wq (wV (zz27 g_ e [(1,.I s_),(2,.B 4 0),(5,.S 5),(6,.I f),(12,.O (decide (f < (g_.Edges.length:Int))))]) J 5 ?_)
  obtain ⟨K,h⟩|⟨K,h⟩:=oc' h
  ·exact wf K Q (wz rfl (wU (j1 e h)))
  refine wt K Q (wi (wq (wo (wq (wq (wg (xw [3,4,5,6,7] (zz27 g_ e [(1,.I s_),(2,.B 4 0),(5,.S 5),(6,.I f),(16,.S 2),(17,.I f)]) J 3 ?_)))))))
  obtain ⟨g,i,h⟩:=ob h
  refine wj oO2 J i Q Q Q Q Q Q Q Q Q (wx (zz24 g_ e [(1,.I s_),(2,.B 4 0),(5,.S 5),(6,.I f),(22,.O (g.From != s_))]) J 4 (wn ?_))
  obtain ⟨K,h⟩|⟨K,h⟩:=oc h
  ·exact wt K Q (wz rfl (wT (zz24 g_ e [(1,.I s_),(2,.B 4 0),(5,.S 5),(6,.I (w64 (f+1)))]) J 3 (wU (ih12 (e,(w64 (f+1))) h))))
  refine wf K Q (wi (wR J 1 Q (wq ?_)))
  refine wC (σ:=Int) (fun st=>(zz24 g_ e [(1,.I s_),(2,.B 4 0),(5,.S 5),(6,.I f),(7,.I st)])) (fun st=>z28_k3 e f (z28_l2 N g_ s_ n12) st=some r) ?_ (fun j19=>?_)
  ·intro j h
   replace h:z28_k3 e f (z28_l2 N g_ s_ n12) j=some r:=h
   unfold z28_k3 at h
   refine wN (fun m o p=>?_)
   have q:m 0 (zz4 [(5,.S 5)] [(38,.S 5)]):=o _ _ (wL J)
   have s:m 1 (zz4 [(7,.I j)] [(39,.I j)]):=o _ _ (wL J)
   obtain ⟨v,x,h⟩:=ob h
   have y:m 2 ⟨[(38,.S 5),(39,.I j)],[],[],[(5,.own (rI .i64) e true)],7,[(40,.S 7)],[(7,.vw 5 none (some j) ((rI .i64)).sz)],[],8⟩:=o _ _ (wO Q Q Q (fun _ _ _ _ _ _ _ k=>WPr.vw J (l:=none) (h:=some (.i64,j)) x Q Q Q Q Q Q Q Q Q Q (k)) rfl)
   have z:m 3 (zz12 [(6,.I f)] [(41,.I f)]):=o _ _ (wL J)
   have A:m 4 ⟨[(41,.I f)],[],[],[],8,[(42,.S 8)],[],[(8,.own (rI .i64) ([f]:List Int) true)],9⟩:=o _ _ (wO Q Q Q (fun _ _ _ _ _ _ _ k=>WPr.bs (cs:=[.I f]) (oI .i64) J ([f]:List Int) Q Q Q Q Q Q (by kernel_rfl) (by exact (an Q Q)) rfl (k)) rfl)
   have C:m 5 (zz28 [(5,.S 5)] [(43,.S 5)]):=o _ _ (wL J)
   have D:m 6 (zz28 [(7,.I j)] [(44,.I j)]):=o _ _ (wL J)
   obtain ⟨G,H,h⟩:=ob h
   have R:m 7 ⟨[(43,.S 5),(44,.I j)],[],[],[(5,.own (rI .i64) e true)],9,[(45,.S 9)],[(9,.vw 5 (some j) none ((rI .i64)).sz)],[],10⟩:=o _ _ (wO Q Q Q (fun _ _ _ _ _ _ _ k=>WPr.vw J (l:=some (.i64,j)) (h:=none) H Q Q Q Q Q Q Q Q Q Q (k)) rfl)
   obtain ⟨T,U,h⟩:=ob h
   have X:m 8 ⟨[(42,.S 8),(45,.S 9)],[(9,.vw 5 (some j) none ((rI .i64)).sz)],[(8,.own (rI .i64) ([f]:List Int) true)],[(5,.own (rI .i64) e true)],10,[(46,.S 10)],[],[(8,.gone),(10,.own (rI .i64) T true)],11⟩:=o _ _ (wO Q Q Q (fun _ _ _ _ _ _ _ k=>WPr.app J U (by exact (srcV H Q Q)) Q Q Q Q Q Q Q Q Q Q (k)) rfl)
   obtain ⟨Y,Z,h⟩:=ob h
   have a0:m 9 ⟨[(40,.S 7),(46,.S 10)],[(7,.vw 5 none (some j) ((rI .i64)).sz)],[(5,.own (rI .i64) e true)],[(10,.own (rI .i64) T true)],11,[(47,.S 11)],[],[(5,.gone),(7,.gone),(11,.own (rI .i64) Y true)],12⟩:=o _ _ (wO Q Q Q (fun _ _ _ _ _ _ _ k=>WPr.stl 7 x Q Q Q (WPr.app J Z (by exact (srcO rfl)) Q Q Q Q Q Q Q Q Q Q (k))) rfl)
   have b0:m 10 ⟨[(47,.S 11)],[],[],[],12,[(5,.S 11)],[],[],12⟩:=o _ _ (wL J)
   exact wD (t:=(zz186 g_ Y [(1,.I s_),(2,.B 4 0),(5,.S 11),(6,.I f)])) [0,0,3,0,8,0,0,96,248,511,1023] (.cons (p _ _ q) (.cons (p _ _ s) (.cons (p _ _ y) (.cons (p _ _ z) (.cons (p _ _ A) (.cons (p _ _ C) (.cons (p _ _ D) (.cons (p _ _ R) (.cons (p _ _ X) (.cons (p _ _ a0) (.cons (p _ _ b0) .nil))))))))))) (by kernel_rfl) (by kernel_rfl) (by kernel_rfl) (by kernel_rfl) (wb (wT (zz186 g_ Y [(1,.I s_),(2,.B 4 0),(5,.S 11),(6,.I (w64 (f+1)))]) J 3 (wu [(5,.sl 11)] (ih12 (Y,(w64 (f+1))) h) Q Q Q Q)))
  refine wo ?_
  refine wI (σ:=Int) (fun st=>(zz24 g_ e [(1,.I s_),(2,.B 4 0),(5,.S 5),(6,.I f),(7,.I st)])) (fun n st=>z28_l4 N g_ e f (z28_l2 N g_ s_ n12) n st) (r:=r) (fun _=>rfl) ?_ (fun ih=>?_)
  ·intro n14 ih21
   intro c0 h
   replace h:z28_l4 N g_ e f (z28_l2 N g_ s_ n12) (n14+1) c0=some r:=h
   unfold z28_l4 at h
   refine wq (wq (wN (fun d0 e0 f0=>?_)))
   have g0:d0 0 (zz4 [(7,.I c0)] [(23,.I c0)]):=e0 _ _ (wL J)
   have i0:d0 1 (zz4 [(5,.S 5)] [(24,.S 5)]):=e0 _ _ (wL J)
   have j0:d0 2 ⟨[(24,.S 5)],[],[],[(5,.own (rI .i64) e true)],7,[(25,.I (e.length:Int))],[],[],7⟩:=e0 _ _ (wL J)
   have k0:d0 3 (zz4 [(23,.I c0),(25,.I (e.length:Int))] [(26,.O (decide (c0 < (e.length:Int))))]):=e0 _ _ (wL J)
   have l0:d0 4 (zz4 [(26,.O (decide (c0 < (e.length:Int))))] [(27,.O (decide (c0 < (e.length:Int))))]):=e0 _ _ (wL J)
   obtain ⟨K,h⟩|⟨K,h⟩:=oc' h
   ·have m0:=e0 _ _ (LS.kb K Q (f0 _ _ l0))
    have o0:d0 5 (zz4 [(27,.O false)] [(28,.u)]):=e0 _ _ (LS.skip Q Q Q (.inr ⟨_,rfl,rfl⟩) Q Q)
    have p0:d0 6 (zz4 [(27,.O false)] [(29,.u)]):=e0 _ _ (LS.skip Q Q Q (.inr ⟨_,rfl,rfl⟩) Q Q)
    have q0:d0 7 (zz4 [(27,.O false)] [(30,.u)]):=e0 _ _ (LS.skip Q Q Q (.inr ⟨_,rfl,rfl⟩) Q Q)
    have s0:d0 8 (zz4 [(27,.O false)] [(31,.u)]):=e0 _ _ (LS.skip Q Q Q (.inr ⟨_,rfl,rfl⟩) Q Q)
    have t0:d0 9 (zz4 [(27,.O false)] [(32,.u)]):=e0 _ _ (LS.skip Q Q Q (.inr ⟨_,rfl,rfl⟩) Q Q)
    have u0:d0 10 (zz4 [(27,.O false)] [(33,.u)]):=e0 _ _ (LS.skip Q Q Q (.inr ⟨_,rfl,rfl⟩) Q Q)
    have v0:d0 11 (zz4 [(27,.O false)] [(34,.u)]):=e0 _ _ (LS.skip Q Q Q (.inr ⟨_,rfl,rfl⟩) Q Q)
    have x0:d0 12 (zz4 [(27,.O false),(34,.u)] [(35,.O false)]):=e0 _ _ (wL J)
    exact wD (t:=(zz24 g_ e [(1,.I s_),(2,.B 4 0),(5,.S 5),(6,.I f),(7,.I c0),(35,.O false)])) [0,0,2,7,15,31,31,31,223,479,31,2047,4095] (.cons (f0 _ _ g0) (.cons (f0 _ _ i0) (.cons (f0 _ _ j0) (.cons (f0 _ _ k0) (.cons (f0 _ _ m0) (.cons (f0 _ _ o0) (.cons (f0 _ _ p0) (.cons (f0 _ _ q0) (.cons (f0 _ _ s0) (.cons (f0 _ _ t0) (.cons (f0 _ _ u0) (.cons (f0 _ _ v0) (.cons (f0 _ _ x0) .nil))))))))))))) (by kernel_rfl) (by kernel_rfl) (by kernel_rfl) (by kernel_rfl) (wf Q Q (wz rfl (wU (j19 c0 h))))
   have y0:=e0 _ _ (LS.kb K Q (f0 _ _ l0))
   have z0:d0 5 (zz116 g_ [(2,.B 4 0),(27,.O true)] [(28,.a (cC4 0 1 2 3 g_))]):=e0 _ _ (wL J)
   have A0:d0 6 (zz4 [(5,.S 5),(27,.O true)] [(29,.S 5)]):=e0 _ _ (wL J)
   have B0:d0 7 (zz4 [(7,.I c0),(27,.O true)] [(30,.I c0)]):=e0 _ _ (wL J)
   obtain ⟨C0,D0,h⟩:=ob h
   have G0:d0 8 ⟨[(27,.O true),(29,.S 5),(30,.I c0)],[],[],[(5,.own (rI .i64) e true)],7,[(31,.P 7 0)],[(7,.el 5 ((c0).toNat * ((rI .i64)).sz))],[],8⟩:=e0 _ _ (wO Q Q Q (fun _ _ _ _ _ _ _ k=>wX J D0 Q Q Q Q Q Q Q Q Q (k)) rfl)
   have H0:d0 9 ⟨[(27,.O true),(31,.P 7 0)],[(7,.el 5 ((c0).toNat * ((rI .i64)).sz))],[],[(5,.own (rI .i64) e true)],8,[(32,.I C0)],[],[],8⟩:=e0 _ _ (wO Q Q Q (fun _ _ _ _ _ _ _ k=>wd (oI .i64) J D0 Q Q Q Q Q Q Q Q Q Q (k)) rfl)
   have I0:d0 10 (zz12 [(6,.I f),(27,.O true)] [(33,.I f)]):=e0 _ _ (wL J)
   obtain ⟨L0,M0,h⟩:=ob h
   have O0:d0 11 ⟨[(27,.O true),(28,.a (cC4 0 1 2 3 g_)),(32,.I C0),(33,.I f)],(vV4 0 1 2 3 g_ []),[],[],8,[(34,.O L0)],[],[],8⟩:=e0 _ _ (wO Q Q Q (fun _ _ _ _ _ _ _ k=>wc (z74_ct N g_ C0 f _ M0) [(0,.sl 0),(1,.sl 1),(2,.sl 2),(3,.sl 3)] [] Q Q Q Q Q Q Q Q (.inl rfl) rfl (k)) rfl)
   have R0:d0 12 (zz12 [(27,.O true),(34,.O L0)] [(35,.O L0)]):=e0 _ _ (wL J)
   refine wD (t:=(zz130 g_ e [(1,.I s_),(2,.B 4 0),(5,.S 5),(6,.I f),(7,.I c0),(35,.O L0)])) [0,0,2,7,15,31,31,31,223,479,31,2047,4095] (.cons (f0 _ _ g0) (.cons (f0 _ _ i0) (.cons (f0 _ _ j0) (.cons (f0 _ _ k0) (.cons (f0 _ _ y0) (.cons (f0 _ _ z0) (.cons (f0 _ _ A0) (.cons (f0 _ _ B0) (.cons (f0 _ _ G0) (.cons (f0 _ _ H0) (.cons (f0 _ _ I0) (.cons (f0 _ _ O0) (.cons (f0 _ _ R0) .nil))))))))))))) (by kernel_rfl) (by kernel_rfl) (by kernel_rfl) (by kernel_rfl) ?_
   obtain ⟨K,h⟩|⟨K,h⟩:=oc h
   ·exact wt K Q (wi (wo (wT (zz130 g_ e [(1,.I s_),(2,.B 4 0),(5,.S 5),(6,.I f),(7,.I (w64 (c0+1)))]) J 3 (wb (wU (ih21 (w64 (c0+1)) h))))))
   exact wf K Q (wz rfl (wU (j19 c0 h)))
  exact wU (ih N 0 h)
 exact wu [(5,.nil)] (ih N (([]:List Int),0) h) Q Q Q Q
theorem z54_ct (N:Nat) (g_:T4) (r:Bool) (h:z54 N g_=some r) :
 Fn Tryz.prog 54 ⟨4,[.a (cC4 0 1 2 3 g_)],(vV4 0 1 2 3 g_ []),[],4,.O r,[],[]⟩:=by
 refine wF func54 Q Q (fun E F w=>?_)
 unfold z54 at h
 refine wR J 2 Q (wq (wg (xw [2,3] (zz2 g_ [(1,.B 4 0),(2,.O false),(9,.I g_.States)]) J 2 ?_)))
 obtain ⟨x1,c,h⟩:=ob h
 refine WPr.mk oB J false c Q Q Q Q Q Q Q Q (by exact an Q Q) rfl (ws J 1 Q (wn (wq (wg (xw [3,4] ⟨[(1,.B 4 0),(2,.O false),(3,.S 5),(11,.S 5),(13,.I g_.Start)],[(4,.box (cC4 0 1 2 3 g_) 27),(5,.own rB x1 true)],(vV4 0 1 2 3 g_ []),6⟩ J 3 ?_)))))
 obtain ⟨x2,d,h⟩:=ob h
 refine wX J d Q Q Q Q Q Q Q Q Q (WPr.sto oB J true d Q Q Q Q Q Q Q Q Q Q (by exact rfl) rfl (wn (wq (wV (zz47 g_ (setL' x1 g_.Start true) [(1,.B 4 0),(2,.O false),(3,.S 5),(4,.I 0)]) J 1 ?_))))
 refine wC (σ:=(List Bool)) (fun st=>(zz47 g_ st [(1,.B 4 0),(3,.S 5)])) (fun st=>z54_k3 N g_ st=some r) ?_ (fun j1=>?_)
 ·intro e h
  replace h:z54_k3 N g_ e=some r:=h
  unfold z54_k3 at h
  refine wq (wg (ws J 1 Q ?_))
  obtain ⟨f,g,h⟩:=ob h
  refine wc (z81_ct N g_ _ g) [(0,.sl 0),(1,.sl 1),(2,.sl 2),(3,.sl 3)] [] Q Q Q Q Q Q Q Q (.inl rfl) rfl (wx (zz142 g_ e f [(1,.B 4 0),(3,.S 5),(6,.S 7)]) J 1 (wn (wq (wR J 1 Q ?_))))
  refine wC (σ:=Unit) (fun st=>(zz18 g_ [(1,.B 4 0)])) (fun st=>z54_k1 N g_=some r) ?_ (fun j12=>?_)
  ·intro _ h
   replace h:z54_k1 N g_=some r:=h
   unfold z54_k1 at h
   refine wq (wg (xw [3,4,5,6] ⟨[(76,.a (cC4 0 1 2 3 g_)),(78,.I g_.End)],[],(vV4 0 1 2 3 g_ []),8⟩ J 3 ?_))
   obtain ⟨i,j,h⟩:=ob h
   refine wc (z28_ct N g_ g_.End _ j) [(0,.sl 0),(1,.sl 1),(2,.sl 2),(3,.sl 3)] [] Q Q Q Q Q Q Q Q (.inl rfl) rfl (wx ⟨[(2,.O ((i.length:Int)==0))],[],(vV4 0 1 2 3 g_ []),9⟩ J 3 (wn ?_))
   cases h
   exact we J func54 [] Q Q Q Q
  refine wo ?_
  refine wI (σ:=Int) (fun st=>(zz142 g_ e f [(1,.B 4 0),(3,.S 5),(6,.S 7),(7,.I st)])) (fun n st=>z54_l2 N g_ e f n st) (r:=r) (fun _=>rfl) ?_ (fun ih=>?_)
  ·intro n9 ih14
   intro l h
   replace h:z54_l2 N g_ e f (n9+1) l=some r:=h
   unfold z54_l2 at h
   refine wq (wV (zz142 g_ e f [(1,.B 4 0),(3,.S 5),(6,.S 7),(7,.I l),(61,.O (decide (l < g_.States)))]) J 4 ?_)
   obtain ⟨K,h⟩|⟨K,h⟩:=oc' h
   ·exact wf K Q (wz rfl (wU (j12 () h)))
   refine wt K Q (wi (wq (wo (wq (wg (ws J 2 Q ?_))))))
   obtain ⟨m,o,h⟩:=ob h
   refine wX J o Q Q Q Q Q Q Q Q Q (xw (rg 3 9) ⟨[(1,.B 4 0),(3,.S 5),(6,.S 7),(7,.I l),(66,.P 8 0)],[(4,.box (cC4 0 1 2 3 g_) 27),(5,.own rB e true),(7,.own (rI .i64) f true)],(vV4 0 1 2 3 g_ [(8,.el 5 ((l).toNat * (rB).sz))]),9⟩ J 0 (wd oB J o Q Q Q Q Q Q Q Q Q Q (xw (rg 6 6) (zz187 g_ e f [(1,.B 4 0),(3,.S 5),(6,.S 7),(7,.I l),(69,.O (!m))]) J 2 ?_)))
   obtain ⟨K,h⟩|⟨K,h⟩:=oc h
   ·refine wy 69 K Q (wx (zz187 g_ e f [(1,.B 4 0),(3,.S 5),(6,.S 7),(7,.I l),(75,.O true)]) J 6 (wn (wt Q Q (wR J 1 Q ?_))))
    cases h
    exact we J func54 [] Q Q Q Q
   refine wy 69 K Q (ws J 2 Q ?_)
   obtain ⟨p,q,h⟩:=ob h
   refine wX J q Q Q Q Q Q Q Q Q Q (xw [9,10,11] ⟨[(1,.B 4 0),(3,.S 5),(6,.S 7),(7,.I l),(69,.O false),(72,.P 9 0)],[(4,.box (cC4 0 1 2 3 g_) 27),(5,.own rB e true),(7,.own (rI .i64) f true)],(vV4 0 1 2 3 g_ [(9,.el 7 ((l).toNat * ((rI .i64)).sz))]),10⟩ J 0 (wd (oI .i64) J q Q Q Q Q Q Q Q Q Q Q (wx (zz188 g_ e f [(1,.B 4 0),(3,.S 5),(6,.S 7),(7,.I l),(75,.O (decide (p < 0)))]) J 2 (wn ?_))))
   obtain ⟨K,h⟩|⟨K,h⟩:=oc h
   ·refine wt K Q (wR J 1 Q ?_)
    cases h
    exact we J func54 [] Q Q Q Q
   exact wf K Q (wi (wb (wT (zz188 g_ e f [(1,.B 4 0),(3,.S 5),(6,.S 7),(7,.I (w64 (l+1)))]) J 3 (wU (ih14 (w64 (l+1)) h)))))
  exact wU (ih N 0 h)
 refine wo ?_
 refine wI (σ:=(List Bool) × Int) (fun st=>(zz47 g_ st.1 [(1,.B 4 0),(3,.S 5),(4,.I st.2)])) (fun n st=>z54_l4 N g_ n st.1 st.2) (r:=r) (fun _=>rfl) ?_ (fun ih=>?_)
 ·intro n14 ih15
  rintro ⟨s,v⟩ h
  replace h:z54_l4 N g_ (n14+1) s v=some r:=h
  unfold z54_l4 at h
  refine wq (wV (zz47 g_ s [(1,.B 4 0),(3,.S 5),(4,.I v),(18,.O (decide (v < g_.States)))]) J 4 ?_)
  obtain ⟨K,h⟩|⟨K,h⟩:=oc' h
  ·exact wf K Q (wz rfl (wU (j1 s h)))
  refine wt K Q (wi (wq (wo (wR J 1 Q ?_))))
  refine wC (σ:=(List Bool)) (fun st=>(zz47 g_ st [(1,.B 4 0),(3,.S 5),(4,.I v)])) (fun st=>z54_k5 v (z54_l4 N g_ n14) st=some r) ?_ (fun j22=>?_)
  ·intro x h
   replace h:z54_k5 v (z54_l4 N g_ n14) x=some r:=h
   unfold z54_k5 at h
   exact wb (wT (zz47 g_ x [(1,.B 4 0),(3,.S 5),(4,.I (w64 (v+1)))]) J 3 (wU (ih15 (x,(w64 (v+1))) h)))
  refine wo ?_
  refine wI (σ:=(List Bool) × Int) (fun st=>(zz47 g_ st.1 [(1,.B 4 0),(3,.S 5),(4,.I v),(5,.I st.2)])) (fun n st=>z54_l6 g_ v (z54_l4 N g_ n14) n st.1 st.2) (r:=r) (fun _=>rfl) ?_ (fun ih=>?_)
  ·intro n16 ih24
   rintro ⟨y,z⟩ h
   replace h:z54_l6 g_ v (z54_l4 N g_ n14) (n16+1) y z=some r:=h
   unfold z54_l6 at h
   refine wq (wV (zz47 g_ y [(1,.B 4 0),(3,.S 5),(4,.I v),(5,.I z),(25,.O (decide (z < (g_.Edges.length:Int))))]) J 5 ?_)
   obtain ⟨K,h⟩|⟨K,h⟩:=oc' h
   ·exact wf K Q (wz rfl (wU (j22 y h)))
   refine wt K Q (wi (wq (wo (wN (fun A C D=>?_)))))
   have G:A 0 (zz4 [(3,.S 5)] [(28,.S 5)]):=C _ _ (wL J)
   have H:A 1 (zz4 [(1,.B 4 0)] [(29,.B 4 6)]):=C _ _ (wL J)
   have R:A 2 (zz116 g_ [(29,.B 4 6)] [(30,.S 2)]):=C _ _ (wL J)
   have T:A 3 (zz4 [(5,.I z)] [(31,.I z)]):=C _ _ (wL J)
   obtain ⟨U,X,h⟩:=ob h
   have Y:A 4 ⟨[(30,.S 2),(31,.I z)],[(2,.sl rR2 g_.Edges)],[],[],7,[(32,.P 7 0)],[(7,.pl (cC2 U))],[],8⟩:=C _ _ (wO Q Q Q (fun _ _ _ _ _ _ _ k=>wj oO2 J X Q Q Q Q Q Q Q Q Q (k)) rfl)
   have Z:A 5 ⟨[(32,.P 7 0)],[(7,.pl (cC2 U))],[],[],8,[(33,.P 7 4)],[],[],8⟩:=C _ _ (wL J)
   have a0:A 6 ⟨[(33,.P 7 4)],[(7,.pl (cC2 U))],[],[],8,[(34,.I U.To)],[],[],8⟩:=C _ _ (wL J)
   have b0:A 7 (zz12 [(3,.S 5)] [(35,.S 5)]):=C _ _ (wL J)
   have c0:A 8 (zz12 [(1,.B 4 0)] [(36,.B 4 6)]):=C _ _ (wL J)
   have d0:A 9 ⟨[(36,.B 4 6)],(vV4 0 1 2 3 g_ []),[],[(4,.box (cC4 0 1 2 3 g_) 27)],8,[(37,.S 2)],[],[],8⟩:=C _ _ (wL J)
   have e0:A 10 (zz12 [(5,.I z)] [(38,.I z)]):=C _ _ (wL J)
   obtain ⟨f0,g0,h⟩:=ob h
   have i0:A 11 ⟨[(37,.S 2),(38,.I z)],[(2,.sl rR2 g_.Edges)],[],[],8,[(39,.P 8 0)],[(8,.pl (cC2 f0))],[],9⟩:=C _ _ (wO Q Q Q (fun _ _ _ _ _ _ _ k=>wj oO2 J g0 Q Q Q Q Q Q Q Q Q (k)) rfl)
   have j0:A 12 ⟨[(39,.P 8 0)],[(8,.pl (cC2 f0))],[],[],9,[(40,.P 8 4)],[],[],9⟩:=C _ _ (wL J)
   have k0:A 13 ⟨[(40,.P 8 4)],[(8,.pl (cC2 f0))],[],[],9,[(41,.I f0.To)],[],[],9⟩:=C _ _ (wL J)
   obtain ⟨l0,m0,h⟩:=ob h
   have o0:A 14 ⟨[(35,.S 5),(41,.I f0.To)],[],[],[(5,.own rB y true)],9,[(42,.P 9 0)],[(9,.el 5 ((f0.To).toNat * (rB).sz))],[],10⟩:=C _ _ (wO Q Q Q (fun _ _ _ _ _ _ _ k=>wX J m0 Q Q Q Q Q Q Q Q Q (k)) rfl)
   have p0:A 15 ⟨[(42,.P 9 0)],[(9,.el 5 ((f0.To).toNat * (rB).sz))],[],[(5,.own rB y true)],10,[(43,.O l0)],[],[],10⟩:=C _ _ (wO Q Q Q (fun _ _ _ _ _ _ _ k=>wd oB J m0 Q Q Q Q Q Q Q Q Q Q (k)) rfl)
   have q0:A 16 (zz20 [(43,.O l0)] [(44,.O l0)]):=C _ _ (wL J)
   obtain ⟨K,h⟩|⟨K,h⟩:=oc h
   ·have s0:=C _ _ (LS.kb K Q (D _ _ q0))
    have t0:A 17 (zz20 [(44,.O true)] [(45,.u)]):=C _ _ (LS.skip Q Q Q (.inr ⟨_,rfl,rfl⟩) Q Q)
    have u0:A 18 (zz20 [(44,.O true)] [(46,.u)]):=C _ _ (LS.skip Q Q Q (.inr ⟨_,rfl,rfl⟩) Q Q)
    have v0:A 19 (zz20 [(44,.O true)] [(47,.u)]):=C _ _ (LS.skip Q Q Q (.inr ⟨_,rfl,rfl⟩) Q Q)
    have x0:A 20 (zz20 [(44,.O true)] [(48,.u)]):=C _ _ (LS.skip Q Q Q (.inr ⟨_,rfl,rfl⟩) Q Q)
    have y0:A 21 (zz20 [(44,.O true)] [(49,.u)]):=C _ _ (LS.skip Q Q Q (.inr ⟨_,rfl,rfl⟩) Q Q)
    have z0:A 22 (zz20 [(44,.O true)] [(50,.u)]):=C _ _ (LS.skip Q Q Q (.inr ⟨_,rfl,rfl⟩) Q Q)
    have A0:A 23 (zz20 [(44,.O true)] [(51,.u)]):=C _ _ (LS.skip Q Q Q (.inr ⟨_,rfl,rfl⟩) Q Q)
    have B0:A 24 (zz20 [(44,.O true)] [(52,.u)]):=C _ _ (LS.skip Q Q Q (.inr ⟨_,rfl,rfl⟩) Q Q)
    have C0:A 25 (zz20 [(44,.O true)] [(53,.u)]):=C _ _ (LS.skip Q Q Q (.inr ⟨_,rfl,rfl⟩) Q Q)
    have D0:A 26 (zz20 [(44,.O true),(53,.u)] [(54,.O true)]):=C _ _ (wL J)
    obtain ⟨G0,H0,h⟩:=ob h
    have I0:A 27 ⟨[(28,.S 5),(34,.I U.To)],[],[],[(5,.own rB y true)],10,[(55,.P 10 0)],[(10,.el 5 ((U.To).toNat * (rB).sz))],[],11⟩:=C _ _ (wO Q Q Q (fun _ _ _ _ _ _ _ k=>wX J H0 Q Q Q Q Q Q Q Q Q (k)) rfl)
    have L0:A 28 ⟨[(54,.O true),(55,.P 10 0)],[(10,.el 5 ((U.To).toNat * (rB).sz))],[(5,.own rB y true)],[],11,[],[],[(5,.own rB (setL' y U.To true) true)],11⟩:=C _ _ (wO Q Q Q (fun _ _ _ _ _ _ _ k=>WPr.sto oB J true H0 Q Q Q Q Q Q Q Q Q Q (by exact rfl) rfl (k)) rfl)
    exact wD (t:=⟨[(1,.B 4 0),(3,.S 5),(4,.I v),(5,.I z)],[(4,.box (cC4 0 1 2 3 g_) 27),(5,.own rB (setL' y U.To true) true)],(vV4 0 1 2 3 g_ []),11⟩) [0,0,2,0,14,30,62,0,0,256,0,1792,3840,7936,16256,32640,65408,130944,130944,393088,130944,1965952,4063104,8257408,16777088,33554304,67108736,134217727,268435455] (.cons (D _ _ G) (.cons (D _ _ H) (.cons (D _ _ R) (.cons (D _ _ T) (.cons (D _ _ Y) (.cons (D _ _ Z) (.cons (D _ _ a0) (.cons (D _ _ b0) (.cons (D _ _ c0) (.cons (D _ _ d0) (.cons (D _ _ e0) (.cons (D _ _ i0) (.cons (D _ _ j0) (.cons (D _ _ k0) (.cons (D _ _ o0) (.cons (D _ _ p0) (.cons (D _ _ s0) (.cons (D _ _ t0) (.cons (D _ _ u0) (.cons (D _ _ v0) (.cons (D _ _ x0) (.cons (D _ _ y0) (.cons (D _ _ z0) (.cons (D _ _ A0) (.cons (D _ _ B0) (.cons (D _ _ C0) (.cons (D _ _ D0) (.cons (D _ _ I0) (.cons (D _ _ L0) .nil))))))))))))))))))))))))))))) (by kernel_rfl) (by kernel_rfl) (by kernel_rfl) (by kernel_rfl) (wb (wT ⟨[(1,.B 4 0),(3,.S 5),(4,.I v),(5,.I (w64 (z+1)))],[(4,.box (cC4 0 1 2 3 g_) 27),(5,.own rB (setL' y U.To true) true)],(vV4 0 1 2 3 g_ []),11⟩ J 3 (wU (ih24 ((setL' y U.To true),(w64 (z+1))) h))))
   have M0:=C _ _ (LS.kb K Q (D _ _ q0))
   have O0:A 17 (zz20 [(3,.S 5),(44,.O false)] [(45,.S 5)]):=C _ _ (wL J)
   have R0:A 18 (zz20 [(1,.B 4 0),(44,.O false)] [(46,.B 4 6)]):=C _ _ (wL J)
   have S0:A 19 ⟨[(44,.O false),(46,.B 4 6)],(vV4 0 1 2 3 g_ []),[],[(4,.box (cC4 0 1 2 3 g_) 27)],10,[(47,.S 2)],[],[],10⟩:=C _ _ (wL J)
   have T0:A 20 (zz20 [(5,.I z),(44,.O false)] [(48,.I z)]):=C _ _ (wL J)
   obtain ⟨U0,V0,h⟩:=ob h
   have X0:A 21 ⟨[(44,.O false),(47,.S 2),(48,.I z)],[(2,.sl rR2 g_.Edges)],[],[],10,[(49,.P 10 0)],[(10,.pl (cC2 U0))],[],11⟩:=C _ _ (wO Q Q Q (fun _ _ _ _ _ _ _ k=>wj oO2 J V0 Q Q Q Q Q Q Q Q Q (k)) rfl)
   have Y0:A 22 ⟨[(44,.O false),(49,.P 10 0)],[(10,.pl (cC2 U0))],[],[],11,[(50,.P 10 0)],[],[],11⟩:=C _ _ (wL J)
   have Z0:A 23 ⟨[(44,.O false),(50,.P 10 0)],[(10,.pl (cC2 U0))],[],[],11,[(51,.I U0.From)],[],[],11⟩:=C _ _ (wL J)
   obtain ⟨a1,b1,h⟩:=ob h
   have c1:A 24 ⟨[(44,.O false),(45,.S 5),(51,.I U0.From)],[],[],[(5,.own rB y true)],11,[(52,.P 11 0)],[(11,.el 5 ((U0.From).toNat * (rB).sz))],[],12⟩:=C _ _ (wO Q Q Q (fun _ _ _ _ _ _ _ k=>wX J b1 Q Q Q Q Q Q Q Q Q (k)) rfl)
   have d1:A 25 ⟨[(44,.O false),(52,.P 11 0)],[(11,.el 5 ((U0.From).toNat * (rB).sz))],[],[(5,.own rB y true)],12,[(53,.O a1)],[],[],12⟩:=C _ _ (wO Q Q Q (fun _ _ _ _ _ _ _ k=>wd oB J b1 Q Q Q Q Q Q Q Q Q Q (k)) rfl)
   have e1:A 26 ⟨[(44,.O false),(53,.O a1)],[],[],[],12,[(54,.O a1)],[],[],12⟩:=C _ _ (wL J)
   obtain ⟨f1,g1,h⟩:=ob h
   have i1:A 27 ⟨[(28,.S 5),(34,.I U.To)],[],[],[(5,.own rB y true)],12,[(55,.P 12 0)],[(12,.el 5 ((U.To).toNat * (rB).sz))],[],13⟩:=C _ _ (wO Q Q Q (fun _ _ _ _ _ _ _ k=>wX J g1 Q Q Q Q Q Q Q Q Q (k)) rfl)
   have k1:A 28 ⟨[(54,.O a1),(55,.P 12 0)],[(12,.el 5 ((U.To).toNat * (rB).sz))],[(5,.own rB y true)],[],13,[],[],[(5,.own rB (setL' y U.To a1) true)],13⟩:=C _ _ (wO Q Q Q (fun _ _ _ _ _ _ _ k=>WPr.sto oB J a1 g1 Q Q Q Q Q Q Q Q Q Q (by exact rfl) rfl (k)) rfl)
   exact wD (t:=⟨[(1,.B 4 0),(3,.S 5),(4,.I v),(5,.I z)],[(4,.box (cC4 0 1 2 3 g_) 27),(5,.own rB (setL' y U.To a1) true)],(vV4 0 1 2 3 g_ []),13⟩) [0,0,2,0,14,30,62,0,0,256,0,1792,3840,7936,16256,32640,65408,130944,130944,393088,130944,1965952,4063104,8257408,16777088,33554304,67108736,134217727,268435455] (.cons (D _ _ G) (.cons (D _ _ H) (.cons (D _ _ R) (.cons (D _ _ T) (.cons (D _ _ Y) (.cons (D _ _ Z) (.cons (D _ _ a0) (.cons (D _ _ b0) (.cons (D _ _ c0) (.cons (D _ _ d0) (.cons (D _ _ e0) (.cons (D _ _ i0) (.cons (D _ _ j0) (.cons (D _ _ k0) (.cons (D _ _ o0) (.cons (D _ _ p0) (.cons (D _ _ M0) (.cons (D _ _ O0) (.cons (D _ _ R0) (.cons (D _ _ S0) (.cons (D _ _ T0) (.cons (D _ _ X0) (.cons (D _ _ Y0) (.cons (D _ _ Z0) (.cons (D _ _ c1) (.cons (D _ _ d1) (.cons (D _ _ e1) (.cons (D _ _ i1) (.cons (D _ _ k1) .nil))))))))))))))))))))))))))))) (by kernel_rfl) (by kernel_rfl) (by kernel_rfl) (by kernel_rfl) (wb (wT ⟨[(1,.B 4 0),(3,.S 5),(4,.I v),(5,.I (w64 (z+1)))],[(4,.box (cC4 0 1 2 3 g_) 27),(5,.own rB (setL' y U.To a1) true)],(vV4 0 1 2 3 g_ []),13⟩ J 3 (wU (ih24 ((setL' y U.To a1),(w64 (z+1))) h))))
  exact wU (ih N (s,0) h)
 exact wU (ih N ((setL' x1 g_.Start true),0) h)
theorem z55_ct (N:Nat) (g_:T4) (r:Bool) (h:z55 N g_=some r) :
 Fn Tryz.prog 55 ⟨4,[.a (cC4 0 1 2 3 g_)],(vV4 0 1 2 3 g_ []),[],4,.O r,[],[]⟩:=by
 refine wF func55 Q Q (fun E F w=>?_)
 unfold z55 at h
 refine wR J 2 Q (wq (wV (zz2 g_ [(1,.B 4 0),(2,.O false),(3,.I 0)]) J 1 ?_))
 refine wC (σ:=Unit) (fun st=>(zz6 g_ [])) (fun st=>z55_k1=some r) ?_ (fun j1=>?_)
 ·intro _ h
  replace h:z55_k1=some r:=h
  unfold z55_k1 at h
  refine wR J 1 Q ?_
  cases h
  exact we J func55 [] Q Q Q Q
 refine wo ?_
 refine wI (σ:=Int) (fun st=>(zz2 g_ [(1,.B 4 0),(3,.I st)])) (fun n st=>z55_l2 N g_ n st) (r:=r) (fun _=>rfl) ?_ (fun ih=>?_)
 ·intro n2 ih3
  intro c h
  replace h:z55_l2 N g_ (n2+1) c=some r:=h
  unfold z55_l2 at h
  refine wq (wV (zz2 g_ [(1,.B 4 0),(3,.I c),(9,.O (decide (c < (g_.Timeouts.length:Int))))]) J 5 ?_)
  obtain ⟨K,h⟩|⟨K,h⟩:=oc' h
  ·exact wf K Q (wz rfl (wU (j1 () h)))
  refine wt K Q (wi (wq (wo (wq (wg (xw [3,4,5,6] (zz2 g_ [(1,.B 4 0),(3,.I c),(13,.S 3),(14,.I c)]) J 3 ?_))))))
  obtain ⟨d,e,h⟩:=ob h
  refine wj oO8 J e Q Q Q Q Q Q Q Q Q (wx (zz11 g_ d [(1,.B 4 0),(3,.I c),(4,.B 6 0)]) J 3 (wn (wq (wQ (by kernel_rfl) (by kernel_rfl) (xq (rg 3 62) (zz11 g_ d [(1,.B 4 0),(3,.I c),(4,.B 6 0),(17,.a (cC4 0 1 2 3 g_)),(19,.I d.State)]) J 3 ?_)))))
  obtain ⟨f,g,h⟩:=ob h
  refine qc (z114_ct N g_ d.State _ g) [(0,.sl 0),(1,.sl 1),(2,.sl 2),(3,.sl 3)] [] Q Q Q Q Q Q Q Q Q Q Q Q (xq (rg 6 59) (zz11 g_ d [(1,.B 4 0),(3,.I c),(4,.B 6 0),(22,.O (!f))]) J 2 ?_)
  obtain ⟨K,h⟩|⟨K,h⟩:=oc h
  ·refine qy 22 K Q (qx (zz14 g_ [(1,.B 4 0),(3,.I c),(81,.O true)]) J 59 (qn (wt Q Q (wR J 1 Q ?_))))
   cases h
   exact we J func55 [] Q Q Q Q
  refine qy 22 K Q (xq (rg 9 56) (zz11 g_ d [(1,.B 4 0),(3,.I c),(4,.B 6 0),(22,.O false),(25,.O (decide (c > 0)))]) J 3 ?_)
  obtain ⟨K,h⟩|⟨K,h⟩:=oc' h
  ·refine qy 25 K Q (xq (rg 27 38) (zz11 g_ d [(1,.B 4 0),(3,.I c),(4,.B 6 0),(43,.O (decide (d.Ticks < 1)))]) J 18 ?_)
   obtain ⟨K,h⟩|⟨K,h⟩:=oc h
   ·refine qy 43 K Q (qx (zz14 g_ [(1,.B 4 0),(3,.I c),(81,.O true)]) J 38 (qn (wt Q Q (wR J 1 Q ?_))))
    cases h
    exact we J func55 [] Q Q Q Q
   refine qy 43 K Q (xq (rg 32 33) (zz11 g_ d [(1,.B 4 0),(3,.I c),(4,.B 6 0),(48,.O (decide (d.Ticks > 1000)))]) J 5 ?_)
   obtain ⟨K,h⟩|⟨K,h⟩:=oc h
   ·refine qy 48 K Q (qx (zz14 g_ [(1,.B 4 0),(3,.I c),(81,.O true)]) J 33 (qn (wt Q Q (wR J 1 Q ?_))))
    cases h
    exact we J func55 [] Q Q Q Q
   refine qy 48 K Q (xq (rg 37 28) (zz11 g_ d [(1,.B 4 0),(3,.I c),(4,.B 6 0),(53,.O (decide (d.Else < 0)))]) J 5 ?_)
   obtain ⟨K,h⟩|⟨K,h⟩:=oc h
   ·refine qy 53 K Q (qx (zz14 g_ [(1,.B 4 0),(3,.I c),(81,.O true)]) J 28 (qn (wt Q Q (wR J 1 Q ?_))))
    cases h
    exact we J func55 [] Q Q Q Q
   refine qy 53 K Q (xq (rg 45 20) (zz11 g_ d [(1,.B 4 0),(3,.I c),(4,.B 6 0),(61,.O (decide (d.Else≥(g_.Edges.length:Int))))]) J 8 ?_)
   obtain ⟨K,h⟩|⟨K,h⟩:=oc h
   ·refine qy 61 K Q (qx (zz14 g_ [(1,.B 4 0),(3,.I c),(81,.O true)]) J 20 (qn (wt Q Q (wR J 1 Q ?_))))
    cases h
    exact we J func55 [] Q Q Q Q
   refine qy 61 K Q (xq (rg 49 16) (zz11 g_ d [(1,.B 4 0),(3,.I c),(4,.B 6 0),(61,.O false),(63,.S 2),(65,.I d.Else)]) J 4 ?_)
   obtain ⟨i,j,h⟩:=ob h
   refine WPq.op Q Q (VN.vs (VN.ix oO2 J j Q Q Q Q Q Q Q)) (xq (rg 57 8) (zz32 g_ d [(1,.B 4 0),(3,.I c),(4,.B 6 0),(73,.O (i.From != d.State))]) J 7 ?_)
   obtain ⟨K,h⟩|⟨K,h⟩:=oc h
   ·refine qy 73 K Q (qx (zz18 g_ [(1,.B 4 0),(3,.I c),(81,.O true)]) J 8 (qn (wt Q Q (wR J 1 Q ?_))))
    cases h
    exact we J func55 [] Q Q Q Q
   refine qy 73 K Q (xq [61,62,63,64] (zz18 g_ [(1,.B 4 0),(3,.I c),(73,.O false),(75,.S 2),(77,.I d.Else)]) J 4 ?_)
   obtain ⟨k,l,h⟩:=ob h
   refine WPq.op Q Q (VN.vs (VN.ix oO2 J l Q Q Q Q Q Q Q)) (qx (zz78 g_ [(1,.B 4 0),(3,.I c),(81,.O k.Again)]) J 3 (qn ?_))
   obtain ⟨K,h⟩|⟨K,h⟩:=oc h
   ·refine wt K Q (wR J 1 Q ?_)
    cases h
    exact we J func55 [] Q Q Q Q
   exact wf K Q (wi (wb (wT (zz78 g_ [(1,.B 4 0),(3,.I (w64 (c+1)))]) J 3 (wU (ih3 (w64 (c+1)) h)))))
  refine qy 25 K Q (xq (rg 15 50) (zz11 g_ d [(1,.B 4 0),(3,.I c),(4,.B 6 0),(22,.O false),(25,.O true),(27,.I d.State),(29,.S 3),(31,.I (w64 (c-1)))]) J 6 ?_)
  obtain ⟨m,o,h⟩:=ob h
  refine WPq.op Q Q (VN.vs (VN.ix oO8 J o Q Q Q Q Q Q Q)) (xq (rg 22 43) (zz32 g_ d [(1,.B 4 0),(3,.I c),(4,.B 6 0),(38,.O (decide (d.State≤m.State)))]) J 6 ?_)
  obtain ⟨K,h⟩|⟨K,h⟩:=oc h
  ·refine qy 38 K Q (qx (zz18 g_ [(1,.B 4 0),(3,.I c),(81,.O true)]) J 43 (qn (wt Q Q (wR J 1 Q ?_))))
   cases h
   exact we J func55 [] Q Q Q Q
  refine qy 38 K Q (xq (rg 27 38) (zz32 g_ d [(1,.B 4 0),(3,.I c),(4,.B 6 0),(43,.O (decide (d.Ticks < 1)))]) J 5 ?_)
  obtain ⟨K,h⟩|⟨K,h⟩:=oc h
  ·refine qy 43 K Q (qx (zz18 g_ [(1,.B 4 0),(3,.I c),(81,.O true)]) J 38 (qn (wt Q Q (wR J 1 Q ?_))))
   cases h
   exact we J func55 [] Q Q Q Q
  refine qy 43 K Q (xq (rg 32 33) (zz32 g_ d [(1,.B 4 0),(3,.I c),(4,.B 6 0),(48,.O (decide (d.Ticks > 1000)))]) J 5 ?_)
  obtain ⟨K,h⟩|⟨K,h⟩:=oc h
  ·refine qy 48 K Q (qx (zz18 g_ [(1,.B 4 0),(3,.I c),(81,.O true)]) J 33 (qn (wt Q Q (wR J 1 Q ?_))))
   cases h
   exact we J func55 [] Q Q Q Q
  refine qy 48 K Q (xq (rg 37 28) (zz32 g_ d [(1,.B 4 0),(3,.I c),(4,.B 6 0),(53,.O (decide (d.Else < 0)))]) J 5 ?_)
  obtain ⟨K,h⟩|⟨K,h⟩:=oc h
  ·refine qy 53 K Q (qx (zz18 g_ [(1,.B 4 0),(3,.I c),(81,.O true)]) J 28 (qn (wt Q Q (wR J 1 Q ?_))))
   cases h
   exact we J func55 [] Q Q Q Q
  refine qy 53 K Q (xq (rg 45 20) (zz32 g_ d [(1,.B 4 0),(3,.I c),(4,.B 6 0),(61,.O (decide (d.Else≥(g_.Edges.length:Int))))]) J 8 ?_)
  obtain ⟨K,h⟩|⟨K,h⟩:=oc h
  ·refine qy 61 K Q (qx (zz18 g_ [(1,.B 4 0),(3,.I c),(81,.O true)]) J 20 (qn (wt Q Q (wR J 1 Q ?_))))
   cases h
   exact we J func55 [] Q Q Q Q
  refine qy 61 K Q (xq (rg 49 16) (zz32 g_ d [(1,.B 4 0),(3,.I c),(4,.B 6 0),(61,.O false),(63,.S 2),(65,.I d.Else)]) J 4 ?_)
  obtain ⟨p,q,h⟩:=ob h
  refine WPq.op Q Q (VN.vs (VN.ix oO2 J q Q Q Q Q Q Q Q)) (xq (rg 57 8) ⟨[(1,.B 4 0),(3,.I c),(4,.B 6 0),(73,.O (p.From != d.State))],[(4,.box (cC4 0 1 2 3 g_) 27),(6,.box (cC8 d) 79)],(vV4 0 1 2 3 g_ []),9⟩ J 7 ?_)
  obtain ⟨K,h⟩|⟨K,h⟩:=oc h
  ·refine qy 73 K Q (qx (zz78 g_ [(1,.B 4 0),(3,.I c),(81,.O true)]) J 8 (qn (wt Q Q (wR J 1 Q ?_))))
   cases h
   exact we J func55 [] Q Q Q Q
  refine qy 73 K Q (xq [61,62,63,64] (zz78 g_ [(1,.B 4 0),(3,.I c),(73,.O false),(75,.S 2),(77,.I d.Else)]) J 4 ?_)
  obtain ⟨s,t,h⟩:=ob h
  refine WPq.op Q Q (VN.vs (VN.ix oO2 J t Q Q Q Q Q Q Q)) (qx ⟨[(1,.B 4 0),(3,.I c),(81,.O s.Again)],[(4,.box (cC4 0 1 2 3 g_) 27)],(vV4 0 1 2 3 g_ []),10⟩ J 3 (qn ?_))
  obtain ⟨K,h⟩|⟨K,h⟩:=oc h
  ·refine wt K Q (wR J 1 Q ?_)
   cases h
   exact we J func55 [] Q Q Q Q
  exact wf K Q (wi (wb (wT ⟨[(1,.B 4 0),(3,.I (w64 (c+1)))],[(4,.box (cC4 0 1 2 3 g_) 27)],(vV4 0 1 2 3 g_ []),10⟩ J 3 (wU (ih3 (w64 (c+1)) h)))))
 exact wU (ih N 0 h)
theorem z19_ct (N:Nat) (g_:T4) (r:Bool) (h:z19 N g_=some r) :
 Fn Tryz.prog 19 ⟨4,[.a (cC4 0 1 2 3 g_)],(vV4 0 1 2 3 g_ []),[],4,.O r,[],[]⟩:=by
 refine wF func19 Q Q (fun E F w=>?_)
 unfold z19 at h
 refine wR J 2 Q (wq (wg (xw (rg 1 18) (zz2 g_ [(1,.B 4 0),(3,.a (cC4 0 1 2 3 g_))]) J 1 ?_)))
 obtain ⟨x1,c,h⟩:=ob h
 refine wc (z51_ct N g_ _ c) [(0,.sl 0),(1,.sl 1),(2,.sl 2),(3,.sl 3)] [] Q Q Q Q Q Q Q Q (.inl rfl) rfl (xw (rg 3 16) (zz2 g_ [(1,.B 4 0),(5,.O x1)]) J 1 ?_)
 obtain ⟨K,h⟩|⟨K,h⟩:=oc' h
 ·refine wy 5 K Q (wx (zz6 g_ [(2,.O false)]) J 16 (wn ?_))
  cases h
  exact we J func19 [] Q Q Q Q
 refine wy 5 K Q (ws J 1 Q ?_)
 obtain ⟨x2,d,h⟩:=ob h
 refine wc (z52_ct N g_ _ d) [(0,.sl 0),(1,.sl 1),(2,.sl 2),(3,.sl 3)] [] Q Q Q Q Q Q Q Q (.inl rfl) rfl (xw (rg 7 12) (zz2 g_ [(1,.B 4 0),(9,.O x2)]) J 2 ?_)
 obtain ⟨K,h⟩|⟨K,h⟩:=oc' h
 ·refine wy 9 K Q (wx (zz6 g_ [(2,.O false)]) J 12 (wn ?_))
  cases h
  exact we J func19 [] Q Q Q Q
 refine wy 9 K Q (ws J 1 Q ?_)
 obtain ⟨x3,e,h⟩:=ob h
 refine wc (z53_ct N g_ _ e) [(0,.sl 0),(1,.sl 1),(2,.sl 2),(3,.sl 3)] [] Q Q Q Q Q Q Q Q (.inl rfl) rfl (xw (rg 11 8) (zz2 g_ [(1,.B 4 0),(13,.O x3)]) J 2 ?_)
 obtain ⟨K,h⟩|⟨K,h⟩:=oc' h
 ·refine wy 13 K Q (wx (zz6 g_ [(2,.O false)]) J 8 (wn ?_))
  cases h
  exact we J func19 [] Q Q Q Q
 refine wy 13 K Q (ws J 1 Q ?_)
 obtain ⟨x4,f,h⟩:=ob h
 refine wc (z54_ct N g_ _ f) [(0,.sl 0),(1,.sl 1),(2,.sl 2),(3,.sl 3)] [] Q Q Q Q Q Q Q Q (.inl rfl) rfl (xw [15,16,17,18] (zz2 g_ [(1,.B 4 0),(17,.O x4)]) J 2 ?_)
 obtain ⟨K,h⟩|⟨K,h⟩:=oc' h
 ·refine wy 17 K Q (wx (zz6 g_ [(2,.O false)]) J 4 (wn ?_))
  cases h
  exact we J func19 [] Q Q Q Q
 refine wy 17 K Q (ws J 1 Q ?_)
 obtain ⟨x5,g,h⟩:=ob h
 refine wc (z55_ct N g_ _ g) [(0,.sl 0),(1,.sl 1),(2,.sl 2),(3,.sl 3)] [] Q Q Q Q Q Q Q Q (.inl rfl) rfl (wx (zz6 g_ [(2,.O x5)]) J 2 (wn ?_))
 cases h
 exact we J func19 [] Q Q Q Q
theorem z128_ct (N:Nat) (a_:(List T1)) (b_:(List T1)) (r:Bool) (h:z128 N a_ b_=some r) :
 Fn Tryz.prog 128 ⟨2,[.S 0,.S 1],[(0,.sl rR1 a_),(1,.sl rR1 b_)],[],2,.O r,[],[]⟩:=by
 refine wF func128 Q Q (fun E F w=>?_)
 unfold z128 at h
 refine wR J 1 Q (wq (wV (zz38 a_ b_ [(0,.S 0),(1,.S 1),(4,.O false),(10,.O ((a_.length:Int) != (b_.length:Int)))]) J 5 ?_))
 obtain ⟨K,h⟩|⟨K,h⟩:=oc h
 ·refine wt K Q (wR J 1 Q ?_)
  cases h
  exact we J func128 [] Q Q Q Q
 refine wf K Q (wi (wq (wR J 1 Q ?_)))
 refine wC (σ:=Unit) (fun st=>(zz38 a_ b_ [])) (fun st=>z128_k1=some r) ?_ (fun j1=>?_)
 ·intro _ h
  replace h:z128_k1=some r:=h
  unfold z128_k1 at h
  refine wR J 1 Q ?_
  cases h
  exact we J func128 [] Q Q Q Q
 refine wo ?_
 refine wI (σ:=Int) (fun st=>(zz38 a_ b_ [(0,.S 0),(1,.S 1),(5,.I st)])) (fun n st=>z128_l2 a_ b_ n st) (r:=r) (fun _=>rfl) ?_ (fun ih=>?_)
 ·intro n2 ih3
  intro c h
  replace h:z128_l2 a_ b_ (n2+1) c=some r:=h
  unfold z128_l2 at h
  refine wq (wV (zz38 a_ b_ [(0,.S 0),(1,.S 1),(5,.I c),(14,.O (decide (c < (a_.length:Int))))]) J 4 ?_)
  obtain ⟨K,h⟩|⟨K,h⟩:=oc' h
  ·exact wf K Q (wz rfl (wU (j1 () h)))
  refine wt K Q (wi (wq (wo (wq (wQ (by kernel_rfl) (by kernel_rfl) (WPq.sil J 2 rfl ?_))))))
  obtain ⟨d,e,h⟩:=ob h
  refine WPq.op Q Q (VN.vs (VN.ix oO1 J e Q Q Q Q Q Q Q)) (xq [6,7,8] ⟨[(0,.S 0),(1,.S 1),(5,.I c),(20,.a (cC1 d)),(21,.S 1),(22,.I c)],[],[(0,.sl rR1 a_),(1,.sl rR1 b_)],3⟩ J 3 ?_)
  obtain ⟨f,g,h⟩:=ob h
  refine WPq.op Q Q (VN.vs (VN.ix oO1 J g Q Q Q Q Q Q Q)) (WPq.sil J 1 rfl (WPq.op Q Q (VN.vs (VN.eqa (neg:=true) (equal_run (b:=((d.X==f.X) && ((d.Y==f.Y) && ((d.C==f.C) && true)))) (by kernel_rfl) (by kernel_rfl)) (by kernel_rfl) Q Q Q Q Q)) (qx ⟨[(0,.S 0),(1,.S 1),(5,.I c),(25,.O (!((d.X==f.X) && ((d.Y==f.Y) && ((d.C==f.C) && true)))))],[],[(0,.sl rR1 a_),(1,.sl rR1 b_)],4⟩ J 0 (qn ?_))))
  obtain ⟨K,h⟩|⟨K,h⟩:=oc h
  ·refine wt K Q (wR J 1 Q ?_)
   cases h
   exact we J func128 [] Q Q Q Q
  exact wf K Q (wi (wb (wT ⟨[(0,.S 0),(1,.S 1),(5,.I (w64 (c+1)))],[],[(0,.sl rR1 a_),(1,.sl rR1 b_)],4⟩ J 3 (wU (ih3 (w64 (c+1)) h)))))
 exact wU (ih N 0 h)
theorem z79_ct (N:Nat) (a_:(List T0)) (b_:(List T0)) (r:Bool) (h:z79 N a_ b_=some r) :
 Fn Tryz.prog 79 ⟨2,[.S 0,.S 1],[(0,.sl rR0 a_),(1,.sl rR0 b_)],[],2,.O r,[],[]⟩:=by
 refine wF func79 Q Q (fun E F w=>?_)
 unfold z79 at h
 refine wR J 1 Q (wq (wV (zz46 a_ b_ [(0,.S 0),(1,.S 1),(4,.O false),(14,.O ((a_.length:Int) != (b_.length:Int)))]) J 5 ?_))
 obtain ⟨K,h⟩|⟨K,h⟩:=oc h
 ·refine wt K Q (wR J 1 Q ?_)
  cases h
  exact we J func79 [] Q Q Q Q
 refine wf K Q (wi (wq (wR J 1 Q ?_)))
 refine wC (σ:=Unit) (fun st=>(zz46 a_ b_ [])) (fun st=>z79_k1=some r) ?_ (fun j1=>?_)
 ·intro _ h
  replace h:z79_k1=some r:=h
  unfold z79_k1 at h
  refine wR J 1 Q ?_
  cases h
  exact we J func79 [] Q Q Q Q
 refine wo ?_
 refine wI (σ:=Int) (fun st=>(zz46 a_ b_ [(0,.S 0),(1,.S 1),(5,.I st)])) (fun n st=>z79_l2 N a_ b_ n st) (r:=r) (fun _=>rfl) ?_ (fun ih=>?_)
 ·intro n22 ih21
  intro c h
  replace h:z79_l2 N a_ b_ (n22+1) c=some r:=h
  unfold z79_l2 at h
  refine wq (wV (zz46 a_ b_ [(0,.S 0),(1,.S 1),(5,.I c),(18,.O (decide (c < (a_.length:Int))))]) J 4 ?_)
  obtain ⟨K,h⟩|⟨K,h⟩:=oc' h
  ·exact wf K Q (wz rfl (wU (j1 () h)))
  refine wt K Q (wi (wq (wo (wq (wN (fun A9 d e=>?_))))))
  have f:A9 0 ⟨[(0,.S 0)],[(0,.sl rR0 a_)],[],[],2,[(21,.S 0)],[],[],2⟩:=d _ _ (wL J)
  have g:A9 1 (zz102 [(5,.I c)] [(22,.I c)]):=d _ _ (wL J)
  obtain ⟨i,j,h⟩:=ob h
  have l:A9 2 ⟨[(21,.S 0),(22,.I c)],[(0,.sl rR0 a_)],[],[],2,[(23,.P 2 0)],((2,.pl (cC0 3 4 5 i))::vV0 3 4 5 i []),[],6⟩:=d _ _ (wO Q Q Q (fun _ _ _ _ _ _ _ k=>wj oO0 J j Q Q Q Q Q Q Q Q Q (k)) rfl)
  have m:A9 3 ⟨[(23,.P 2 0)],[(2,.pl (cC0 3 4 5 i))],[],[],6,[(24,.a (cC0 3 4 5 i))],[],[],6⟩:=d _ _ (wL J)
  have o:A9 4 ⟨[(1,.S 1)],[(1,.sl rR0 b_)],[],[],6,[(25,.S 1)],[],[],6⟩:=d _ _ (wL J)
  have p:A9 5 (zz3 [(5,.I c)] [(26,.I c)]):=d _ _ (wL J)
  obtain ⟨q,u,h⟩:=ob h
  have v:A9 6 ⟨[(25,.S 1),(26,.I c)],[(1,.sl rR0 b_)],[],[],6,[(27,.P 6 0)],((6,.pl (cC0 7 8 9 q))::vV0 7 8 9 q []),[],10⟩:=d _ _ (wO Q Q Q (fun _ _ _ _ _ _ _ k=>wj oO0 J u Q Q Q Q Q Q Q Q Q (k)) rfl)
  have x:A9 7 ⟨[(27,.P 6 0)],[(6,.pl (cC0 7 8 9 q))],[],[],10,[(28,.a (cC0 7 8 9 q))],[],[],10⟩:=d _ _ (wL J)
  have y:A9 8 ⟨[],[],[],[],10,[(6,.B 10 0)],[],[(10,.box [.s (str []),.nil,.I 0,.nil,.nil] 94)],11⟩:=d _ _ (wL J)
  have z:A9 9 ⟨[],[],[],[],11,[(7,.B 11 0)],[],[(11,.box [.s (str []),.nil,.I 0,.nil,.nil] 94)],12⟩:=d _ _ (wL J)
  have A:A9 10 ⟨[(6,.B 10 0),(24,.a (cC0 3 4 5 i))],(vV0 3 4 5 i []),[(10,.box [.s (str []),.nil,.I 0,.nil,.nil] 94)],[],12,[],[],[(10,.box (cC0 3 4 5 i) 94)],12⟩:=d _ _ (wL J)
  have C:A9 11 ⟨[(7,.B 11 0),(28,.a (cC0 7 8 9 q))],(vV0 7 8 9 q []),[(11,.box [.s (str []),.nil,.I 0,.nil,.nil] 94)],[],12,[],[],[(11,.box (cC0 7 8 9 q) 94)],12⟩:=d _ _ (wL J)
  refine wD (t:=(zz19 i q a_ b_ [(0,.S 0),(1,.S 1),(5,.I c),(6,.B 10 0),(7,.B 11 0)])) [0,0,3,7,0,0,48,112,0,0,783,2047] (.cons (e _ _ f) (.cons (e _ _ g) (.cons (e _ _ l) (.cons (e _ _ m) (.cons (e _ _ o) (.cons (e _ _ p) (.cons (e _ _ v) (.cons (e _ _ x) (.cons (e _ _ y) (.cons (e _ _ z) (.cons (e _ _ A) (.cons (e _ _ C) .nil)))))))))))) (by kernel_rfl) (by kernel_rfl) (by kernel_rfl) (by kernel_rfl) (wq (wq (wg (xw (rg 6 36) (zz19 i q a_ b_ [(0,.S 0),(1,.S 1),(5,.I c),(6,.B 10 0),(7,.B 11 0),(34,.O (!(i.Name.toList==q.Name.toList)))]) J 6 ?_))))
  obtain ⟨K,h⟩|⟨K,h⟩:=oc h
  ·refine wy 34 K Q (wx (zz19 i q a_ b_ [(0,.S 0),(1,.S 1),(5,.I c),(6,.B 10 0),(7,.B 11 0),(70,.O true)]) J 36 (wn (wt Q Q (wR J 1 Q ?_))))
   cases h
   exact we J func79 [] Q Q Q Q
  refine wy 34 K Q (xw (rg 13 29) (zz19 i q a_ b_ [(0,.S 0),(1,.S 1),(5,.I c),(6,.B 10 0),(7,.B 11 0),(41,.O (i.First != q.First))]) J 7 ?_)
  obtain ⟨K,h⟩|⟨K,h⟩:=oc h
  ·refine wy 41 K Q (wx (zz19 i q a_ b_ [(0,.S 0),(1,.S 1),(5,.I c),(6,.B 10 0),(7,.B 11 0),(70,.O true)]) J 29 (wn (wt Q Q (wR J 1 Q ?_))))
   cases h
   exact we J func79 [] Q Q Q Q
  refine wy 41 K Q (xw (rg 22 20) (zz19 i q a_ b_ [(0,.S 0),(1,.S 1),(5,.I c),(6,.B 10 0),(7,.B 11 0),(50,.O ((i.Fields.length:Int) != (q.Fields.length:Int)))]) J 9 ?_)
  obtain ⟨K,h⟩|⟨K,h⟩:=oc h
  ·refine wy 50 K Q (wx (zz19 i q a_ b_ [(0,.S 0),(1,.S 1),(5,.I c),(6,.B 10 0),(7,.B 11 0),(70,.O true)]) J 20 (wn (wt Q Q (wR J 1 Q ?_))))
   cases h
   exact we J func79 [] Q Q Q Q
  refine wy 50 K Q (xw (rg 28 14) (zz19 i q a_ b_ [(0,.S 0),(1,.S 1),(5,.I c),(6,.B 10 0),(7,.B 11 0),(50,.O false),(53,.S 4),(56,.S 8)]) J 6 ?_)
  obtain ⟨D,G,h⟩:=ob h
  refine wc (z128_ct N i.Guard.Diffs q.Guard.Diffs _ G) [(0,.sl 4),(1,.sl 8)] [] Q Q Q Q Q Q Q Q (.inl rfl) rfl (xw (rg 32 10) (zz19 i q a_ b_ [(0,.S 0),(1,.S 1),(5,.I c),(6,.B 10 0),(7,.B 11 0),(60,.O (!D))]) J 3 ?_)
  obtain ⟨K,h⟩|⟨K,h⟩:=oc h
  ·refine wy 60 K Q (wx (zz19 i q a_ b_ [(0,.S 0),(1,.S 1),(5,.I c),(6,.B 10 0),(7,.B 11 0),(70,.O true)]) J 10 (wn (wt Q Q (wR J 1 Q ?_))))
   cases h
   exact we J func79 [] Q Q Q Q
  refine wy 60 K Q (wx (zz19 i q a_ b_ [(0,.S 0),(1,.S 1),(5,.I c),(6,.B 10 0),(7,.B 11 0),(70,.O ((i.Guard.Equals.length:Int) != (q.Guard.Equals.length:Int)))]) J 10 (wn ?_))
  obtain ⟨K,h⟩|⟨K,h⟩:=oc h
  ·refine wt K Q (wR J 1 Q ?_)
   cases h
   exact we J func79 [] Q Q Q Q
  refine wf K Q (wi (wq (wR J 1 Q ?_)))
  refine wC (σ:=Unit) (fun st=>(zz19 i q a_ b_ [(0,.S 0),(1,.S 1),(5,.I c),(6,.B 10 0),(7,.B 11 0)])) (fun st=>z79_k5 N c (z79_l2 N a_ b_ n22) i q=some r) ?_ (fun j34=>?_)
  ·intro _ h
   replace h:z79_k5 N c (z79_l2 N a_ b_ n22) i q=some r:=h
   unfold z79_k5 at h
   refine wR J 1 Q ?_
   refine wC (σ:=Unit) (fun st=>⟨[(0,.S 0),(1,.S 1),(5,.I c)],[],[(0,.sl rR0 a_),(1,.sl rR0 b_)],12⟩) (fun st=>z79_k3 c (z79_l2 N a_ b_ n22)=some r) ?_ (fun j36=>?_)
   ·intro _ h
    replace h:z79_k3 c (z79_l2 N a_ b_ n22)=some r:=h
    unfold z79_k3 at h
    exact wb (wT ⟨[(0,.S 0),(1,.S 1),(5,.I (w64 (c+1)))],[],[(0,.sl rR0 a_),(1,.sl rR0 b_)],12⟩ J 3 (wU (ih21 (w64 (c+1)) h)))
   refine wo ?_
   refine wI (σ:=Int) (fun st=>(zz19 i q a_ b_ [(0,.S 0),(1,.S 1),(5,.I c),(6,.B 10 0),(7,.B 11 0),(9,.I st)])) (fun n st=>z79_l4 c (z79_l2 N a_ b_ n22) i q n st) (r:=r) (fun _=>rfl) ?_ (fun ih=>?_)
   ·intro n25 ih38
    intro H h
    replace h:z79_l4 c (z79_l2 N a_ b_ n22) i q (n25+1) H=some r:=h
    unfold z79_l4 at h
    refine wq (wV (zz19 i q a_ b_ [(0,.S 0),(1,.S 1),(5,.I c),(6,.B 10 0),(7,.B 11 0),(9,.I H),(94,.O (decide (H < (i.Guard.Equals.length:Int))))]) J 6 ?_)
    obtain ⟨K,h⟩|⟨K,h⟩:=oc' h
    ·exact wf K Q (wz rfl (wU (j36 () h)))
    refine wt K Q (wi (wq (wo (wq (wQ (by kernel_rfl) (by kernel_rfl) (xq (rg 4 9) (zz19 i q a_ b_ [(0,.S 0),(1,.S 1),(5,.I c),(6,.B 10 0),(7,.B 11 0),(9,.I H),(99,.S 5),(100,.I H)]) J 4 ?_))))))
    obtain ⟨R,T,h⟩:=ob h
    refine WPq.op Q Q (VN.vs (VN.ix (oP (oI .i64) (oI .i64)) J T Q Q Q Q Q Q Q)) (xq [10,11,12] (zz189 i q a_ b_ [(0,.S 0),(1,.S 1),(5,.I c),(6,.B 10 0),(7,.B 11 0),(9,.I H),(102,.a [.I R.1,.I R.2]),(105,.S 9),(106,.I H)]) J 5 ?_)
    obtain ⟨U,X,h⟩:=ob h
    refine WPq.op Q Q (VN.vs (VN.ix (oP (oI .i64) (oI .i64)) J X Q Q Q Q Q Q Q)) (WPq.sil J 1 rfl (WPq.op Q Q (VN.vs (VN.eqa (neg:=true) (equal_run (b:=((R.1==U.1) && ((R.2==U.2) && true))) (by kernel_rfl) (by kernel_rfl)) (by kernel_rfl) Q Q Q Q Q)) (qx (zz117 i q a_ b_ [(0,.S 0),(1,.S 1),(5,.I c),(6,.B 10 0),(7,.B 11 0),(9,.I H),(109,.O (!((R.1==U.1) && ((R.2==U.2) && true))))]) J 0 (qn ?_))))
    obtain ⟨K,h⟩|⟨K,h⟩:=oc h
    ·refine wt K Q (wR J 1 Q ?_)
     cases h
     exact we J func79 [] Q Q Q Q
    exact wf K Q (wi (wb (wT (zz117 i q a_ b_ [(0,.S 0),(1,.S 1),(5,.I c),(6,.B 10 0),(7,.B 11 0),(9,.I (w64 (H+1)))]) J 3 (wU (ih38 (w64 (H+1)) h)))))
   exact wU (ih N 0 h)
  refine wo ?_
  refine wI (σ:=Int) (fun st=>(zz19 i q a_ b_ [(0,.S 0),(1,.S 1),(5,.I c),(6,.B 10 0),(7,.B 11 0),(8,.I st)])) (fun n st=>z79_l6 N c (z79_l2 N a_ b_ n22) i q n st) (r:=r) (fun _=>rfl) ?_ (fun ih=>?_)
  ·intro n26 ih39
   intro Y h
   replace h:z79_l6 N c (z79_l2 N a_ b_ n22) i q (n26+1) Y=some r:=h
   unfold z79_l6 at h
   refine wq (wV (zz19 i q a_ b_ [(0,.S 0),(1,.S 1),(5,.I c),(6,.B 10 0),(7,.B 11 0),(8,.I Y),(75,.O (decide (Y < (i.Fields.length:Int))))]) J 5 ?_)
   obtain ⟨K,h⟩|⟨K,h⟩:=oc' h
   ·exact wf K Q (wz rfl (wU (j34 () h)))
   refine wt K Q (wi (wq (wo (wq (wQ (by kernel_rfl) (by kernel_rfl) (xq (rg 3 8) (zz19 i q a_ b_ [(0,.S 0),(1,.S 1),(5,.I c),(6,.B 10 0),(7,.B 11 0),(8,.I Y),(79,.S 3),(80,.I Y)]) J 3 ?_))))))
   obtain ⟨Z,a0,h⟩:=ob h
   refine WPq.op Q Q (VN.vs (VN.ix oO3 J a0 Q Q Q Q Q Q Q)) (xq [8,9,10] (zz189 i q a_ b_ [(0,.S 0),(1,.S 1),(5,.I c),(6,.B 10 0),(7,.B 11 0),(8,.I Y),(82,.a (cC3 Z)),(84,.S 7),(85,.I Y)]) J 4 ?_)
   obtain ⟨b0,c0,h⟩:=ob h
   refine WPq.op Q Q (VN.vs (VN.ix oO3 J c0 Q Q Q Q Q Q Q)) (WPq.sil J 1 rfl (WPq.op Q Q (VN.vs (VN.eqa (neg:=true) (equal_run (b:=((Z.Name.toList==b0.Name.toList) && (((Z.Sort'.Kind==b0.Sort'.Kind) && ((Z.Sort'.Lo==b0.Sort'.Lo) && ((Z.Sort'.Hi==b0.Sort'.Hi) && true))) && true))) (by kernel_rfl) (by kernel_rfl)) (by kernel_rfl) Q Q Q Q Q)) (qx (zz117 i q a_ b_ [(0,.S 0),(1,.S 1),(5,.I c),(6,.B 10 0),(7,.B 11 0),(8,.I Y),(88,.O (!((Z.Name.toList==b0.Name.toList) && (((Z.Sort'.Kind==b0.Sort'.Kind) && ((Z.Sort'.Lo==b0.Sort'.Lo) && ((Z.Sort'.Hi==b0.Sort'.Hi) && true))) && true))))]) J 0 (qn ?_))))
   obtain ⟨K,h⟩|⟨K,h⟩:=oc h
   ·refine wt K Q (wR J 1 Q ?_)
    cases h
    exact we J func79 [] Q Q Q Q
   exact wf K Q (wi (wb (wT (zz117 i q a_ b_ [(0,.S 0),(1,.S 1),(5,.I c),(6,.B 10 0),(7,.B 11 0),(8,.I (w64 (Y+1)))]) J 3 (wU (ih39 (w64 (Y+1)) h)))))
  exact wU (ih N 0 h)
 exact wU (ih N 0 h)
theorem z33_ct (N:Nat) (a_:T4) (b_:T4) (r:Bool) (h:z33 N a_ b_=some r) :
 Fn Tryz.prog 33 ⟨8,[.a (cC4 0 1 2 3 a_),.a (cC4 4 5 6 7 b_)],(vV4 0 1 2 3 a_ (vV4 4 5 6 7 b_ [])),[],8,.O r,[],[]⟩:=by
 refine wF func33 Q Q (fun E F w=>?_)
 unfold z33 at h
 refine wV (zz5 a_ b_ [(2,.B 8 0),(3,.B 9 0),(4,.O false)]) J 3 (wq (wq (wg (xw (rg 6 55) (zz5 a_ b_ [(2,.B 8 0),(3,.B 9 0),(4,.O false),(13,.O (!(a_.Name.toList==b_.Name.toList)))]) J 6 ?_))))
 obtain ⟨K,h⟩|⟨K,h⟩:=oc h
 ·refine wy 13 K Q (wx (zz5 a_ b_ [(2,.B 8 0),(3,.B 9 0),(4,.O false),(68,.O true)]) J 55 (wn (wt Q Q (wR J 1 Q ?_))))
  cases h
  exact we J func33 [] Q Q Q Q
 refine wy 13 K Q (xw (rg 15 46) (zz5 a_ b_ [(2,.B 8 0),(3,.B 9 0),(4,.O false),(22,.O ((a_.Roles.length:Int) != (b_.Roles.length:Int)))]) J 9 ?_)
 obtain ⟨K,h⟩|⟨K,h⟩:=oc h
 ·refine wy 22 K Q (wx (zz5 a_ b_ [(2,.B 8 0),(3,.B 9 0),(4,.O false),(68,.O true)]) J 46 (wn (wt Q Q (wR J 1 Q ?_))))
  cases h
  exact we J func33 [] Q Q Q Q
 refine wy 22 K Q (xw (rg 19 42) (zz5 a_ b_ [(2,.B 8 0),(3,.B 9 0),(4,.O false),(22,.O false),(24,.S 1),(26,.S 5)]) J 4 ?_)
 obtain ⟨x1,d,h⟩:=ob h
 refine wc (z79_ct N a_.Decls b_.Decls _ d) [(0,.sl 1),(1,.sl 5)] [] Q Q Q Q Q Q Q Q (.inl rfl) rfl (xw (rg 23 38) (zz5 a_ b_ [(2,.B 8 0),(3,.B 9 0),(4,.O false),(30,.O (!x1))]) J 3 ?_)
 obtain ⟨K,h⟩|⟨K,h⟩:=oc h
 ·refine wy 30 K Q (wx (zz5 a_ b_ [(2,.B 8 0),(3,.B 9 0),(4,.O false),(68,.O true)]) J 38 (wn (wt Q Q (wR J 1 Q ?_))))
  cases h
  exact we J func33 [] Q Q Q Q
 refine wy 30 K Q (xw (rg 30 31) (zz5 a_ b_ [(2,.B 8 0),(3,.B 9 0),(4,.O false),(37,.O (a_.States != b_.States))]) J 7 ?_)
 obtain ⟨K,h⟩|⟨K,h⟩:=oc h
 ·refine wy 37 K Q (wx (zz5 a_ b_ [(2,.B 8 0),(3,.B 9 0),(4,.O false),(68,.O true)]) J 31 (wn (wt Q Q (wR J 1 Q ?_))))
  cases h
  exact we J func33 [] Q Q Q Q
 refine wy 37 K Q (xw (rg 37 24) (zz5 a_ b_ [(2,.B 8 0),(3,.B 9 0),(4,.O false),(44,.O (a_.Start != b_.Start))]) J 7 ?_)
 obtain ⟨K,h⟩|⟨K,h⟩:=oc h
 ·refine wy 44 K Q (wx (zz5 a_ b_ [(2,.B 8 0),(3,.B 9 0),(4,.O false),(68,.O true)]) J 24 (wn (wt Q Q (wR J 1 Q ?_))))
  cases h
  exact we J func33 [] Q Q Q Q
 refine wy 44 K Q (xw (rg 44 17) (zz5 a_ b_ [(2,.B 8 0),(3,.B 9 0),(4,.O false),(51,.O (a_.End != b_.End))]) J 7 ?_)
 obtain ⟨K,h⟩|⟨K,h⟩:=oc h
 ·refine wy 51 K Q (wx (zz5 a_ b_ [(2,.B 8 0),(3,.B 9 0),(4,.O false),(68,.O true)]) J 17 (wn (wt Q Q (wR J 1 Q ?_))))
  cases h
  exact we J func33 [] Q Q Q Q
 refine wy 51 K Q (xw (rg 53 8) (zz5 a_ b_ [(2,.B 8 0),(3,.B 9 0),(4,.O false),(60,.O ((a_.Edges.length:Int) != (b_.Edges.length:Int)))]) J 9 ?_)
 obtain ⟨K,h⟩|⟨K,h⟩:=oc h
 ·refine wy 60 K Q (wx (zz5 a_ b_ [(2,.B 8 0),(3,.B 9 0),(4,.O false),(68,.O true)]) J 8 (wn (wt Q Q (wR J 1 Q ?_))))
  cases h
  exact we J func33 [] Q Q Q Q
 refine wy 60 K Q (wx (zz5 a_ b_ [(2,.B 8 0),(3,.B 9 0),(4,.O false),(68,.O ((a_.Timeouts.length:Int) != (b_.Timeouts.length:Int)))]) J 8 (wn ?_))
 obtain ⟨K,h⟩|⟨K,h⟩:=oc h
 ·refine wt K Q (wR J 1 Q ?_)
  cases h
  exact we J func33 [] Q Q Q Q
 refine wf K Q (wi (wq (wR J 1 Q ?_)))
 refine wC (σ:=Unit) (fun st=>(zz5 a_ b_ [(2,.B 8 0),(3,.B 9 0)])) (fun st=>z33_k5 N a_ b_=some r) ?_ (fun j1=>?_)
 ·intro _ h
  replace h:z33_k5 N a_ b_=some r:=h
  unfold z33_k5 at h
  refine wq (wR J 1 Q ?_)
  refine wC (σ:=Unit) (fun st=>(zz5 a_ b_ [(2,.B 8 0),(3,.B 9 0)])) (fun st=>z33_k3 N a_ b_=some r) ?_ (fun j3=>?_)
  ·intro _ h
   replace h:z33_k3 N a_ b_=some r:=h
   unfold z33_k3 at h
   refine wq (wR J 1 Q ?_)
   refine wC (σ:=Unit) (fun st=>(zz33 a_ b_ [])) (fun st=>z33_k1=some r) ?_ (fun j5=>?_)
   ·intro _ h
    replace h:z33_k1=some r:=h
    unfold z33_k1 at h
    refine wR J 1 Q ?_
    cases h
    exact we J func33 [] Q Q Q Q
   refine wo ?_
   refine wI (σ:=Int) (fun st=>(zz5 a_ b_ [(2,.B 8 0),(3,.B 9 0),(7,.I st)])) (fun n st=>z33_l2 a_ b_ n st) (r:=r) (fun _=>rfl) ?_ (fun ih=>?_)
   ·intro n4 ih7
    intro e h
    replace h:z33_l2 a_ b_ (n4+1) e=some r:=h
    unfold z33_l2 at h
    refine wq (wV (zz5 a_ b_ [(2,.B 8 0),(3,.B 9 0),(7,.I e),(109,.O (decide (e < (a_.Timeouts.length:Int))))]) J 5 ?_)
    obtain ⟨K,h⟩|⟨K,h⟩:=oc' h
    ·exact wf K Q (wz rfl (wU (j5 () h)))
    refine wt K Q (wi (wq (wo (wq (wQ (by kernel_rfl) (by kernel_rfl) (xq (rg 3 8) (zz5 a_ b_ [(2,.B 8 0),(3,.B 9 0),(7,.I e),(113,.S 3),(114,.I e)]) J 3 ?_))))))
    obtain ⟨f,g,h⟩:=ob h
    refine WPq.op Q Q (VN.vs (VN.ix oO8 J g Q Q Q Q Q Q Q)) (xq [8,9,10] (zz143 a_ b_ [(2,.B 8 0),(3,.B 9 0),(7,.I e),(116,.a (cC8 f)),(118,.S 7),(119,.I e)]) J 4 ?_)
    obtain ⟨i,j,h⟩:=ob h
    refine WPq.op Q Q (VN.vs (VN.ix oO8 J j Q Q Q Q Q Q Q)) (WPq.sil J 1 rfl (WPq.op Q Q (VN.vs (VN.eqa (neg:=true) (equal_run (b:=((f.State==i.State) && ((f.Ticks==i.Ticks) && ((f.Else==i.Else) && true)))) (by kernel_rfl) (by kernel_rfl)) (by kernel_rfl) Q Q Q Q Q)) (qx (zz72 a_ b_ [(2,.B 8 0),(3,.B 9 0),(7,.I e),(122,.O (!((f.State==i.State) && ((f.Ticks==i.Ticks) && ((f.Else==i.Else) && true)))))]) J 0 (qn ?_))))
    obtain ⟨K,h⟩|⟨K,h⟩:=oc h
    ·refine wt K Q (wR J 1 Q ?_)
     cases h
     exact we J func33 [] Q Q Q Q
    exact wf K Q (wi (wb (wT (zz72 a_ b_ [(2,.B 8 0),(3,.B 9 0),(7,.I (w64 (e+1)))]) J 3 (wU (ih7 (w64 (e+1)) h)))))
   exact wU (ih N 0 h)
  refine wo ?_
  refine wI (σ:=Int) (fun st=>(zz5 a_ b_ [(2,.B 8 0),(3,.B 9 0),(6,.I st)])) (fun n st=>z33_l4 N a_ b_ n st) (r:=r) (fun _=>rfl) ?_ (fun ih=>?_)
  ·intro n5 ih8
   intro k h
   replace h:z33_l4 N a_ b_ (n5+1) k=some r:=h
   unfold z33_l4 at h
   refine wq (wV (zz5 a_ b_ [(2,.B 8 0),(3,.B 9 0),(6,.I k),(91,.O (decide (k < (a_.Edges.length:Int))))]) J 5 ?_)
   obtain ⟨K,h⟩|⟨K,h⟩:=oc' h
   ·exact wf K Q (wz rfl (wU (j3 () h)))
   refine wt K Q (wi (wq (wo (wq (wQ (by kernel_rfl) (by kernel_rfl) (xq (rg 3 8) (zz5 a_ b_ [(2,.B 8 0),(3,.B 9 0),(6,.I k),(95,.S 2),(96,.I k)]) J 3 ?_))))))
   obtain ⟨l,m,h⟩:=ob h
   refine WPq.op Q Q (VN.vs (VN.ix oO2 J m Q Q Q Q Q Q Q)) (xq [8,9,10] (zz143 a_ b_ [(2,.B 8 0),(3,.B 9 0),(6,.I k),(98,.a (cC2 l)),(100,.S 6),(101,.I k)]) J 4 ?_)
   obtain ⟨o,p,h⟩:=ob h
   refine WPq.op Q Q (VN.vs (VN.ix oO2 J p Q Q Q Q Q Q Q)) (WPq.sil J 1 rfl (WPq.op Q Q (VN.vs (VN.eqa (neg:=true) (equal_run (b:=((l.From==o.From) && (((l.Act.From==o.Act.From) && ((l.Act.To==o.Act.To) && ((l.Act.Label==o.Act.Label) && true))) && ((l.To==o.To) && ((l.Again==o.Again) && true))))) (by kernel_rfl) (by kernel_rfl)) (by kernel_rfl) Q Q Q Q Q)) (qx (zz72 a_ b_ [(2,.B 8 0),(3,.B 9 0),(6,.I k),(104,.O (!((l.From==o.From) && (((l.Act.From==o.Act.From) && ((l.Act.To==o.Act.To) && ((l.Act.Label==o.Act.Label) && true))) && ((l.To==o.To) && ((l.Again==o.Again) && true))))))]) J 0 (qn ?_))))
   obtain ⟨K,h⟩|⟨K,h⟩:=oc h
   ·refine wt K Q (wR J 1 Q ?_)
    cases h
    exact we J func33 [] Q Q Q Q
   exact wf K Q (wi (wb (wT (zz72 a_ b_ [(2,.B 8 0),(3,.B 9 0),(6,.I (w64 (k+1)))]) J 3 (wU (ih8 (w64 (k+1)) h)))))
  exact wU (ih N 0 h)
 refine wo ?_
 refine wI (σ:=Int) (fun st=>(zz5 a_ b_ [(2,.B 8 0),(3,.B 9 0),(5,.I st)])) (fun n st=>z33_l6 N a_ b_ n st) (r:=r) (fun _=>rfl) ?_ (fun ih=>?_)
 ·intro n6 ih9
  intro q h
  replace h:z33_l6 N a_ b_ (n6+1) q=some r:=h
  unfold z33_l6 at h
  refine wq (wV (zz5 a_ b_ [(2,.B 8 0),(3,.B 9 0),(5,.I q),(73,.O (decide (q < (a_.Roles.length:Int))))]) J 5 ?_)
  obtain ⟨K,h⟩|⟨K,h⟩:=oc' h
  ·exact wf K Q (wz rfl (wU (j1 () h)))
  refine wt K Q (wi (wq (wo (wq (wQ (by kernel_rfl) (by kernel_rfl) (xq (rg 3 8) (zz5 a_ b_ [(2,.B 8 0),(3,.B 9 0),(5,.I q),(77,.S 0),(78,.I q)]) J 3 ?_))))))
  obtain ⟨t,u,h⟩:=ob h
  refine WPq.op Q Q (VN.vs (VN.ix oS J u Q Q Q Q Q Q Q)) (xq [8,9,10] (zz143 a_ b_ [(2,.B 8 0),(3,.B 9 0),(5,.I q),(80,.c (.s t)),(82,.S 4),(83,.I q)]) J 4 ?_)
  obtain ⟨v,x,h⟩:=ob h
  refine WPq.op Q Q (VN.vs (VN.ix oS J x Q Q Q Q Q Q Q)) (qx (zz72 a_ b_ [(2,.B 8 0),(3,.B 9 0),(5,.I q),(86,.O (!(t.toList==v.toList)))]) J 2 (qn ?_))
  obtain ⟨K,h⟩|⟨K,h⟩:=oc h
  ·refine wt K Q (wR J 1 Q ?_)
   cases h
   exact we J func33 [] Q Q Q Q
  exact wf K Q (wi (wb (wT (zz72 a_ b_ [(2,.B 8 0),(3,.B 9 0),(5,.I (w64 (q+1)))]) J 3 (wU (ih9 (w64 (q+1)) h)))))
 exact wU (ih N 0 h)
theorem z80_ct (N:Nat) (l_:(List Int)) (n_:Int) (r:Int) (h:z80 N l_ n_=some r) :
 Fn Tryz.prog 80 ⟨1,[.S 0,.I n_],[(0,.sl (rI .i64) l_)],[],1,.I r,[],[]⟩:=by
 refine wF func80 Q Q (fun E F w=>?_)
 unfold z80 at h
 refine wR J 1 Q (wq (wR J 1 Q ?_))
 refine wC (σ:=Unit) (fun st=>(zz15 l_ [])) (fun st=>z80_k1=some r) ?_ (fun j1=>?_)
 ·intro _ h
  replace h:z80_k1=some r:=h
  unfold z80_k1 at h
  refine wR J 1 Q ?_
  cases h
  exact we J func80 [] Q Q Q Q
 refine wo ?_
 refine wI (σ:=Int) (fun st=>(zz15 l_ [(0,.S 0),(1,.I n_),(5,.I st)])) (fun n st=>z80_l2 l_ n_ n st) (r:=r) (fun _=>rfl) ?_ (fun ih=>?_)
 ·intro n2 ih3
  intro c h
  replace h:z80_l2 l_ n_ (n2+1) c=some r:=h
  unfold z80_l2 at h
  refine wq (wV (zz15 l_ [(0,.S 0),(1,.I n_),(5,.I c),(9,.O (decide (c < (l_.length:Int))))]) J 4 ?_)
  obtain ⟨K,h⟩|⟨K,h⟩:=oc' h
  ·exact wf K Q (wz rfl (wU (j1 () h)))
  refine wt K Q (wi (wq (wo (wq (wg (ws J 2 Q ?_))))))
  obtain ⟨x9,d,h⟩:=ob h
  refine wj (oI .i64) J d Q Q Q Q Q Q Q Q Q (wx (zz80 l_ [(0,.S 0),(1,.I n_),(5,.I c),(17,.O (x9==n_))]) J 3 (wn ?_))
  obtain ⟨K,h⟩|⟨K,h⟩:=oc h
  ·refine wt K Q (wR J 2 Q ?_)
   cases h
   exact we J func80 [] Q Q Q Q
  exact wf K Q (wi (wb (wT (zz80 l_ [(0,.S 0),(1,.I n_),(5,.I (w64 (c+1)))]) J 3 (wU (ih3 (w64 (c+1)) h)))))
 exact wU (ih N 0 h)
theorem z34_ct (N:Nat) (g_:T4) (r:T4 × Int) (h:z34 N g_=some r) :
 Fn Tryz.prog 34 ⟨4,[.a (cC4 0 1 2 3 g_)],(vV4 0 1 2 3 g_ []),[],8,.t [.inr (cC4 4 5 6 7 r.1),.inl (.I r.2)],(vV4 4 5 6 7 r.1 []),[]⟩:=by
 refine wF func34 Q Q (fun E F w=>?_)
 unfold z34 at h
 refine wV (zz109 g_ [(1,.B 4 0),(2,.B 5 0),(3,.I 0)]) J 3 (wq (wq (wg (ws J 1 Q ?_))))
 obtain ⟨x1,c,h⟩:=ob h
 refine wc (z19_ct N g_ _ c) [(0,.sl 0),(1,.sl 1),(2,.sl 2),(3,.sl 3)] [] Q Q Q Q Q Q Q Q (.inl rfl) rfl (wx (zz109 g_ [(1,.B 4 0),(2,.B 5 0),(3,.I 0),(13,.O (!x1))]) J 1 (wn ?_))
 obtain ⟨K,h⟩|⟨K,h⟩:=oc h
 ·refine wt K Q (wV (zz174 g_ [(2,.B 5 0),(3,.I 1)]) J 3 ?_)
  cases h
  exact we J func34 [(4,.nil),(5,.nil),(6,.nil),(7,.nil)] Q Q Q Q
 refine wf K Q (wi (wV ⟨[(1,.B 4 0),(2,.B 5 0),(3,.I 0),(4,.B 6 0)],[(4,.box (cC4 0 1 2 3 g_) 27),(5,.box [.s (str []),.nil,.nil,.I 0,.I 0,.I 0,.nil,.nil] 27),(6,.box [.s g_.Name,.sl 0,.sl 1,.I g_.States,.I 0,.I 0,.nil,.nil] 27)],(vV4 0 1 2 3 g_ []),7⟩ J 11 (wq (wg (ws J 2 Q (WPr.bs (cs:=[.I g_.Start]) (oI .i64) J ([g_.Start]:List Int) Q Q Q Q Q Q (by kernel_rfl) (by exact (an Q Q)) rfl (wx ⟨[(1,.B 4 0),(2,.B 5 0),(3,.I 0),(4,.B 6 0),(5,.S 7)],[(4,.box (cC4 0 1 2 3 g_) 27),(5,.box [.s (str []),.nil,.nil,.I 0,.I 0,.I 0,.nil,.nil] 27),(6,.box [.s g_.Name,.sl 0,.sl 1,.I g_.States,.I 0,.I 0,.nil,.nil] 27),(7,.own (rI .i64) ([g_.Start]:List Int) true)],(vV4 0 1 2 3 g_ []),8⟩ J 1 (wn (wq (wR J 1 Q ?_))))))))))
 refine wC (σ:=(List T2) × (List T8) × (List Int)) (fun st=>(zz144 g_ g_.Name g_.States st.1 st.2.1 st.2.2 [(1,.B 4 0),(2,.B 5 0),(4,.B 6 0),(5,.S 10)])) (fun st=>z34_k1 N g_ st.1 st.2.1 st.2.2=some r) ?_ (fun j1=>?_)
 ·rintro ⟨d,e,f⟩ h
  replace h:z34_k1 N g_ d e f=some r:=h
  unfold z34_k1 at h
  refine wq (wg (xw [3,4,5] ⟨[(2,.B 5 0),(4,.B 6 0),(112,.S 10),(114,.I g_.End)],[(5,.box [.s (str []),.nil,.nil,.I 0,.I 0,.I 0,.nil,.nil] 27),(6,.box [.s g_.Name,.sl 0,.sl 1,.I g_.States,.I 0,.I 0,.sl 8,.sl 9] 27),(8,.own rR2 d true),(9,.own rR8 e true),(10,.own (rI .i64) f true)],(vV4 0 1 2 3 g_ []),11⟩ J 3 ?_))
  obtain ⟨g,i,h⟩:=ob h
  refine wc (z80_ct N f g_.End _ i) [(0,.sl 10)] [10] Q Q Q Q Q Q Q Q (.inr ⟨rfl,trivial⟩) rfl (wx ⟨[(2,.B 5 0),(4,.B 6 0)],[(5,.box [.s (str []),.nil,.nil,.I 0,.I 0,.I 0,.nil,.nil] 27),(6,.box [.s g_.Name,.sl 0,.sl 1,.I g_.States,.I 0,.I g,.sl 8,.sl 9] 27),(8,.own rR2 d true),(9,.own rR8 e true)],(vV4 0 1 2 3 g_ []),11⟩ J 2 (wn (wV ⟨[(2,.B 5 0),(3,.I 0)],[(5,.box [.s g_.Name,.sl 0,.sl 1,.I g_.States,.I 0,.I g,.sl 8,.sl 9] 27),(8,.own rR2 d true),(9,.own rR8 e true)],(vV4 0 1 2 3 g_ []),11⟩ J 3 (WP.frz 8 rfl (WP.frz 9 rfl ?_)))))
  cases h
  exact we J func34 [(4,.sl 0),(5,.sl 1),(6,.sl 8),(7,.sl 9)] Q Q Q Q
 refine wo ?_
 refine wI (σ:=(List T2) × (List T8) × (List Int) × Int) (fun st=>(zz144 g_ g_.Name g_.States st.1 st.2.1 st.2.2.1 [(1,.B 4 0),(2,.B 5 0),(4,.B 6 0),(5,.S 10),(6,.I st.2.2.2)])) (fun n st=>z34_l2 N g_ n st.1 st.2.1 st.2.2.1 st.2.2.2) (r:=r) (fun _=>rfl) ?_ (fun ih=>?_)
 ·intro n72 ih84
  rintro ⟨j,l,m,o⟩ h
  replace h:z34_l2 N g_ (n72+1) j l m o=some r:=h
  unfold z34_l2 at h
  refine wq (wV (zz144 g_ g_.Name g_.States j l m [(1,.B 4 0),(2,.B 5 0),(4,.B 6 0),(5,.S 10),(6,.I o),(30,.O (decide (o < (m.length:Int))))]) J 4 ?_)
  obtain ⟨K,h⟩|⟨K,h⟩:=oc' h
  ·exact wf K Q (wz rfl (wU (j1 (j,l,m) h)))
  refine wt K Q (wi (wq (wo (wq (wN (fun p q u=>?_))))))
  have v:p 0 ⟨[(1,.B 4 0)],(vV4 0 1 2 3 g_ []),[],[(4,.box (cC4 0 1 2 3 g_) 27)],11,[(33,.a (cC4 0 1 2 3 g_))],[],[],11⟩:=q _ _ (wL J)
  have x:p 1 (zz25 [(5,.S 10)] [(34,.S 10)]):=q _ _ (wL J)
  have y:p 2 (zz25 [(6,.I o)] [(35,.I o)]):=q _ _ (wL J)
  obtain ⟨z,A,h⟩:=ob h
  have C:p 3 ⟨[(34,.S 10),(35,.I o)],[],[],[(10,.own (rI .i64) m true)],11,[(36,.P 11 0)],[(11,.el 10 ((o).toNat * ((rI .i64)).sz))],[],12⟩:=q _ _ (wO Q Q Q (fun _ _ _ _ _ _ _ k=>wX J A Q Q Q Q Q Q Q Q Q (k)) rfl)
  have D:p 4 ⟨[(36,.P 11 0)],[(11,.el 10 ((o).toNat * ((rI .i64)).sz))],[],[(10,.own (rI .i64) m true)],12,[(37,.I z)],[],[],12⟩:=q _ _ (wO Q Q Q (fun _ _ _ _ _ _ _ k=>wd (oI .i64) J A Q Q Q Q Q Q Q Q Q Q (k)) rfl)
  obtain ⟨G,H,h⟩:=ob h
  have R:p 5 ⟨[(33,.a (cC4 0 1 2 3 g_)),(37,.I z)],(vV4 0 1 2 3 g_ []),[],[],12,[(38,.S 12)],[],[(12,.own (rI .i64) G true)],13⟩:=q _ _ (wO Q Q Q (fun _ _ _ _ _ _ _ k=>wc (z28_ct N g_ z _ H) [(0,.sl 0),(1,.sl 1),(2,.sl 2),(3,.sl 3)] [] Q Q Q Q Q Q Q Q (.inl rfl) rfl (k)) rfl)
  have T:p 6 (zz36 [(38,.S 12)] [(7,.S 12)]):=q _ _ (wL J)
  refine wD (t:=⟨[(1,.B 4 0),(2,.B 5 0),(4,.B 6 0),(5,.S 10),(6,.I o),(7,.S 12)],[(4,.box (cC4 0 1 2 3 g_) 27),(5,.box [.s (str []),.nil,.nil,.I 0,.I 0,.I 0,.nil,.nil] 27),(6,.box [.s g_.Name,.sl 0,.sl 1,.I g_.States,.I 0,.I 0,.sl 8,.sl 9] 27),(8,.own rR2 j true),(9,.own rR8 l true),(10,.own (rI .i64) m true),(12,.own (rI .i64) G true)],(vV4 0 1 2 3 g_ []),13⟩) [0,0,0,6,14,31,63] (.cons (u _ _ v) (.cons (u _ _ x) (.cons (u _ _ y) (.cons (u _ _ C) (.cons (u _ _ D) (.cons (u _ _ R) (.cons (u _ _ T) .nil))))))) (by kernel_rfl) (by kernel_rfl) (by kernel_rfl) (by kernel_rfl) (wR J 1 Q ?_)
  refine wC (σ:=(List T2) × (List T8) × (List Int)) (fun st=>(zz190 g_ g_.Name g_.States st.1 st.2.1 st.2.2 [(1,.B 4 0),(2,.B 5 0),(4,.B 6 0),(5,.S 15),(6,.I o)])) (fun st=>z34_k3 o (z34_l2 N g_ n72) st.1 st.2.1 st.2.2=some r) ?_ (fun j139=>?_)
  ·rintro ⟨U,X,Y⟩ h
   replace h:z34_k3 o (z34_l2 N g_ n72) U X Y=some r:=h
   unfold z34_k3 at h
   exact wb (wT (zz190 g_ g_.Name g_.States U X Y [(1,.B 4 0),(2,.B 5 0),(4,.B 6 0),(5,.S 15),(6,.I (w64 (o+1)))]) J 3 (wu [(8,.sl 13),(9,.sl 14),(10,.sl 15)] (ih84 (U,X,Y,(w64 (o+1))) h) Q Q Q Q))
  refine wo ?_
  refine wI (σ:=(List T2) × (List T8) × (List Int) × Int) (fun st=>(zz191 g_ g_.Name g_.States G st.1 st.2.1 st.2.2.1 [(1,.B 4 0),(2,.B 5 0),(4,.B 6 0),(5,.S 15),(6,.I o),(7,.S 12),(8,.I st.2.2.2)])) (fun n st=>z34_l4 N g_ o (z34_l2 N g_ n72) G n st.1 st.2.1 st.2.2.1 st.2.2.2) (r:=r) (fun _=>rfl) ?_ (fun ih=>?_)
  ·intro n84 ih153
   rintro ⟨Z,a0,b0,c0⟩ h
   replace h:z34_l4 N g_ o (z34_l2 N g_ n72) G (n84+1) Z a0 b0 c0=some r:=h
   unfold z34_l4 at h
   refine wq (wV (zz191 g_ g_.Name g_.States G Z a0 b0 [(1,.B 4 0),(2,.B 5 0),(4,.B 6 0),(5,.S 15),(6,.I o),(7,.S 12),(8,.I c0),(42,.O (decide (c0 < (G.length:Int))))]) J 4 ?_)
   obtain ⟨K,h⟩|⟨K,h⟩:=oc' h
   ·exact wf K Q (wz rfl (wU (j139 (Z,a0,b0) h)))
   refine wt K Q (wi (wq (wo (wq (wN (fun d0 e0 f0=>?_))))))
   have g0:d0 0 (zz37 [(1,.B 4 0)] [(45,.B 4 6)]):=e0 _ _ (wL J)
   have i0:d0 1 ⟨[(45,.B 4 6)],(vV4 0 1 2 3 g_ []),[],[(4,.box (cC4 0 1 2 3 g_) 27)],16,[(46,.S 2)],[],[],16⟩:=e0 _ _ (wL J)
   have j0:d0 2 (zz37 [(7,.S 12)] [(47,.S 12)]):=e0 _ _ (wL J)
   have k0:d0 3 (zz37 [(8,.I c0)] [(48,.I c0)]):=e0 _ _ (wL J)
   obtain ⟨l0,m0,h⟩:=ob h
   have o0:d0 4 ⟨[(47,.S 12),(48,.I c0)],[],[],[(12,.own (rI .i64) G true)],16,[(49,.P 16 0)],[(16,.el 12 ((c0).toNat * ((rI .i64)).sz))],[],17⟩:=e0 _ _ (wO Q Q Q (fun _ _ _ _ _ _ _ k=>wX J m0 Q Q Q Q Q Q Q Q Q (k)) rfl)
   have p0:d0 5 ⟨[(49,.P 16 0)],[(16,.el 12 ((c0).toNat * ((rI .i64)).sz))],[],[(12,.own (rI .i64) G true)],17,[(50,.I l0)],[],[],17⟩:=e0 _ _ (wO Q Q Q (fun _ _ _ _ _ _ _ k=>wd (oI .i64) J m0 Q Q Q Q Q Q Q Q Q Q (k)) rfl)
   obtain ⟨q0,s0,h⟩:=ob h
   have t0:d0 6 ⟨[(46,.S 2),(50,.I l0)],[(2,.sl rR2 g_.Edges)],[],[],17,[(51,.P 17 0)],[(17,.pl (cC2 q0))],[],18⟩:=e0 _ _ (wO Q Q Q (fun _ _ _ _ _ _ _ k=>wj oO2 J s0 Q Q Q Q Q Q Q Q Q (k)) rfl)
   have u0:d0 7 ⟨[(51,.P 17 0)],[(17,.pl (cC2 q0))],[],[],18,[(52,.a (cC2 q0))],[],[],18⟩:=e0 _ _ (wL J)
   have v0:d0 8 ⟨[],[],[],[],18,[(9,.B 18 0)],[],[(18,.box [.I 0,.I 0,.I 0,.I 0,.I 0,.b false] 43)],19⟩:=e0 _ _ (wL J)
   have x0:d0 9 ⟨[(9,.B 18 0),(52,.a (cC2 q0))],[],[(18,.box [.I 0,.I 0,.I 0,.I 0,.I 0,.b false] 43)],[],19,[],[],[(18,.box (cC2 q0) 43)],19⟩:=e0 _ _ (wL J)
   refine wD (t:=(zz118 g_ g_.Name g_.States G Z a0 b0 q0 [(1,.B 4 0),(2,.B 5 0),(4,.B 6 0),(5,.S 15),(6,.I o),(7,.S 12),(8,.I c0),(9,.B 18 0)])) [0,1,0,0,12,28,63,127,0,511] (.cons (f0 _ _ g0) (.cons (f0 _ _ i0) (.cons (f0 _ _ j0) (.cons (f0 _ _ k0) (.cons (f0 _ _ o0) (.cons (f0 _ _ p0) (.cons (f0 _ _ t0) (.cons (f0 _ _ u0) (.cons (f0 _ _ v0) (.cons (f0 _ _ x0) .nil)))))))))) (by kernel_rfl) (by kernel_rfl) (by kernel_rfl) (by kernel_rfl) (wq (wq (wg (xw [3,4] (zz118 g_ g_.Name g_.States G Z a0 b0 q0 [(1,.B 4 0),(2,.B 5 0),(4,.B 6 0),(5,.S 15),(6,.I o),(7,.S 12),(8,.I c0),(9,.B 18 0),(53,.S 15),(55,.I q0.To)]) J 3 ?_))))
   obtain ⟨y0,z0,h⟩:=ob h
   refine wc (z80_ct N b0 q0.To _ z0) [(0,.sl 15)] [15] Q Q Q Q Q Q Q Q (.inr ⟨rfl,trivial⟩) rfl (wx (zz118 g_ g_.Name g_.States G Z a0 b0 q0 [(1,.B 4 0),(2,.B 5 0),(4,.B 6 0),(5,.S 15),(6,.I o),(7,.S 12),(8,.I c0),(9,.B 18 0),(57,.O (decide (y0 < 0)))]) J 1 (wn ?_))
   refine wC (σ:=(List Int)) (fun st=>⟨[(1,.B 4 0),(2,.B 5 0),(4,.B 6 0),(5,.S 19),(6,.I o),(7,.S 12),(8,.I c0),(9,.B 18 0)],[(4,.box (cC4 0 1 2 3 g_) 27),(5,.box [.s (str []),.nil,.nil,.I 0,.I 0,.I 0,.nil,.nil] 27),(6,.box [.s g_.Name,.sl 0,.sl 1,.I g_.States,.I 0,.I 0,.sl 13,.sl 14] 27),(12,.own (rI .i64) G true),(13,.own rR2 Z true),(14,.own rR8 a0 true),(18,.box (cC2 q0) 43),(19,.own (rI .i64) st true)],(vV4 0 1 2 3 g_ []),20⟩) (fun st=>z34_k7 N g_ o G Z a0 c0 (z34_l4 N g_ o (z34_l2 N g_ n72) G n84) q0 st=some r) ?_ (fun j162=>?_)
   ·intro A0 h
    replace h:z34_k7 N g_ o G Z a0 c0 (z34_l4 N g_ o (z34_l2 N g_ n72) G n84) q0 A0=some r:=h
    unfold z34_k7 at h
    refine wq (wR J 1 Q ?_)
    refine wC (σ:=(List T8)) (fun st=>(zz145 g_ g_.Name g_.States G Z q0 A0 st [(1,.B 4 0),(2,.B 5 0),(4,.B 6 0),(5,.S 19),(6,.I o),(7,.S 12),(8,.I c0),(9,.B 18 0)])) (fun st=>z34_k5 N o Z c0 (z34_l4 N g_ o (z34_l2 N g_ n72) G n84) q0 A0 st=some r) ?_ (fun j163=>?_)
    ·intro B0 h
     replace h:z34_k5 N o Z c0 (z34_l4 N g_ o (z34_l2 N g_ n72) G n84) q0 A0 B0=some r:=h
     unfold z34_k5 at h
     refine wN (fun C0 D0 G0=>?_)
     have H0:C0 0 (zz40 [(4,.B 6 0)] [(97,.B 6 6)]):=D0 _ _ (wL J)
     have I0:C0 1 ⟨[(97,.B 6 6)],[(0,.sl rS g_.Roles),(1,.sl rR0 g_.Decls)],[],[(6,.box [.s g_.Name,.sl 0,.sl 1,.I g_.States,.I 0,.I 0,.sl 13,.sl 20] 27)],21,[(98,.S 13)],[],[],21⟩:=D0 _ _ (wL J)
     have L0:C0 2 (zz40 [(6,.I o)] [(99,.I o)]):=D0 _ _ (wL J)
     have M0:C0 3 (zz40 [(9,.B 18 0)] [(100,.B 18 1)]):=D0 _ _ (wL J)
     have O0:C0 4 (zz146 q0 [(100,.B 18 1)] [(101,.a (cC6 q0.Act))]):=D0 _ _ (wL J)
     have R0:C0 5 (zz40 [(5,.S 19)] [(102,.S 19)]):=D0 _ _ (wL J)
     have S0:C0 6 (zz40 [(9,.B 18 0)] [(103,.B 18 4)]):=D0 _ _ (wL J)
     have T0:C0 7 (zz146 q0 [(103,.B 18 4)] [(104,.I q0.To)]):=D0 _ _ (wL J)
     obtain ⟨U0,V0,h⟩:=ob h
     have X0:C0 8 ⟨[(102,.S 19),(104,.I q0.To)],[],[],[(19,.own (rI .i64) A0 true)],21,[(105,.I U0)],[],[],21⟩:=D0 _ _ (wO Q Q Q (fun _ _ _ _ _ _ _ k=>wc (z80_ct N A0 q0.To _ V0) [(0,.sl 19)] [19] Q Q Q Q Q Q Q Q (.inr ⟨rfl,trivial⟩) rfl (k)) rfl)
     have Y0:C0 9 (zz40 [(9,.B 18 0)] [(106,.B 18 5)]):=D0 _ _ (wL J)
     have Z0:C0 10 (zz146 q0 [(106,.B 18 5)] [(107,.O q0.Again)]):=D0 _ _ (wL J)
     have a1:C0 11 (zz40 [(99,.I o),(101,.a (cC6 q0.Act)),(105,.I U0),(107,.O q0.Again)] [(108,.a [.I o,.I q0.Act.From,.I q0.Act.To,.I q0.Act.Label,.I U0,.b q0.Again])]):=D0 _ _ (wL J)
     have b1:C0 12 ⟨[(108,.a [.I o,.I q0.Act.From,.I q0.Act.To,.I q0.Act.Label,.I U0,.b q0.Again])],[],[],[],21,[(109,.S 21)],[],[(21,.own rR2 ([(⟨o,q0.Act,U0,q0.Again⟩:T2)]:List T2) true)],22⟩:=D0 _ _ (wO Q Q Q (fun _ _ _ _ _ _ _ k=>WPr.bs (cs:=[.I o,.I q0.Act.From,.I q0.Act.To,.I q0.Act.Label,.I U0,.b q0.Again]) oO2 J ([(⟨o,q0.Act,U0,q0.Again⟩:T2)]:List T2) Q Q Q Q Q Q (by kernel_rfl) (by exact (an (an rfl (an (an rfl (an Q Q)) (an Q Q))) rfl)) rfl (k)) rfl)
     obtain ⟨c1,d1,h⟩:=ob h
     have e1:C0 13 ⟨[(98,.S 13),(109,.S 21)],[],[(13,.own rR2 Z true)],[(21,.own rR2 ([(⟨o,q0.Act,U0,q0.Again⟩:T2)]:List T2) true)],22,[(110,.S 22)],[],[(13,.gone),(22,.own rR2 c1 true)],23⟩:=D0 _ _ (wO Q Q Q (fun _ _ _ _ _ _ _ k=>WPr.app J d1 (by exact (srcO rfl)) Q Q Q Q Q Q Q Q Q Q (k)) rfl)
     have f1:C0 14 (zz41 [(4,.B 6 0)] [(111,.B 6 6)]):=D0 _ _ (wL J)
     have g1:C0 15 ⟨[(110,.S 22),(111,.B 6 6)],[(0,.sl rS g_.Roles),(1,.sl rR0 g_.Decls)],[(6,.box [.s g_.Name,.sl 0,.sl 1,.I g_.States,.I 0,.I 0,.sl 13,.sl 20] 27)],[(22,.own rR2 c1 true)],23,[],[],[(6,.box [.s g_.Name,.sl 0,.sl 1,.I g_.States,.I 0,.I 0,.sl 22,.sl 20] 27)],23⟩:=D0 _ _ (wL J)
     exact wD (t:=(zz192 g_ g_.Name g_.States G A0 B0 c1 [(1,.B 4 0),(2,.B 5 0),(4,.B 6 0),(5,.S 19),(6,.I o),(7,.S 12),(8,.I c0)])) [0,1,0,0,8,0,0,64,224,0,512,2044,4092,8191,16383,32767] (.cons (G0 _ _ H0) (.cons (G0 _ _ I0) (.cons (G0 _ _ L0) (.cons (G0 _ _ M0) (.cons (G0 _ _ O0) (.cons (G0 _ _ R0) (.cons (G0 _ _ S0) (.cons (G0 _ _ T0) (.cons (G0 _ _ X0) (.cons (G0 _ _ Y0) (.cons (G0 _ _ Z0) (.cons (G0 _ _ a1) (.cons (G0 _ _ b1) (.cons (G0 _ _ e1) (.cons (G0 _ _ f1) (.cons (G0 _ _ g1) .nil)))))))))))))))) (by kernel_rfl) (by kernel_rfl) (by kernel_rfl) (by kernel_rfl) (wb (wT (zz192 g_ g_.Name g_.States G A0 B0 c1 [(1,.B 4 0),(2,.B 5 0),(4,.B 6 0),(5,.S 19),(6,.I o),(7,.S 12),(8,.I (w64 (c0+1)))]) J 3 (wu [(13,.sl 22),(14,.sl 20),(15,.sl 19)] (ih153 (c1,B0,A0,(w64 (c0+1))) h) Q Q Q Q)))
    refine wo ?_
    refine wI (σ:=(List T8) × Int) (fun st=>(zz145 g_ g_.Name g_.States G Z q0 A0 st.1 [(1,.B 4 0),(2,.B 5 0),(4,.B 6 0),(5,.S 19),(6,.I o),(7,.S 12),(8,.I c0),(9,.B 18 0),(10,.I st.2)])) (fun n st=>z34_l6 N g_ o G Z c0 (z34_l4 N g_ o (z34_l2 N g_ n72) G n84) q0 A0 n st.1 st.2) (r:=r) (fun _=>rfl) ?_ (fun ih=>?_)
    ·intro n86 ih165
     rintro ⟨i1,k1⟩ h
     replace h:z34_l6 N g_ o G Z c0 (z34_l4 N g_ o (z34_l2 N g_ n72) G n84) q0 A0 (n86+1) i1 k1=some r:=h
     unfold z34_l6 at h
     refine wq (wV (zz145 g_ g_.Name g_.States G Z q0 A0 i1 [(1,.B 4 0),(2,.B 5 0),(4,.B 6 0),(5,.S 19),(6,.I o),(7,.S 12),(8,.I c0),(9,.B 18 0),(10,.I k1),(67,.O (decide (k1 < (g_.Timeouts.length:Int))))]) J 5 ?_)
     obtain ⟨K,h⟩|⟨K,h⟩:=oc' h
     ·exact wf K Q (wz rfl (wU (j163 i1 h)))
     refine wt K Q (wi (wq (wo (wq (wN (fun l1 m1 o1=>?_))))))
     have p1:l1 0 (zz40 [(1,.B 4 0)] [(70,.B 4 7)]):=m1 _ _ (wL J)
     have q1:l1 1 ⟨[(70,.B 4 7)],(vV4 0 1 2 3 g_ []),[],[(4,.box (cC4 0 1 2 3 g_) 27)],21,[(71,.S 3)],[],[],21⟩:=m1 _ _ (wL J)
     have s1:l1 2 (zz40 [(10,.I k1)] [(72,.I k1)]):=m1 _ _ (wL J)
     obtain ⟨t1,u1,h⟩:=ob h
     have v1:l1 3 ⟨[(71,.S 3),(72,.I k1)],[(3,.sl rR8 g_.Timeouts)],[],[],21,[(73,.P 21 0)],[(21,.pl (cC8 t1))],[],22⟩:=m1 _ _ (wO Q Q Q (fun _ _ _ _ _ _ _ k=>wj oO8 J u1 Q Q Q Q Q Q Q Q Q (k)) rfl)
     have y1:l1 4 ⟨[(73,.P 21 0)],[(21,.pl (cC8 t1))],[],[],22,[(74,.P 21 2)],[],[],22⟩:=m1 _ _ (wL J)
     have z1:l1 5 ⟨[(74,.P 21 2)],[(21,.pl (cC8 t1))],[],[],22,[(75,.I t1.Else)],[],[],22⟩:=m1 _ _ (wL J)
     have A1:l1 6 (zz73 [(7,.S 12)] [(76,.S 12)]):=m1 _ _ (wL J)
     have B1:l1 7 (zz73 [(8,.I c0)] [(77,.I c0)]):=m1 _ _ (wL J)
     obtain ⟨C1,D1,h⟩:=ob h
     have G1:l1 8 ⟨[(76,.S 12),(77,.I c0)],[],[],[(12,.own (rI .i64) G true)],22,[(78,.P 22 0)],[(22,.el 12 ((c0).toNat * ((rI .i64)).sz))],[],23⟩:=m1 _ _ (wO Q Q Q (fun _ _ _ _ _ _ _ k=>wX J D1 Q Q Q Q Q Q Q Q Q (k)) rfl)
     have H1:l1 9 ⟨[(78,.P 22 0)],[(22,.el 12 ((c0).toNat * ((rI .i64)).sz))],[],[(12,.own (rI .i64) G true)],23,[(79,.I C1)],[],[],23⟩:=m1 _ _ (wO Q Q Q (fun _ _ _ _ _ _ _ k=>wd (oI .i64) J D1 Q Q Q Q Q Q Q Q Q Q (k)) rfl)
     have I1:l1 10 (zz41 [(75,.I t1.Else),(79,.I C1)] [(80,.O (t1.Else==C1))]):=m1 _ _ (wL J)
     refine wD (t:=(zz193 g_ g_.Name g_.States G Z q0 A0 i1 [(1,.B 4 0),(2,.B 5 0),(4,.B 6 0),(5,.S 19),(6,.I o),(7,.S 12),(8,.I c0),(9,.B 18 0),(10,.I k1),(80,.O (t1.Else==C1))])) [0,1,0,7,15,31,0,0,192,448,1023] (.cons (o1 _ _ p1) (.cons (o1 _ _ q1) (.cons (o1 _ _ s1) (.cons (o1 _ _ v1) (.cons (o1 _ _ y1) (.cons (o1 _ _ z1) (.cons (o1 _ _ A1) (.cons (o1 _ _ B1) (.cons (o1 _ _ G1) (.cons (o1 _ _ H1) (.cons (o1 _ _ I1) .nil))))))))))) (by kernel_rfl) (by kernel_rfl) (by kernel_rfl) (by kernel_rfl) ?_
     obtain ⟨K,h⟩|⟨K,h⟩:=oc' h
     ·exact wf K Q (wi (wb (wT (zz193 g_ g_.Name g_.States G Z q0 A0 i1 [(1,.B 4 0),(2,.B 5 0),(4,.B 6 0),(5,.S 19),(6,.I o),(7,.S 12),(8,.I c0),(9,.B 18 0),(10,.I (w64 (k1+1)))]) J 3 (wU (ih165 (i1,(w64 (k1+1))) h)))))
     refine wt K Q (wN (fun L1 M1 O1=>?_))
     have R1:L1 0 (zz41 [(4,.B 6 0)] [(81,.B 6 7)]):=M1 _ _ (wL J)
     have S1:L1 1 ⟨[(81,.B 6 7)],[(0,.sl rS g_.Roles),(1,.sl rR0 g_.Decls)],[],[(6,.box [.s g_.Name,.sl 0,.sl 1,.I g_.States,.I 0,.I 0,.sl 13,.sl 20] 27)],23,[(82,.S 20)],[],[],23⟩:=M1 _ _ (wL J)
     have T1:L1 2 (zz41 [(6,.I o)] [(83,.I o)]):=M1 _ _ (wL J)
     have U1:L1 3 (zz41 [(1,.B 4 0)] [(84,.B 4 7)]):=M1 _ _ (wL J)
     have V1:L1 4 ⟨[(84,.B 4 7)],(vV4 0 1 2 3 g_ []),[],[(4,.box (cC4 0 1 2 3 g_) 27)],23,[(85,.S 3)],[],[],23⟩:=M1 _ _ (wL J)
     have X1:L1 5 (zz41 [(10,.I k1)] [(86,.I k1)]):=M1 _ _ (wL J)
     obtain ⟨Y1,Z1,h⟩:=ob h
     have a2:L1 6 ⟨[(85,.S 3),(86,.I k1)],[(3,.sl rR8 g_.Timeouts)],[],[],23,[(87,.P 23 0)],[(23,.pl (cC8 Y1))],[],24⟩:=M1 _ _ (wO Q Q Q (fun _ _ _ _ _ _ _ k=>wj oO8 J Z1 Q Q Q Q Q Q Q Q Q (k)) rfl)
     have b2:L1 7 (zz119 Y1 [(87,.P 23 0)] [(88,.P 23 1)]):=M1 _ _ (wL J)
     have c2:L1 8 (zz119 Y1 [(88,.P 23 1)] [(89,.I Y1.Ticks)]):=M1 _ _ (wL J)
     have d2:L1 9 (zz81 [(4,.B 6 0)] [(90,.B 6 6)]):=M1 _ _ (wL J)
     have e2:L1 10 ⟨[(90,.B 6 6)],[(0,.sl rS g_.Roles),(1,.sl rR0 g_.Decls)],[],[(6,.box [.s g_.Name,.sl 0,.sl 1,.I g_.States,.I 0,.I 0,.sl 13,.sl 20] 27)],24,[(91,.S 13)],[],[],24⟩:=M1 _ _ (wL J)
     have f2:L1 11 ⟨[(91,.S 13)],[],[],[(13,.own rR2 Z true)],24,[(92,.I (Z.length:Int))],[],[],24⟩:=M1 _ _ (wL J)
     have g2:L1 12 (zz81 [(83,.I o),(89,.I Y1.Ticks),(92,.I (Z.length:Int))] [(93,.a [.I o,.I Y1.Ticks,.I (Z.length:Int)])]):=M1 _ _ (wL J)
     have i2:L1 13 ⟨[(93,.a [.I o,.I Y1.Ticks,.I (Z.length:Int)])],[],[],[],24,[(94,.S 24)],[],[(24,.own rR8 ([(⟨o,Y1.Ticks,(Z.length:Int)⟩:T8)]:List T8) true)],25⟩:=M1 _ _ (wO Q Q Q (fun _ _ _ _ _ _ _ k=>WPr.bs (cs:=[.I o,.I Y1.Ticks,.I (Z.length:Int)]) oO8 J ([(⟨o,Y1.Ticks,(Z.length:Int)⟩:T8)]:List T8) Q Q Q Q Q Q (by kernel_rfl) (by exact (an (an rfl (an Q Q)) rfl)) rfl (k)) rfl)
     obtain ⟨j2,k2,h⟩:=ob h
     have l2:L1 14 ⟨[(82,.S 20),(94,.S 24)],[],[(20,.own rR8 i1 true)],[(24,.own rR8 ([(⟨o,Y1.Ticks,(Z.length:Int)⟩:T8)]:List T8) true)],25,[(95,.S 25)],[],[(20,.gone),(25,.own rR8 j2 true)],26⟩:=M1 _ _ (wO Q Q Q (fun _ _ _ _ _ _ _ k=>WPr.app J k2 (by exact (srcO rfl)) Q Q Q Q Q Q Q Q Q Q (k)) rfl)
     have m2:L1 15 ⟨[(4,.B 6 0)],[],[],[],26,[(96,.B 6 7)],[],[],26⟩:=M1 _ _ (wL J)
     have o2:L1 16 ⟨[(95,.S 25),(96,.B 6 7)],[(0,.sl rS g_.Roles),(1,.sl rR0 g_.Decls)],[(6,.box [.s g_.Name,.sl 0,.sl 1,.I g_.States,.I 0,.I 0,.sl 13,.sl 20] 27)],[(25,.own rR8 j2 true)],26,[],[],[(6,.box [.s g_.Name,.sl 0,.sl 1,.I g_.States,.I 0,.I 0,.sl 13,.sl 25] 27)],26⟩:=M1 _ _ (wL J)
     exact wD (t:=(zz194 g_ g_.Name g_.States G Z q0 A0 j2 [(1,.B 4 0),(2,.B 5 0),(4,.B 6 0),(5,.S 19),(6,.I o),(7,.S 12),(8,.I c0),(9,.B 18 0),(10,.I k1)])) [0,1,0,0,8,0,56,120,248,0,512,1536,4092,8188,16383,32767,65535] (.cons (O1 _ _ R1) (.cons (O1 _ _ S1) (.cons (O1 _ _ T1) (.cons (O1 _ _ U1) (.cons (O1 _ _ V1) (.cons (O1 _ _ X1) (.cons (O1 _ _ a2) (.cons (O1 _ _ b2) (.cons (O1 _ _ c2) (.cons (O1 _ _ d2) (.cons (O1 _ _ e2) (.cons (O1 _ _ f2) (.cons (O1 _ _ g2) (.cons (O1 _ _ i2) (.cons (O1 _ _ l2) (.cons (O1 _ _ m2) (.cons (O1 _ _ o2) .nil))))))))))))))))) (by kernel_rfl) (by kernel_rfl) (by kernel_rfl) (by kernel_rfl) (wb (wT (zz194 g_ g_.Name g_.States G Z q0 A0 j2 [(1,.B 4 0),(2,.B 5 0),(4,.B 6 0),(5,.S 19),(6,.I o),(7,.S 12),(8,.I c0),(9,.B 18 0),(10,.I (w64 (k1+1)))]) J 3 (wu [(20,.sl 25)] (ih165 (j2,(w64 (k1+1))) h) Q Q Q Q)))
    exact wu [(20,.sl 14)] (ih N (a0,0) h) Q Q Q Q
   obtain ⟨K,h⟩|⟨K,h⟩:=oc' h
   ·exact wf K Q (wi (wu [(19,.sl 15)] (j162 b0 h) Q Q Q Q))
   refine wt K Q (wg (xw [3,4,5] (zz118 g_ g_.Name g_.States G Z a0 b0 q0 [(1,.B 4 0),(2,.B 5 0),(4,.B 6 0),(6,.I o),(7,.S 12),(8,.I c0),(9,.B 18 0),(58,.S 15),(60,.I q0.To)]) J 3 (WPr.bs (cs:=[.I q0.To]) (oI .i64) J ([q0.To]:List Int) Q Q Q Q Q Q (by kernel_rfl) (by exact (an Q Q)) rfl ?_)))
   obtain ⟨p2,q2,h⟩:=ob h
   exact WPr.app J q2 (by exact (srcO rfl)) Q Q Q Q Q Q Q Q Q Q (wx ⟨[(1,.B 4 0),(2,.B 5 0),(4,.B 6 0),(5,.S 20),(6,.I o),(7,.S 12),(8,.I c0),(9,.B 18 0)],[(4,.box (cC4 0 1 2 3 g_) 27),(5,.box [.s (str []),.nil,.nil,.I 0,.I 0,.I 0,.nil,.nil] 27),(6,.box [.s g_.Name,.sl 0,.sl 1,.I g_.States,.I 0,.I 0,.sl 13,.sl 14] 27),(12,.own (rI .i64) G true),(13,.own rR2 Z true),(14,.own rR8 a0 true),(18,.box (cC2 q0) 43),(20,.own (rI .i64) p2 true)],(vV4 0 1 2 3 g_ []),21⟩ J 1 (wn (wu [(19,.sl 20)] (j162 p2 h) Q Q Q Q)))
  exact wu [(13,.sl 8),(14,.sl 9),(15,.sl 10)] (ih N (j,l,m,0) h) Q Q Q Q
 exact wu [(8,.nil),(9,.nil),(10,.sl 7)] (ih N (([]:List T2),([]:List T8),([g_.Start]:List Int),0) h) Q Q Q Q
theorem z130_ct (N:Nat) (n_:Int) (r:(List Int)) (h:z130 N n_=some r) :
 Fn Tryz.prog 130 ⟨0,[.I n_],[],[],1,.S 0,[],[(0,.own (rI .u8) r true)]⟩:=by
 refine wF func130 Q Q (fun E F w=>?_)
 unfold z130 at h
 refine wR J 1 Q (wV (zz0 [(0,.I n_),(2,.c .nil),(3,.c (.i .u64 (wk .u64 ((wk .u64 (n_)) * 2))))]) J 4 (wq (wR J 2 Q ?_)))
 refine wC (σ:=Int) (fun st=>(zz0 [(3,.c (.i .u64 st))])) (fun st=>z130_k3 N st=some r) ?_ (fun j1=>?_)
 ·intro d h
  replace h:z130_k3 N d=some r:=h
  unfold z130_k3 at h
  refine wR J 1 Q (wq ?_)
  refine wC (σ:=Int × (List Int)) (fun st=>(zz93 st.2 [(3,.c (.i .u64 st.1)),(4,.S 0)])) (fun st=>z130_k1 st.1 st.2=some r) ?_ (fun j2=>?_)
  ·rintro ⟨e,f⟩ h
   replace h:z130_k1 e f=some r:=h
   unfold z130_k1 at h
   refine wq (wg (xw [3,4,5] (zz93 f [(27,.S 0),(29,.c (.i .u8 (wk .u8 (e))))]) J 3 (WPr.bs (cs:=[.i .u8 (wk .u8 (e))]) (oI .u8) J ([(wk .u8 (e))]:List Int) Q Q Q Q Q Q (by kernel_rfl) (by exact (an Q Q)) rfl ?_)))
   obtain ⟨x5,g,h⟩:=ob h
   refine WPr.app J g (by exact (srcO rfl)) Q Q Q Q Q Q Q Q Q Q (wx ⟨[(2,.S 2)],[(2,.own (rI .u8) x5 true)],[],3⟩ J 1 (wn ?_))
   cases h
   exact we J func130 [(0,.sl 2)] Q Q Q Q
  refine wo ?_
  refine wI (σ:=Int × (List Int)) (fun st=>(zz93 st.2 [(3,.c (.i .u64 st.1)),(4,.S 0)])) (fun n st=>z130_l2 n st.1 st.2) (r:=r) (fun _=>rfl) ?_ (fun ih=>?_)
  ·intro n2 ih4
   rintro ⟨j,k⟩ h
   replace h:z130_l2 (n2+1) j k=some r:=h
   unfold z130_l2 at h
   refine wq (wR J 2 Q ?_)
   obtain ⟨K,h⟩|⟨K,h⟩:=oc' h
   ·exact wf K Q (wz rfl (wU (j2 (j,k) h)))
   refine wt K Q (wi (wo (wq (wg (xw [5,6,7] (zz93 k [(3,.c (.i .u64 j)),(18,.S 0),(22,.c (.i .u8 (wk .u8 ((wk .u8 ((j.tmod 128)))+128))))]) J 5 (WPr.bs (cs:=[.i .u8 (wk .u8 ((wk .u8 ((j.tmod 128)))+128))]) (oI .u8) J ([(wk .u8 ((wk .u8 ((j.tmod 128)))+128))]:List Int) Q Q Q Q Q Q (by kernel_rfl) (by exact (an Q Q)) rfl ?_))))))
   obtain ⟨l,m,h⟩:=ob h
   exact WPr.app J m (by exact (srcO rfl)) Q Q Q Q Q Q Q Q Q Q (wx ⟨[(3,.c (.i .u64 j)),(4,.S 2)],[(2,.own (rI .u8) l true)],[],3⟩ J 1 (wn (wT ⟨[(3,.c (.i .u64 (wk .u64 (j.tdiv 128)))),(4,.S 2)],[(2,.own (rI .u8) l true)],[],3⟩ J 3 (wb (wu [(0,.sl 2)] (ih4 ((wk .u64 (j.tdiv 128)),l) h) Q Q Q Q)))))
  exact wu [(0,.nil)] (ih N (d,([]:List Int)) h) Q Q Q Q
 obtain ⟨K,h⟩|⟨K,h⟩:=oc h
 ·exact wt K Q (wT (zz0 [(2,.c .nil),(3,.c (.i .u64 (wk .u64 ((wk .u64 ((wk .u64 ((w64 (0-(w64 (n_+1)))))) * 2))+1))))]) J 7 (wU (j1 (wk .u64 ((wk .u64 ((wk .u64 ((w64 (0-(w64 (n_+1)))))) * 2))+1)) h)))
 exact wf K Q (wi (wU (j1 (wk .u64 ((wk .u64 (n_)) * 2)) h)))
theorem z129_ct (N:Nat) (x_:(List Int)) (r:(List Int)) (h:z129 N x_=some r) :
 Fn Tryz.prog 129 ⟨1,[.S 0],[(0,.sl (rI .u8) x_)],[],2,.S 1,[],[(1,.own (rI .u8) r true)]⟩:=by
 refine wF func129 Q Q (fun E F w=>?_)
 unfold z129 at h
 refine wR J 1 Q (wq (wg (xw [2,3,4,5] (zz30 x_ [(0,.S 0),(4,.I (x_.length:Int))]) J 2 ?_)))
 obtain ⟨x1,c,h⟩:=ob h
 refine wc (z130_ct N (x_.length:Int) _ c) [] [] Q Q Q Q Q Q Q Q (.inl rfl) rfl (xw [4,5] ⟨[(5,.S 1),(6,.S 0)],[(1,.own (rI .u8) x1 true)],[(0,.sl (rI .u8) x_)],2⟩ J 1 ?_)
 obtain ⟨x2,d,h⟩:=ob h
 refine WPr.app J d (by exact (srcI rfl)) Q Q Q Q Q Q Q Q Q Q (wx ⟨[(2,.S 2)],[(2,.own (rI .u8) x2 true)],[(0,.sl (rI .u8) x_)],3⟩ J 1 (wn ?_))
 cases h
 exact we J func129 [(1,.sl 2)] Q Q Q Q
theorem z87_ct (N:Nat) (s_:ByteArray) (r:(List Int)) (h:z87 N s_=some r) :
 Fn Tryz.prog 87 ⟨0,[.c (.s s_)],[],[],1,.S 0,[],[(0,.own (rI .u8) r true)]⟩:=by
 refine wF func87 Q Q (fun E F w=>?_)
 unfold z87 at h
 refine wR J 1 Q (wq (wg (ws J 1 Q (WPr.cvb (el:=5) Q Q Q Q (by kernel_rfl) (by kernel_rfl) (by kernel_rfl) Q Q (xw [2,3] (zz93 (bytesL s_) [(4,.S 0)]) J 0 ?_)))))
 obtain ⟨x1,d,h⟩:=ob h
 refine wc (z129_ct N (bytesL s_) _ d) [(0,.sl 0)] [0] Q Q Q Q Q Q Q Q (.inr ⟨rfl,⟨(rI_flat _),trivial⟩⟩) rfl (wx ⟨[(2,.S 1)],[(1,.own (rI .u8) x1 true)],[],2⟩ J 1 (wn ?_))
 cases h
 exact we J func87 [(0,.sl 1)] Q Q Q Q
theorem z88_ct (N:Nat) (l_:(List Int)) (r:(List Int)) (h:z88 N l_=some r) :
 Fn Tryz.prog 88 ⟨1,[.S 0],[(0,.sl (rI .i64) l_)],[],2,.S 1,[],[(1,.own (rI .u8) r true)]⟩:=by
 refine wF func88 Q Q (fun E F w=>?_)
 unfold z88 at h
 refine wR J 1 Q (wR J 1 Q (wq (wV (zz15 l_ [(0,.S 0),(2,.c .nil),(3,.c .nil),(4,.I 0)]) J 1 ?_)))
 refine wC (σ:=(List Int)) (fun st=>(zz120 st l_ [(3,.S 1)])) (fun st=>z88_k1 st=some r) ?_ (fun j1=>?_)
 ·intro d h
  replace h:z88_k1 d=some r:=h
  unfold z88_k1 at h
  refine wR J 2 Q ?_
  cases h
  exact we J func88 [(1,.sl 1)] Q Q Q Q
 refine wo ?_
 refine wI (σ:=(List Int) × Int) (fun st=>(zz120 st.1 l_ [(0,.S 0),(3,.S 1),(4,.I st.2)])) (fun n st=>z88_l2 N l_ n st.1 st.2) (r:=r) (fun _=>rfl) ?_ (fun ih=>?_)
 ·intro n2 ih3
  rintro ⟨e,f⟩ h
  replace h:z88_l2 N l_ (n2+1) e f=some r:=h
  unfold z88_l2 at h
  refine wq (wV (zz120 e l_ [(0,.S 0),(3,.S 1),(4,.I f),(8,.O (decide (f < (l_.length:Int))))]) J 4 ?_)
  obtain ⟨K,h⟩|⟨K,h⟩:=oc' h
  ·exact wf K Q (wz rfl (wU (j1 e h)))
  refine wt K Q (wi (wq (wo (wg (xw [3,4,5,6,7] (zz120 e l_ [(0,.S 0),(4,.I f),(11,.S 1),(12,.S 0),(13,.I f)]) J 3 ?_)))))
  obtain ⟨g,i,h⟩:=ob h
  refine wj (oI .i64) J i Q Q Q Q Q Q Q Q Q (ws J 1 Q ?_)
  obtain ⟨j,k,h⟩:=ob h
  refine wc (z130_ct N g _ k) [] [] Q Q Q Q Q Q Q Q (.inl rfl) rfl (xw [6,7] ⟨[(0,.S 0),(4,.I f),(11,.S 1),(16,.S 3)],[(1,.own (rI .u8) e true),(3,.own (rI .u8) j true)],[(0,.sl (rI .i64) l_)],4⟩ J 0 ?_)
  obtain ⟨l,m,h⟩:=ob h
  exact WPr.app J m (by exact (srcO rfl)) Q Q Q Q Q Q Q Q Q Q (wx ⟨[(0,.S 0),(3,.S 4),(4,.I f)],[(4,.own (rI .u8) l true)],[(0,.sl (rI .i64) l_)],5⟩ J 1 (wn (wb (wT ⟨[(0,.S 0),(3,.S 4),(4,.I (w64 (f+1)))],[(4,.own (rI .u8) l true)],[(0,.sl (rI .i64) l_)],5⟩ J 3 (wu [(1,.sl 4)] (ih3 (l,(w64 (f+1))) h) Q Q Q Q)))))
 exact wu [(1,.nil)] (ih N (([]:List Int),0) h) Q Q Q Q
theorem z89_ct (N:Nat) (d_:T0) (r:(List Int)) (h:z89 N d_=some r) :
 Fn Tryz.prog 89 ⟨3,[.a (cC0 0 1 2 d_)],(vV0 0 1 2 d_ []),[],4,.S 3,[],[(3,.own (rI .u8) r true)]⟩:=by
 refine wF func89 Q Q (fun E F w=>?_)
 unfold z89 at h
 refine wR J 2 Q (wq (wN (fun A1 d e=>?_)))
 have f:A1 0 ⟨[(1,.B 3 0)],[],[],[],4,[(9,.B 3 0)],[],[],4⟩:=d _ _ (wL J)
 have g:A1 1 ⟨[(9,.B 3 0)],(vV0 0 1 2 d_ []),[],[(3,.box (cC0 0 1 2 d_) 94)],4,[(10,.c (.s d_.Name))],[],[],4⟩:=d _ _ (wL J)
 obtain ⟨x3,i,h⟩:=ob h
 have j:A1 2 ⟨[(10,.c (.s d_.Name))],[],[],[],4,[(11,.S 4)],[],[(4,.own (rI .u8) x3 true)],5⟩:=d _ _ (wO Q Q Q (fun _ _ _ _ _ _ _ k=>wc (z87_ct N d_.Name _ i) [] [] Q Q Q Q Q Q Q Q (.inl rfl) rfl (k)) rfl)
 have l:A1 3 (zz35 [(1,.B 3 0)] [(12,.B 3 1)]):=d _ _ (wL J)
 have m:A1 4 ⟨[(12,.B 3 1)],(vV0 0 1 2 d_ []),[],[(3,.box (cC0 0 1 2 d_) 94)],5,[(13,.S 0)],[],[],5⟩:=d _ _ (wL J)
 have o:A1 5 ⟨[(13,.S 0)],[(0,.sl rR3 d_.Fields)],[],[],5,[(14,.I (d_.Fields.length:Int))],[],[],5⟩:=d _ _ (wL J)
 have p:A1 6 ⟨[(14,.I (d_.Fields.length:Int))],[],[],[],5,[(15,.S 5)],[],[(5,.own (rI .i64) ([(d_.Fields.length:Int)]:List Int) true)],6⟩:=d _ _ (wO Q Q Q (fun _ _ _ _ _ _ _ k=>WPr.bs (cs:=[.I (d_.Fields.length:Int)]) (oI .i64) J ([(d_.Fields.length:Int)]:List Int) Q Q Q Q Q Q (by kernel_rfl) (by exact (an Q Q)) rfl (k)) rfl)
 obtain ⟨x9,q,h⟩:=ob h
 have u:A1 7 ⟨[(15,.S 5)],[],[],[(5,.own (rI .i64) ([(d_.Fields.length:Int)]:List Int) true)],6,[(16,.S 6)],[],[(6,.own (rI .u8) x9 true)],7⟩:=d _ _ (wO Q Q Q (fun _ _ _ _ _ _ _ k=>wc (z88_ct N ([(d_.Fields.length:Int)]:List Int) _ q) [(0,.sl 5)] [5] Q Q Q Q Q Q Q Q (.inr ⟨rfl,⟨(rI_flat _),trivial⟩⟩) rfl (k)) rfl)
 obtain ⟨v,x,h⟩:=ob h
 have y:A1 8 ⟨[(11,.S 4),(16,.S 6)],[],[(4,.own (rI .u8) x3 true)],[(6,.own (rI .u8) x9 true)],7,[(17,.S 7)],[],[(4,.gone),(7,.own (rI .u8) v true)],8⟩:=d _ _ (wO Q Q Q (fun _ _ _ _ _ _ _ k=>WPr.app J x (by exact (srcO rfl)) Q Q Q Q Q Q Q Q Q Q (k)) rfl)
 have z:A1 9 (zz12 [(17,.S 7)] [(3,.S 7)]):=d _ _ (wL J)
 refine wD (t:=⟨[(1,.B 3 0),(2,.c .nil),(3,.S 7)],[(3,.box (cC0 0 1 2 d_) 94),(7,.own (rI .u8) v true)],(vV0 0 1 2 d_ []),8⟩) [0,1,3,0,8,24,56,127,255,511] (.cons (e _ _ f) (.cons (e _ _ g) (.cons (e _ _ j) (.cons (e _ _ l) (.cons (e _ _ m) (.cons (e _ _ o) (.cons (e _ _ p) (.cons (e _ _ u) (.cons (e _ _ y) (.cons (e _ _ z) .nil)))))))))) (by kernel_rfl) (by kernel_rfl) (by kernel_rfl) (by kernel_rfl) (wq (wV ⟨[(1,.B 3 0),(2,.c .nil),(3,.S 7),(4,.I 0)],[(3,.box (cC0 0 1 2 d_) 94),(7,.own (rI .u8) v true)],(vV0 0 1 2 d_ []),8⟩ J 1 ?_))
 refine wC (σ:=(List Int)) (fun st=>(zz94 d_ st [(1,.B 3 0),(3,.S 8)])) (fun st=>z89_k5 N d_ st=some r) ?_ (fun j1=>?_)
 ·intro A h
  replace h:z89_k5 N d_ A=some r:=h
  unfold z89_k5 at h
  refine wq (wg (xw [7,8,9,10] (zz94 d_ A [(1,.B 3 0),(47,.S 8),(49,.I d_.First),(53,.I (d_.Guard.Diffs.length:Int))]) J 7 (WPr.bs (cs:=[.I d_.First,.I (d_.Guard.Diffs.length:Int)]) (oI .i64) J ([d_.First,(d_.Guard.Diffs.length:Int)]:List Int) Q Q Q Q Q Q (by kernel_rfl) (by exact (an rfl (an Q Q))) rfl ?_)))
  obtain ⟨D,G,h⟩:=ob h
  refine wc (z88_ct N ([d_.First,(d_.Guard.Diffs.length:Int)]:List Int) _ G) [(0,.sl 9)] [9] Q Q Q Q Q Q Q Q (.inr ⟨rfl,⟨(rI_flat _),trivial⟩⟩) rfl (xw [9,10] ⟨[(1,.B 3 0),(47,.S 8),(55,.S 10)],[(3,.box (cC0 0 1 2 d_) 94),(8,.own (rI .u8) A true),(10,.own (rI .u8) D true)],(vV0 0 1 2 d_ []),11⟩ J 0 ?_)
  obtain ⟨H,R,h⟩:=ob h
  refine WPr.app J R (by exact (srcO rfl)) Q Q Q Q Q Q Q Q Q Q (wx ⟨[(1,.B 3 0),(3,.S 11)],[(3,.box (cC0 0 1 2 d_) 94),(11,.own (rI .u8) H true)],(vV0 0 1 2 d_ []),12⟩ J 1 (wn (wq (wR J 1 Q ?_))))
  refine wC (σ:=(List Int)) (fun st=>(zz95 d_ st [(1,.B 3 0),(3,.S 12)])) (fun st=>z89_k3 N d_ st=some r) ?_ (fun j3=>?_)
  ·intro T h
   replace h:z89_k3 N d_ T=some r:=h
   unfold z89_k3 at h
   refine wq (wg (xw [5,6,7,8] (zz95 d_ T [(1,.B 3 0),(81,.S 12),(85,.I (d_.Guard.Equals.length:Int))]) J 5 (WPr.bs (cs:=[.I (d_.Guard.Equals.length:Int)]) (oI .i64) J ([(d_.Guard.Equals.length:Int)]:List Int) Q Q Q Q Q Q (by kernel_rfl) (by exact (an Q Q)) rfl ?_)))
   obtain ⟨U,Z,h⟩:=ob h
   refine wc (z88_ct N ([(d_.Guard.Equals.length:Int)]:List Int) _ Z) [(0,.sl 13)] [13] Q Q Q Q Q Q Q Q (.inr ⟨rfl,⟨(rI_flat _),trivial⟩⟩) rfl (xw [7,8] ⟨[(1,.B 3 0),(81,.S 12),(87,.S 14)],[(3,.box (cC0 0 1 2 d_) 94),(12,.own (rI .u8) T true),(14,.own (rI .u8) U true)],(vV0 0 1 2 d_ []),15⟩ J 0 ?_)
   obtain ⟨a0,b0,h⟩:=ob h
   refine WPr.app J b0 (by exact (srcO rfl)) Q Q Q Q Q Q Q Q Q Q (wx (zz147 d_ a0 [(1,.B 3 0),(3,.S 15)]) J 1 (wn (wq (wR J 1 Q ?_))))
   refine wC (σ:=(List Int)) (fun st=>⟨[(3,.S 16)],[(16,.own (rI .u8) st true)],(vV0 0 1 2 d_ []),17⟩) (fun st=>z89_k1 st=some r) ?_ (fun j5=>?_)
   ·intro c0 h
    replace h:z89_k1 c0=some r:=h
    unfold z89_k1 at h
    refine wR J 2 Q ?_
    cases h
    exact we J func89 [(3,.sl 16)] Q Q Q Q
   refine wo ?_
   refine wI (σ:=(List Int) × Int) (fun st=>⟨[(1,.B 3 0),(3,.S 16),(8,.I st.2)],[(3,.box (cC0 0 1 2 d_) 94),(16,.own (rI .u8) st.1 true)],(vV0 0 1 2 d_ []),17⟩) (fun n st=>z89_l2 N d_ n st.1 st.2) (r:=r) (fun _=>rfl) ?_ (fun ih=>?_)
   ·intro n4 ih7
    rintro ⟨d0,e0⟩ h
    replace h:z89_l2 N d_ (n4+1) d0 e0=some r:=h
    unfold z89_l2 at h
    refine wq (wV ⟨[(1,.B 3 0),(3,.S 16),(8,.I e0),(94,.O (decide (e0 < (d_.Guard.Equals.length:Int))))],[(3,.box (cC0 0 1 2 d_) 94),(16,.own (rI .u8) d0 true)],(vV0 0 1 2 d_ []),17⟩ J 6 ?_)
    obtain ⟨K,h⟩|⟨K,h⟩:=oc' h
    ·exact wf K Q (wz rfl (wU (j5 d0 h)))
    refine wt K Q (wi (wq (wo (wN (fun f0 g0 i0=>?_)))))
    have j0:f0 0 (zz57 [(3,.S 16)] [(97,.S 16)]):=g0 _ _ (wL J)
    have k0:f0 1 (zz57 [(1,.B 3 0)] [(98,.B 3 3)]):=g0 _ _ (wL J)
    have l0:f0 2 (zz57 [(98,.B 3 3)] [(99,.B 3 4)]):=g0 _ _ (wL J)
    have m0:f0 3 ⟨[(99,.B 3 4)],(vV0 0 1 2 d_ []),[],[(3,.box (cC0 0 1 2 d_) 94)],17,[(100,.S 2)],[],[],17⟩:=g0 _ _ (wL J)
    have o0:f0 4 (zz57 [(8,.I e0)] [(101,.I e0)]):=g0 _ _ (wL J)
    obtain ⟨p0,q0,h⟩:=ob h
    have s0:f0 5 ⟨[(100,.S 2),(101,.I e0)],[(2,.sl (rP (rI .i64) (rI .i64)) d_.Guard.Equals)],[],[],17,[(102,.P 17 0)],[(17,.pl [.I p0.1,.I p0.2])],[],18⟩:=g0 _ _ (wO Q Q Q (fun _ _ _ _ _ _ _ k=>wj (oP (oI .i64) (oI .i64)) J q0 Q Q Q Q Q Q Q Q Q (k)) rfl)
    have t0:f0 6 ⟨[(102,.P 17 0)],[(17,.pl [.I p0.1,.I p0.2])],[],[],18,[(103,.P 17 0)],[],[],18⟩:=g0 _ _ (wO Q Q Q (fun _ _ _ _ _ _ _ k=>WPr.axp (len:=2) (el:=3) (es:=1) 0 Q Q Q Q Q (by kernel_rfl) (by kernel_rfl) Q Q (Or.inl ⟨_,rfl⟩) Q Q (k)) rfl)
    have u0:f0 7 ⟨[(103,.P 17 0)],[(17,.pl [.I p0.1,.I p0.2])],[],[],18,[(104,.I p0.1)],[],[],18⟩:=g0 _ _ (wL J)
    have v0:f0 8 (zz111 [(1,.B 3 0)] [(105,.B 3 3)]):=g0 _ _ (wL J)
    have x0:f0 9 (zz111 [(105,.B 3 3)] [(106,.B 3 4)]):=g0 _ _ (wL J)
    have y0:f0 10 ⟨[(106,.B 3 4)],(vV0 0 1 2 d_ []),[],[(3,.box (cC0 0 1 2 d_) 94)],18,[(107,.S 2)],[],[],18⟩:=g0 _ _ (wL J)
    have z0:f0 11 (zz111 [(8,.I e0)] [(108,.I e0)]):=g0 _ _ (wL J)
    obtain ⟨A0,B0,h⟩:=ob h
    have C0:f0 12 ⟨[(107,.S 2),(108,.I e0)],[(2,.sl (rP (rI .i64) (rI .i64)) d_.Guard.Equals)],[],[],18,[(109,.P 18 0)],[(18,.pl [.I A0.1,.I A0.2])],[],19⟩:=g0 _ _ (wO Q Q Q (fun _ _ _ _ _ _ _ k=>wj (oP (oI .i64) (oI .i64)) J B0 Q Q Q Q Q Q Q Q Q (k)) rfl)
    have D0:f0 13 ⟨[(109,.P 18 0)],[(18,.pl [.I A0.1,.I A0.2])],[],[],19,[(110,.P 18 1)],[],[],19⟩:=g0 _ _ (wO Q Q Q (fun _ _ _ _ _ _ _ k=>WPr.axp (len:=2) (el:=3) (es:=1) 1 Q Q Q Q Q (by kernel_rfl) (by kernel_rfl) Q Q (Or.inl ⟨_,rfl⟩) Q Q (k)) rfl)
    have G0:f0 14 ⟨[(110,.P 18 1)],[(18,.pl [.I A0.1,.I A0.2])],[],[],19,[(111,.I A0.2)],[],[],19⟩:=g0 _ _ (wL J)
    have H0:f0 15 ⟨[(104,.I p0.1),(111,.I A0.2)],[],[],[],19,[(112,.S 19)],[],[(19,.own (rI .i64) ([p0.1,A0.2]:List Int) true)],20⟩:=g0 _ _ (wO Q Q Q (fun _ _ _ _ _ _ _ k=>WPr.bs (cs:=[.I p0.1,.I A0.2]) (oI .i64) J ([p0.1,A0.2]:List Int) Q Q Q Q Q Q (by kernel_rfl) (by exact (an rfl (an Q Q))) rfl (k)) rfl)
    obtain ⟨I0,L0,h⟩:=ob h
    have M0:f0 16 ⟨[(112,.S 19)],[],[],[(19,.own (rI .i64) ([p0.1,A0.2]:List Int) true)],20,[(113,.S 20)],[],[(20,.own (rI .u8) I0 true)],21⟩:=g0 _ _ (wO Q Q Q (fun _ _ _ _ _ _ _ k=>wc (z88_ct N ([p0.1,A0.2]:List Int) _ L0) [(0,.sl 19)] [19] Q Q Q Q Q Q Q Q (.inr ⟨rfl,⟨(rI_flat _),trivial⟩⟩) rfl (k)) rfl)
    obtain ⟨O0,R0,h⟩:=ob h
    have S0:f0 17 ⟨[(97,.S 16),(113,.S 20)],[],[(16,.own (rI .u8) d0 true)],[(20,.own (rI .u8) I0 true)],21,[(114,.S 21)],[],[(16,.gone),(21,.own (rI .u8) O0 true)],22⟩:=g0 _ _ (wO Q Q Q (fun _ _ _ _ _ _ _ k=>WPr.app J R0 (by exact (srcO rfl)) Q Q Q Q Q Q Q Q Q Q (k)) rfl)
    have T0:f0 18 (zz73 [(114,.S 21)] [(3,.S 21)]):=g0 _ _ (wL J)
    exact wD (t:=⟨[(1,.B 3 0),(3,.S 21),(8,.I e0)],[(3,.box (cC0 0 1 2 d_) 94),(21,.own (rI .u8) O0 true)],(vV0 0 1 2 d_ []),22⟩) [0,0,2,6,0,30,62,126,0,256,768,0,3840,7936,16128,32766,65534,131071,262143] (.cons (i0 _ _ j0) (.cons (i0 _ _ k0) (.cons (i0 _ _ l0) (.cons (i0 _ _ m0) (.cons (i0 _ _ o0) (.cons (i0 _ _ s0) (.cons (i0 _ _ t0) (.cons (i0 _ _ u0) (.cons (i0 _ _ v0) (.cons (i0 _ _ x0) (.cons (i0 _ _ y0) (.cons (i0 _ _ z0) (.cons (i0 _ _ C0) (.cons (i0 _ _ D0) (.cons (i0 _ _ G0) (.cons (i0 _ _ H0) (.cons (i0 _ _ M0) (.cons (i0 _ _ S0) (.cons (i0 _ _ T0) .nil))))))))))))))))))) (by kernel_rfl) (by kernel_rfl) (by kernel_rfl) (by kernel_rfl) (wb (wT ⟨[(1,.B 3 0),(3,.S 21),(8,.I (w64 (e0+1)))],[(3,.box (cC0 0 1 2 d_) 94),(21,.own (rI .u8) O0 true)],(vV0 0 1 2 d_ []),22⟩ J 3 (wu [(16,.sl 21)] (ih7 (O0,(w64 (e0+1))) h) Q Q Q Q)))
   exact wu [(16,.sl 15)] (ih N (a0,0) h) Q Q Q Q
  refine wo ?_
  refine wI (σ:=(List Int) × Int) (fun st=>(zz95 d_ st.1 [(1,.B 3 0),(3,.S 12),(6,.I st.2)])) (fun n st=>z89_l4 N d_ n st.1 st.2) (r:=r) (fun _=>rfl) ?_ (fun ih=>?_)
  ·intro n5 ih8
   rintro ⟨U0,V0⟩ h
   replace h:z89_l4 N d_ (n5+1) U0 V0=some r:=h
   unfold z89_l4 at h
   refine wq (wV (zz95 d_ U0 [(1,.B 3 0),(3,.S 12),(6,.I V0),(62,.O (decide (V0 < (d_.Guard.Diffs.length:Int))))]) J 6 ?_)
   obtain ⟨K,h⟩|⟨K,h⟩:=oc' h
   ·exact wf K Q (wz rfl (wU (j3 U0 h)))
   refine wt K Q (wi (wq (wo (wq (wg (xw [4,5,6,7] (zz95 d_ U0 [(1,.B 3 0),(3,.S 12),(6,.I V0),(67,.S 1),(68,.I V0)]) J 4 ?_))))))
   obtain ⟨X0,Y0,h⟩:=ob h
   refine wj oO1 J Y0 Q Q Q Q Q Q Q Q Q (wx ⟨[(1,.B 3 0),(3,.S 12),(6,.I V0),(7,.B 14 0)],[(3,.box (cC0 0 1 2 d_) 94),(12,.own (rI .u8) U0 true),(14,.box (cC1 X0) 144)],(vV0 0 1 2 d_ []),15⟩ J 3 (wn (wg (xw [7,8,9,10] ⟨[(1,.B 3 0),(6,.I V0),(71,.S 12),(73,.I X0.X),(75,.I X0.Y),(77,.I X0.C)],[(3,.box (cC0 0 1 2 d_) 94),(12,.own (rI .u8) U0 true)],(vV0 0 1 2 d_ []),15⟩ J 7 (WPr.bs (cs:=(cC1 X0)) (oI .i64) J ([X0.X,X0.Y,X0.C]:List Int) Q Q Q Q Q Q (by kernel_rfl) (by exact (an rfl (an rfl (an Q Q)))) rfl ?_)))))
   obtain ⟨Z0,a1,h⟩:=ob h
   refine wc (z88_ct N ([X0.X,X0.Y,X0.C]:List Int) _ a1) [(0,.sl 15)] [15] Q Q Q Q Q Q Q Q (.inr ⟨rfl,⟨(rI_flat _),trivial⟩⟩) rfl (xw [9,10] ⟨[(1,.B 3 0),(6,.I V0),(71,.S 12),(79,.S 16)],[(3,.box (cC0 0 1 2 d_) 94),(12,.own (rI .u8) U0 true),(16,.own (rI .u8) Z0 true)],(vV0 0 1 2 d_ []),17⟩ J 0 ?_)
   obtain ⟨b1,c1,h⟩:=ob h
   exact WPr.app J c1 (by exact (srcO rfl)) Q Q Q Q Q Q Q Q Q Q (wx ⟨[(1,.B 3 0),(3,.S 17),(6,.I V0)],[(3,.box (cC0 0 1 2 d_) 94),(17,.own (rI .u8) b1 true)],(vV0 0 1 2 d_ []),18⟩ J 1 (wn (wb (wT ⟨[(1,.B 3 0),(3,.S 17),(6,.I (w64 (V0+1)))],[(3,.box (cC0 0 1 2 d_) 94),(17,.own (rI .u8) b1 true)],(vV0 0 1 2 d_ []),18⟩ J 3 (wu [(12,.sl 17)] (ih8 (b1,(w64 (V0+1))) h) Q Q Q Q)))))
  exact wu [(12,.sl 11)] (ih N (H,0) h) Q Q Q Q
 refine wo ?_
 refine wI (σ:=(List Int) × Int) (fun st=>(zz94 d_ st.1 [(1,.B 3 0),(3,.S 8),(4,.I st.2)])) (fun n st=>z89_l6 N d_ n st.1 st.2) (r:=r) (fun _=>rfl) ?_ (fun ih=>?_)
 ·intro n6 ih9
  rintro ⟨d1,e1⟩ h
  replace h:z89_l6 N d_ (n6+1) d1 e1=some r:=h
  unfold z89_l6 at h
  refine wq (wV (zz94 d_ d1 [(1,.B 3 0),(3,.S 8),(4,.I e1),(22,.O (decide (e1 < (d_.Fields.length:Int))))]) J 5 ?_)
  obtain ⟨K,h⟩|⟨K,h⟩:=oc' h
  ·exact wf K Q (wz rfl (wU (j1 d1 h)))
  refine wt K Q (wi (wq (wo (wq (wg (xw [3,4,5,6] (zz94 d_ d1 [(1,.B 3 0),(3,.S 8),(4,.I e1),(26,.S 0),(27,.I e1)]) J 3 ?_))))))
  obtain ⟨f1,g1,h⟩:=ob h
  refine wj oO3 J g1 Q Q Q Q Q Q Q Q Q (wx ⟨[(1,.B 3 0),(3,.S 8),(4,.I e1),(5,.B 10 0)],[(3,.box (cC0 0 1 2 d_) 94),(8,.own (rI .u8) d1 true),(10,.box (cC3 f1) 141)],(vV0 0 1 2 d_ []),11⟩ J 3 (wn (wN (fun i1 k1 l1=>?_))))
  have m1:i1 0 (zz25 [(3,.S 8)] [(30,.S 8)]):=k1 _ _ (wL J)
  have o1:i1 1 (zz25 [(5,.B 10 0)] [(31,.B 10 0)]):=k1 _ _ (wL J)
  have p1:i1 2 ⟨[(31,.B 10 0)],[],[],[(10,.box (cC3 f1) 141)],11,[(32,.c (.s f1.Name))],[],[],11⟩:=k1 _ _ (wL J)
  obtain ⟨q1,s1,h⟩:=ob h
  have t1:i1 3 ⟨[(32,.c (.s f1.Name))],[],[],[],11,[(33,.S 11)],[],[(11,.own (rI .u8) q1 true)],12⟩:=k1 _ _ (wO Q Q Q (fun _ _ _ _ _ _ _ k=>wc (z87_ct N f1.Name _ s1) [] [] Q Q Q Q Q Q Q Q (.inl rfl) rfl (k)) rfl)
  obtain ⟨u1,v1,h⟩:=ob h
  have x1:i1 4 ⟨[(30,.S 8),(33,.S 11)],[],[(8,.own (rI .u8) d1 true)],[(11,.own (rI .u8) q1 true)],12,[(34,.S 12)],[],[(8,.gone),(12,.own (rI .u8) u1 true)],13⟩:=k1 _ _ (wO Q Q Q (fun _ _ _ _ _ _ _ k=>WPr.app J v1 (by exact (srcO rfl)) Q Q Q Q Q Q Q Q Q Q (k)) rfl)
  have y1:i1 5 (zz36 [(5,.B 10 0)] [(35,.B 10 1)]):=k1 _ _ (wL J)
  have z1:i1 6 (zz36 [(35,.B 10 1)] [(36,.B 10 1)]):=k1 _ _ (wL J)
  have B1:i1 7 (zz148 f1 [(36,.B 10 1)] [(37,.I f1.Sort'.Kind)]):=k1 _ _ (wL J)
  have C1:i1 8 (zz36 [(5,.B 10 0)] [(38,.B 10 1)]):=k1 _ _ (wL J)
  have D1:i1 9 (zz36 [(38,.B 10 1)] [(39,.B 10 2)]):=k1 _ _ (wL J)
  have G1:i1 10 (zz148 f1 [(39,.B 10 2)] [(40,.I f1.Sort'.Lo)]):=k1 _ _ (wL J)
  have H1:i1 11 (zz36 [(5,.B 10 0)] [(41,.B 10 1)]):=k1 _ _ (wL J)
  have I1:i1 12 (zz36 [(41,.B 10 1)] [(42,.B 10 3)]):=k1 _ _ (wL J)
  have L1:i1 13 (zz148 f1 [(42,.B 10 3)] [(43,.I f1.Sort'.Hi)]):=k1 _ _ (wL J)
  have M1:i1 14 ⟨[(37,.I f1.Sort'.Kind),(40,.I f1.Sort'.Lo),(43,.I f1.Sort'.Hi)],[],[],[],13,[(44,.S 13)],[],[(13,.own (rI .i64) ([f1.Sort'.Kind,f1.Sort'.Lo,f1.Sort'.Hi]:List Int) true)],14⟩:=k1 _ _ (wO Q Q Q (fun _ _ _ _ _ _ _ k=>WPr.bs (cs:=(cC7 f1.Sort')) (oI .i64) J ([f1.Sort'.Kind,f1.Sort'.Lo,f1.Sort'.Hi]:List Int) Q Q Q Q Q Q (by kernel_rfl) (by exact (an rfl (an rfl (an Q Q)))) rfl (k)) rfl)
  obtain ⟨O1,R1,h⟩:=ob h
  have S1:i1 15 ⟨[(44,.S 13)],[],[],[(13,.own (rI .i64) ([f1.Sort'.Kind,f1.Sort'.Lo,f1.Sort'.Hi]:List Int) true)],14,[(45,.S 14)],[],[(14,.own (rI .u8) O1 true)],15⟩:=k1 _ _ (wO Q Q Q (fun _ _ _ _ _ _ _ k=>wc (z88_ct N ([f1.Sort'.Kind,f1.Sort'.Lo,f1.Sort'.Hi]:List Int) _ R1) [(0,.sl 13)] [13] Q Q Q Q Q Q Q Q (.inr ⟨rfl,⟨(rI_flat _),trivial⟩⟩) rfl (k)) rfl)
  obtain ⟨T1,U1,h⟩:=ob h
  have V1:i1 16 ⟨[(34,.S 12),(45,.S 14)],[],[(12,.own (rI .u8) u1 true)],[(14,.own (rI .u8) O1 true)],15,[(46,.S 15)],[],[(12,.gone),(15,.own (rI .u8) T1 true)],16⟩:=k1 _ _ (wO Q Q Q (fun _ _ _ _ _ _ _ k=>WPr.app J U1 (by exact (srcO rfl)) Q Q Q Q Q Q Q Q Q Q (k)) rfl)
  have X1:i1 17 (zz37 [(46,.S 15)] [(3,.S 15)]):=k1 _ _ (wL J)
  exact wD (t:=(zz147 d_ T1 [(1,.B 3 0),(3,.S 15),(4,.I e1)])) [0,0,2,6,15,0,32,96,0,256,768,0,2048,6144,16352,32767,65535,131071] (.cons (l1 _ _ m1) (.cons (l1 _ _ o1) (.cons (l1 _ _ p1) (.cons (l1 _ _ t1) (.cons (l1 _ _ x1) (.cons (l1 _ _ y1) (.cons (l1 _ _ z1) (.cons (l1 _ _ B1) (.cons (l1 _ _ C1) (.cons (l1 _ _ D1) (.cons (l1 _ _ G1) (.cons (l1 _ _ H1) (.cons (l1 _ _ I1) (.cons (l1 _ _ L1) (.cons (l1 _ _ M1) (.cons (l1 _ _ S1) (.cons (l1 _ _ V1) (.cons (l1 _ _ X1) .nil)))))))))))))))))) (by kernel_rfl) (by kernel_rfl) (by kernel_rfl) (by kernel_rfl) (wb (wT (zz147 d_ T1 [(1,.B 3 0),(3,.S 15),(4,.I (w64 (e1+1)))]) J 3 (wu [(8,.sl 15)] (ih9 (T1,(w64 (e1+1))) h) Q Q Q Q)))
 exact wu [(8,.sl 7)] (ih N (v,0) h) Q Q Q Q
theorem z90_ct (N:Nat) (v_:Bool) (r:(List Int)) (h:z90 N v_=some r) :
 Fn Tryz.prog 90 ⟨0,[.O v_],[],[],1,.S 0,[],[(0,.own (rI .u8) r true)]⟩:=by
 refine wF func90 Q Q (fun E F w=>?_)
 unfold z90 at h
 refine wR J 1 Q (wq (wR J 1 Q ?_))
 obtain ⟨K,h⟩|⟨K,h⟩:=oc h
 ·refine wt K Q (wq (wg (WPr.bs (cs:=[.i .u8 1]) (oI .u8) J ([1]:List Int) Q Q Q Q Q Q (by kernel_rfl) (by exact (an Q Q)) rfl (wx ⟨[(2,.S 0)],[(0,.own (rI .u8) ([1]:List Int) true)],[],1⟩ J 1 (wn ?_)))))
  cases h
  exact we J func90 [(0,.sl 0)] Q Q Q Q
 refine wf K Q (wi (wq (wg (WPr.bs (cs:=[.i .u8 0]) (oI .u8) J ([0]:List Int) Q Q Q Q Q Q (by kernel_rfl) (by exact (an Q Q)) rfl (wx ⟨[(2,.S 0)],[(0,.own (rI .u8) ([0]:List Int) true)],[],1⟩ J 1 (wn ?_))))))
 cases h
 exact we J func90 [(0,.sl 0)] Q Q Q Q
theorem z39_ct (N:Nat) (g_:T4) (r:(List Int)) (h:z39 N g_=some r) :
 Fn Tryz.prog 39 ⟨4,[.a (cC4 0 1 2 3 g_)],(vV4 0 1 2 3 g_ []),[],5,.S 4,[],[(4,.own (rI .u8) r true)]⟩:=by
 refine wF func39 Q Q (fun E F w=>?_)
 unfold z39 at h
 refine wR J 2 Q (wq (wq (wg (xw [1,2] (zz2 g_ [(1,.B 4 0),(2,.c .nil),(9,.a (cC4 0 1 2 3 g_))]) J 1 ?_))))
 obtain ⟨x1,d,h⟩:=ob h
 refine wc (z19_ct N g_ _ d) [(0,.sl 0),(1,.sl 1),(2,.sl 2),(3,.sl 3)] [] Q Q Q Q Q Q Q Q (.inl rfl) rfl (wx (zz2 g_ [(1,.B 4 0),(2,.c .nil),(11,.O (!x1))]) J 1 (wn ?_))
 obtain ⟨K,h⟩|⟨K,h⟩:=oc h
 ·refine wt K Q (wR J 1 Q ?_)
  cases h
  exact we J func39 [(4,.nil)] Q Q Q Q
 refine wf K Q (wi (wq (wN (fun A1 e f=>?_))))
 have g:A1 0 (zz35 [(1,.B 4 0)] [(12,.B 4 0)]):=e _ _ (wL J)
 have i:A1 1 (zz137 g_ [(12,.B 4 0)] [(13,.c (.s g_.Name))]):=e _ _ (wL J)
 obtain ⟨x4,j,h⟩:=ob h
 have l:A1 2 ⟨[(13,.c (.s g_.Name))],[],[],[],5,[(14,.S 5)],[],[(5,.own (rI .u8) x4 true)],6⟩:=e _ _ (wO Q Q Q (fun _ _ _ _ _ _ _ k=>wc (z87_ct N g_.Name _ j) [] [] Q Q Q Q Q Q Q Q (.inl rfl) rfl (k)) rfl)
 have m:A1 3 (zz3 [(1,.B 4 0)] [(15,.B 4 1)]):=e _ _ (wL J)
 have o:A1 4 (zz66 g_ [(15,.B 4 1)] [(16,.S 0)]):=e _ _ (wL J)
 have p:A1 5 ⟨[(16,.S 0)],[(0,.sl rS g_.Roles)],[],[],6,[(17,.I (g_.Roles.length:Int))],[],[],6⟩:=e _ _ (wL J)
 have q:A1 6 ⟨[(17,.I (g_.Roles.length:Int))],[],[],[],6,[(18,.S 6)],[],[(6,.own (rI .i64) ([(g_.Roles.length:Int)]:List Int) true)],7⟩:=e _ _ (wO Q Q Q (fun _ _ _ _ _ _ _ k=>WPr.bs (cs:=[.I (g_.Roles.length:Int)]) (oI .i64) J ([(g_.Roles.length:Int)]:List Int) Q Q Q Q Q Q (by kernel_rfl) (by exact (an Q Q)) rfl (k)) rfl)
 obtain ⟨u,v,h⟩:=ob h
 have x:A1 7 ⟨[(18,.S 6)],[],[],[(6,.own (rI .i64) ([(g_.Roles.length:Int)]:List Int) true)],7,[(19,.S 7)],[],[(7,.own (rI .u8) u true)],8⟩:=e _ _ (wO Q Q Q (fun _ _ _ _ _ _ _ k=>wc (z88_ct N ([(g_.Roles.length:Int)]:List Int) _ v) [(0,.sl 6)] [6] Q Q Q Q Q Q Q Q (.inr ⟨rfl,⟨(rI_flat _),trivial⟩⟩) rfl (k)) rfl)
 obtain ⟨y,z,h⟩:=ob h
 have A:A1 8 ⟨[(14,.S 5),(19,.S 7)],[],[(5,.own (rI .u8) x4 true)],[(7,.own (rI .u8) u true)],8,[(20,.S 8)],[],[(5,.gone),(8,.own (rI .u8) y true)],9⟩:=e _ _ (wO Q Q Q (fun _ _ _ _ _ _ _ k=>WPr.app J z (by exact (srcO rfl)) Q Q Q Q Q Q Q Q Q Q (k)) rfl)
 have C:A1 9 (zz28 [(20,.S 8)] [(3,.S 8)]):=e _ _ (wL J)
 refine wD (t:=(zz139 g_ y [(1,.B 4 0),(2,.c .nil),(3,.S 8)])) [0,1,3,0,8,24,56,127,255,511] (.cons (f _ _ g) (.cons (f _ _ i) (.cons (f _ _ l) (.cons (f _ _ m) (.cons (f _ _ o) (.cons (f _ _ p) (.cons (f _ _ q) (.cons (f _ _ x) (.cons (f _ _ A) (.cons (f _ _ C) .nil)))))))))) (by kernel_rfl) (by kernel_rfl) (by kernel_rfl) (by kernel_rfl) (wq (wR J 1 Q ?_))
 refine wC (σ:=(List Int)) (fun st=>(zz39 g_ st [(1,.B 4 0),(3,.S 9)])) (fun st=>z39_k7 N g_ st=some r) ?_ (fun j1=>?_)
 ·intro D h
  replace h:z39_k7 N g_ D=some r:=h
  unfold z39_k7 at h
  refine wq (wg (xw [4,5,6,7] (zz39 g_ D [(1,.B 4 0),(36,.S 9),(39,.I (g_.Decls.length:Int))]) J 4 (WPr.bs (cs:=[.I (g_.Decls.length:Int)]) (oI .i64) J ([(g_.Decls.length:Int)]:List Int) Q Q Q Q Q Q (by kernel_rfl) (by exact (an Q Q)) rfl ?_)))
  obtain ⟨G,H,h⟩:=ob h
  refine wc (z88_ct N ([(g_.Decls.length:Int)]:List Int) _ H) [(0,.sl 10)] [10] Q Q Q Q Q Q Q Q (.inr ⟨rfl,⟨(rI_flat _),trivial⟩⟩) rfl (xw [6,7] (zz195 g_ D G [(1,.B 4 0),(36,.S 9),(41,.S 11)]) J 0 ?_)
  obtain ⟨R,T,h⟩:=ob h
  refine WPr.app J T (by exact (srcO rfl)) Q Q Q Q Q Q Q Q Q Q (wx (zz67 g_ R [(1,.B 4 0),(3,.S 12)]) J 1 (wn (wq (wR J 1 Q ?_))))
  refine wC (σ:=(List Int)) (fun st=>(zz68 g_ st [(1,.B 4 0),(3,.S 13)])) (fun st=>z39_k5 N g_ st=some r) ?_ (fun j3=>?_)
  ·intro U h
   replace h:z39_k5 N g_ U=some r:=h
   unfold z39_k5 at h
   refine wq (wg (xw [10,11,12,13] (zz68 g_ U [(1,.B 4 0),(58,.S 13),(60,.I g_.States),(62,.I g_.Start),(64,.I g_.End),(67,.I (g_.Edges.length:Int))]) J 10 (WPr.bs (cs:=[.I g_.States,.I g_.Start,.I g_.End,.I (g_.Edges.length:Int)]) (oI .i64) J ([g_.States,g_.Start,g_.End,(g_.Edges.length:Int)]:List Int) Q Q Q Q Q Q (by kernel_rfl) (by exact (an rfl (an rfl (an rfl (an Q Q))))) rfl ?_)))
   obtain ⟨X,Y,h⟩:=ob h
   refine wc (z88_ct N ([g_.States,g_.Start,g_.End,(g_.Edges.length:Int)]:List Int) _ Y) [(0,.sl 14)] [14] Q Q Q Q Q Q Q Q (.inr ⟨rfl,⟨(rI_flat _),trivial⟩⟩) rfl (xw [12,13] ⟨[(1,.B 4 0),(58,.S 13),(69,.S 15)],[(4,.box (cC4 0 1 2 3 g_) 27),(13,.own (rI .u8) U true),(15,.own (rI .u8) X true)],(vV4 0 1 2 3 g_ []),16⟩ J 0 ?_)
   obtain ⟨Z,a0,h⟩:=ob h
   refine WPr.app J a0 (by exact (srcO rfl)) Q Q Q Q Q Q Q Q Q Q (wx ⟨[(1,.B 4 0),(3,.S 16)],[(4,.box (cC4 0 1 2 3 g_) 27),(16,.own (rI .u8) Z true)],(vV4 0 1 2 3 g_ []),17⟩ J 1 (wn (wq (wR J 1 Q ?_))))
   refine wC (σ:=(List Int)) (fun st=>(zz69 g_ st [(1,.B 4 0),(3,.S 17)])) (fun st=>z39_k3 N g_ st=some r) ?_ (fun j5=>?_)
   ·intro b0 h
    replace h:z39_k3 N g_ b0=some r:=h
    unfold z39_k3 at h
    refine wq (wg (xw [4,5,6,7] (zz69 g_ b0 [(1,.B 4 0),(104,.S 17),(107,.I (g_.Timeouts.length:Int))]) J 4 (WPr.bs (cs:=[.I (g_.Timeouts.length:Int)]) (oI .i64) J ([(g_.Timeouts.length:Int)]:List Int) Q Q Q Q Q Q (by kernel_rfl) (by exact (an Q Q)) rfl ?_)))
    obtain ⟨c0,d0,h⟩:=ob h
    refine wc (z88_ct N ([(g_.Timeouts.length:Int)]:List Int) _ d0) [(0,.sl 18)] [18] Q Q Q Q Q Q Q Q (.inr ⟨rfl,⟨(rI_flat _),trivial⟩⟩) rfl (xw [6,7] ⟨[(1,.B 4 0),(104,.S 17),(109,.S 19)],[(4,.box (cC4 0 1 2 3 g_) 27),(17,.own (rI .u8) b0 true),(19,.own (rI .u8) c0 true)],(vV4 0 1 2 3 g_ []),20⟩ J 0 ?_)
    obtain ⟨e0,f0,h⟩:=ob h
    refine WPr.app J f0 (by exact (srcO rfl)) Q Q Q Q Q Q Q Q Q Q (wx ⟨[(1,.B 4 0),(3,.S 20)],[(4,.box (cC4 0 1 2 3 g_) 27),(20,.own (rI .u8) e0 true)],(vV4 0 1 2 3 g_ []),21⟩ J 1 (wn (wq (wR J 1 Q ?_))))
    refine wC (σ:=(List Int)) (fun st=>⟨[(3,.S 21)],[(21,.own (rI .u8) st true)],(vV4 0 1 2 3 g_ []),22⟩) (fun st=>z39_k1 st=some r) ?_ (fun j7=>?_)
    ·intro g0 h
     replace h:z39_k1 g0=some r:=h
     unfold z39_k1 at h
     refine wR J 2 Q ?_
     cases h
     exact we J func39 [(4,.sl 21)] Q Q Q Q
    refine wo ?_
    refine wI (σ:=(List Int) × Int) (fun st=>(zz196 g_ st.1 [(1,.B 4 0),(3,.S 21),(8,.I st.2)])) (fun n st=>z39_l2 N g_ n st.1 st.2) (r:=r) (fun _=>rfl) ?_ (fun ih=>?_)
    ·intro n5 ih9
     rintro ⟨i0,j0⟩ h
     replace h:z39_l2 N g_ (n5+1) i0 j0=some r:=h
     unfold z39_l2 at h
     refine wq (wV (zz196 g_ i0 [(1,.B 4 0),(3,.S 21),(8,.I j0),(115,.O (decide (j0 < (g_.Timeouts.length:Int))))]) J 5 ?_)
     obtain ⟨K,h⟩|⟨K,h⟩:=oc' h
     ·exact wf K Q (wz rfl (wU (j7 i0 h)))
     refine wt K Q (wi (wq (wo (wN (fun k0 l0 m0=>?_)))))
     have o0:k0 0 (zz73 [(3,.S 21)] [(118,.S 21)]):=l0 _ _ (wL J)
     have p0:k0 1 (zz73 [(1,.B 4 0)] [(119,.B 4 7)]):=l0 _ _ (wL J)
     have q0:k0 2 ⟨[(119,.B 4 7)],(vV4 0 1 2 3 g_ []),[],[(4,.box (cC4 0 1 2 3 g_) 27)],22,[(120,.S 3)],[],[],22⟩:=l0 _ _ (wL J)
     have s0:k0 3 (zz73 [(8,.I j0)] [(121,.I j0)]):=l0 _ _ (wL J)
     obtain ⟨t0,u0,h⟩:=ob h
     have v0:k0 4 ⟨[(120,.S 3),(121,.I j0)],[(3,.sl rR8 g_.Timeouts)],[],[],22,[(122,.P 22 0)],[(22,.pl (cC8 t0))],[],23⟩:=l0 _ _ (wO Q Q Q (fun _ _ _ _ _ _ _ k=>wj oO8 J u0 Q Q Q Q Q Q Q Q Q (k)) rfl)
     have x0:k0 5 ⟨[(122,.P 22 0)],[(22,.pl (cC8 t0))],[],[],23,[(123,.P 22 0)],[],[],23⟩:=l0 _ _ (wL J)
     have y0:k0 6 ⟨[(123,.P 22 0)],[(22,.pl (cC8 t0))],[],[],23,[(124,.I t0.State)],[],[],23⟩:=l0 _ _ (wL J)
     have z0:k0 7 (zz41 [(1,.B 4 0)] [(125,.B 4 7)]):=l0 _ _ (wL J)
     have A0:k0 8 ⟨[(125,.B 4 7)],(vV4 0 1 2 3 g_ []),[],[(4,.box (cC4 0 1 2 3 g_) 27)],23,[(126,.S 3)],[],[],23⟩:=l0 _ _ (wL J)
     have B0:k0 9 (zz41 [(8,.I j0)] [(127,.I j0)]):=l0 _ _ (wL J)
     obtain ⟨C0,D0,h⟩:=ob h
     have G0:k0 10 ⟨[(126,.S 3),(127,.I j0)],[(3,.sl rR8 g_.Timeouts)],[],[],23,[(128,.P 23 0)],[(23,.pl (cC8 C0))],[],24⟩:=l0 _ _ (wO Q Q Q (fun _ _ _ _ _ _ _ k=>wj oO8 J D0 Q Q Q Q Q Q Q Q Q (k)) rfl)
     have H0:k0 11 (zz119 C0 [(128,.P 23 0)] [(129,.P 23 1)]):=l0 _ _ (wL J)
     have I0:k0 12 (zz119 C0 [(129,.P 23 1)] [(130,.I C0.Ticks)]):=l0 _ _ (wL J)
     have L0:k0 13 (zz81 [(1,.B 4 0)] [(131,.B 4 7)]):=l0 _ _ (wL J)
     have M0:k0 14 ⟨[(131,.B 4 7)],(vV4 0 1 2 3 g_ []),[],[(4,.box (cC4 0 1 2 3 g_) 27)],24,[(132,.S 3)],[],[],24⟩:=l0 _ _ (wL J)
     have O0:k0 15 (zz81 [(8,.I j0)] [(133,.I j0)]):=l0 _ _ (wL J)
     obtain ⟨R0,S0,h⟩:=ob h
     have T0:k0 16 ⟨[(132,.S 3),(133,.I j0)],[(3,.sl rR8 g_.Timeouts)],[],[],24,[(134,.P 24 0)],[(24,.pl (cC8 R0))],[],25⟩:=l0 _ _ (wO Q Q Q (fun _ _ _ _ _ _ _ k=>wj oO8 J S0 Q Q Q Q Q Q Q Q Q (k)) rfl)
     have U0:k0 17 ⟨[(134,.P 24 0)],[(24,.pl (cC8 R0))],[],[],25,[(135,.P 24 2)],[],[],25⟩:=l0 _ _ (wL J)
     have V0:k0 18 ⟨[(135,.P 24 2)],[(24,.pl (cC8 R0))],[],[],25,[(136,.I R0.Else)],[],[],25⟩:=l0 _ _ (wL J)
     have X0:k0 19 ⟨[(124,.I t0.State),(130,.I C0.Ticks),(136,.I R0.Else)],[],[],[],25,[(137,.S 25)],[],[(25,.own (rI .i64) ([t0.State,C0.Ticks,R0.Else]:List Int) true)],26⟩:=l0 _ _ (wO Q Q Q (fun _ _ _ _ _ _ _ k=>WPr.bs (cs:=[.I t0.State,.I C0.Ticks,.I R0.Else]) (oI .i64) J ([t0.State,C0.Ticks,R0.Else]:List Int) Q Q Q Q Q Q (by kernel_rfl) (by exact (an rfl (an rfl (an Q Q)))) rfl (k)) rfl)
     obtain ⟨Y0,Z0,h⟩:=ob h
     have a1:k0 20 ⟨[(137,.S 25)],[],[],[(25,.own (rI .i64) ([t0.State,C0.Ticks,R0.Else]:List Int) true)],26,[(138,.S 26)],[],[(26,.own (rI .u8) Y0 true)],27⟩:=l0 _ _ (wO Q Q Q (fun _ _ _ _ _ _ _ k=>wc (z88_ct N ([t0.State,C0.Ticks,R0.Else]:List Int) _ Z0) [(0,.sl 25)] [25] Q Q Q Q Q Q Q Q (.inr ⟨rfl,⟨(rI_flat _),trivial⟩⟩) rfl (k)) rfl)
     obtain ⟨b1,c1,h⟩:=ob h
     have d1:k0 21 ⟨[(118,.S 21),(138,.S 26)],[],[(21,.own (rI .u8) i0 true)],[(26,.own (rI .u8) Y0 true)],27,[(139,.S 27)],[],[(21,.gone),(27,.own (rI .u8) b1 true)],28⟩:=l0 _ _ (wO Q Q Q (fun _ _ _ _ _ _ _ k=>WPr.app J c1 (by exact (srcO rfl)) Q Q Q Q Q Q Q Q Q Q (k)) rfl)
     have e1:k0 22 ⟨[(139,.S 27)],[],[],[],28,[(3,.S 27)],[],[],28⟩:=l0 _ _ (wL J)
     exact wD (t:=(zz197 g_ b1 [(1,.B 4 0),(3,.S 27),(8,.I j0)])) [0,0,2,0,14,30,62,0,128,0,896,1920,3968,0,8192,0,57344,122880,253952,524286,1048574,2097151,4194303] (.cons (m0 _ _ o0) (.cons (m0 _ _ p0) (.cons (m0 _ _ q0) (.cons (m0 _ _ s0) (.cons (m0 _ _ v0) (.cons (m0 _ _ x0) (.cons (m0 _ _ y0) (.cons (m0 _ _ z0) (.cons (m0 _ _ A0) (.cons (m0 _ _ B0) (.cons (m0 _ _ G0) (.cons (m0 _ _ H0) (.cons (m0 _ _ I0) (.cons (m0 _ _ L0) (.cons (m0 _ _ M0) (.cons (m0 _ _ O0) (.cons (m0 _ _ T0) (.cons (m0 _ _ U0) (.cons (m0 _ _ V0) (.cons (m0 _ _ X0) (.cons (m0 _ _ a1) (.cons (m0 _ _ d1) (.cons (m0 _ _ e1) .nil))))))))))))))))))))))) (by kernel_rfl) (by kernel_rfl) (by kernel_rfl) (by kernel_rfl) (wb (wT (zz197 g_ b1 [(1,.B 4 0),(3,.S 27),(8,.I (w64 (j0+1)))]) J 3 (wu [(21,.sl 27)] (ih9 (b1,(w64 (j0+1))) h) Q Q Q Q)))
    exact wu [(21,.sl 20)] (ih N (e0,0) h) Q Q Q Q
   refine wo ?_
   refine wI (σ:=(List Int) × Int) (fun st=>(zz69 g_ st.1 [(1,.B 4 0),(3,.S 17),(6,.I st.2)])) (fun n st=>z39_l4 N g_ n st.1 st.2) (r:=r) (fun _=>rfl) ?_ (fun ih=>?_)
   ·intro n6 ih10
    rintro ⟨f1,g1⟩ h
    replace h:z39_l4 N g_ (n6+1) f1 g1=some r:=h
    unfold z39_l4 at h
    refine wq (wV (zz69 g_ f1 [(1,.B 4 0),(3,.S 17),(6,.I g1),(75,.O (decide (g1 < (g_.Edges.length:Int))))]) J 5 ?_)
    obtain ⟨K,h⟩|⟨K,h⟩:=oc' h
    ·exact wf K Q (wz rfl (wU (j5 f1 h)))
    refine wt K Q (wi (wq (wo (wq (wg (xw [3,4,5,6] (zz69 g_ f1 [(1,.B 4 0),(3,.S 17),(6,.I g1),(79,.S 2),(80,.I g1)]) J 3 ?_))))))
    obtain ⟨i1,k1,h⟩:=ob h
    refine wj oO2 J k1 Q Q Q Q Q Q Q Q Q (wx ⟨[(1,.B 4 0),(3,.S 17),(6,.I g1),(7,.B 19 0)],[(4,.box (cC4 0 1 2 3 g_) 27),(17,.own (rI .u8) f1 true),(19,.box (cC2 i1) 43)],(vV4 0 1 2 3 g_ []),20⟩ J 3 (wn (wN (fun l1 m1 o1=>?_))))
    have p1:l1 0 (zz42 [(3,.S 17)] [(83,.S 17)]):=m1 _ _ (wL J)
    have q1:l1 1 (zz42 [(7,.B 19 0)] [(84,.B 19 0)]):=m1 _ _ (wL J)
    have s1:l1 2 (zz96 i1 [(84,.B 19 0)] [(85,.I i1.From)]):=m1 _ _ (wL J)
    have t1:l1 3 (zz42 [(7,.B 19 0)] [(86,.B 19 1)]):=m1 _ _ (wL J)
    have u1:l1 4 (zz42 [(86,.B 19 1)] [(87,.B 19 1)]):=m1 _ _ (wL J)
    have v1:l1 5 (zz96 i1 [(87,.B 19 1)] [(88,.I i1.Act.From)]):=m1 _ _ (wL J)
    have y1:l1 6 (zz42 [(7,.B 19 0)] [(89,.B 19 1)]):=m1 _ _ (wL J)
    have z1:l1 7 (zz42 [(89,.B 19 1)] [(90,.B 19 2)]):=m1 _ _ (wL J)
    have B1:l1 8 (zz96 i1 [(90,.B 19 2)] [(91,.I i1.Act.To)]):=m1 _ _ (wL J)
    have C1:l1 9 (zz42 [(7,.B 19 0)] [(92,.B 19 1)]):=m1 _ _ (wL J)
    have D1:l1 10 (zz42 [(92,.B 19 1)] [(93,.B 19 3)]):=m1 _ _ (wL J)
    have G1:l1 11 (zz96 i1 [(93,.B 19 3)] [(94,.I i1.Act.Label)]):=m1 _ _ (wL J)
    have H1:l1 12 (zz42 [(7,.B 19 0)] [(95,.B 19 4)]):=m1 _ _ (wL J)
    have I1:l1 13 (zz96 i1 [(95,.B 19 4)] [(96,.I i1.To)]):=m1 _ _ (wL J)
    have L1:l1 14 ⟨[(85,.I i1.From),(88,.I i1.Act.From),(91,.I i1.Act.To),(94,.I i1.Act.Label),(96,.I i1.To)],[],[],[],20,[(97,.S 20)],[],[(20,.own (rI .i64) ([i1.From,i1.Act.From,i1.Act.To,i1.Act.Label,i1.To]:List Int) true)],21⟩:=m1 _ _ (wO Q Q Q (fun _ _ _ _ _ _ _ k=>WPr.bs (cs:=[.I i1.From,.I i1.Act.From,.I i1.Act.To,.I i1.Act.Label,.I i1.To]) (oI .i64) J ([i1.From,i1.Act.From,i1.Act.To,i1.Act.Label,i1.To]:List Int) Q Q Q Q Q Q (by kernel_rfl) (by exact (an rfl (an rfl (an rfl (an rfl (an Q Q)))))) rfl (k)) rfl)
    obtain ⟨M1,O1,h⟩:=ob h
    have R1:l1 15 ⟨[(97,.S 20)],[],[],[(20,.own (rI .i64) ([i1.From,i1.Act.From,i1.Act.To,i1.Act.Label,i1.To]:List Int) true)],21,[(98,.S 21)],[],[(21,.own (rI .u8) M1 true)],22⟩:=m1 _ _ (wO Q Q Q (fun _ _ _ _ _ _ _ k=>wc (z88_ct N ([i1.From,i1.Act.From,i1.Act.To,i1.Act.Label,i1.To]:List Int) _ O1) [(0,.sl 20)] [20] Q Q Q Q Q Q Q Q (.inr ⟨rfl,⟨(rI_flat _),trivial⟩⟩) rfl (k)) rfl)
    obtain ⟨S1,T1,h⟩:=ob h
    have U1:l1 16 ⟨[(83,.S 17),(98,.S 21)],[],[(17,.own (rI .u8) f1 true)],[(21,.own (rI .u8) M1 true)],22,[(99,.S 22)],[],[(17,.gone),(22,.own (rI .u8) S1 true)],23⟩:=m1 _ _ (wO Q Q Q (fun _ _ _ _ _ _ _ k=>WPr.app J T1 (by exact (srcO rfl)) Q Q Q Q Q Q Q Q Q Q (k)) rfl)
    have V1:l1 17 (zz41 [(7,.B 19 0)] [(100,.B 19 5)]):=m1 _ _ (wL J)
    have X1:l1 18 ⟨[(100,.B 19 5)],[],[],[(19,.box (cC2 i1) 43)],23,[(101,.O i1.Again)],[],[],23⟩:=m1 _ _ (wL J)
    obtain ⟨Y1,Z1,h⟩:=ob h
    have a2:l1 19 ⟨[(101,.O i1.Again)],[],[],[],23,[(102,.S 23)],[],[(23,.own (rI .u8) Y1 true)],24⟩:=m1 _ _ (wO Q Q Q (fun _ _ _ _ _ _ _ k=>wc (z90_ct N i1.Again _ Z1) [] [] Q Q Q Q Q Q Q Q (.inl rfl) rfl (k)) rfl)
    obtain ⟨b2,c2,h⟩:=ob h
    have d2:l1 20 ⟨[(99,.S 22),(102,.S 23)],[],[(22,.own (rI .u8) S1 true)],[(23,.own (rI .u8) Y1 true)],24,[(103,.S 24)],[],[(22,.gone),(24,.own (rI .u8) b2 true)],25⟩:=m1 _ _ (wO Q Q Q (fun _ _ _ _ _ _ _ k=>WPr.app J c2 (by exact (srcO rfl)) Q Q Q Q Q Q Q Q Q Q (k)) rfl)
    have e2:l1 21 ⟨[(103,.S 24)],[],[],[],25,[(3,.S 24)],[],[],25⟩:=m1 _ _ (wL J)
    exact wD (t:=(zz198 g_ b2 [(1,.B 4 0),(3,.S 24),(6,.I g1)])) [0,0,2,0,8,24,0,64,192,0,512,1536,0,4096,16382,32766,65535,0,131072,524287,1048575,2097151] (.cons (o1 _ _ p1) (.cons (o1 _ _ q1) (.cons (o1 _ _ s1) (.cons (o1 _ _ t1) (.cons (o1 _ _ u1) (.cons (o1 _ _ v1) (.cons (o1 _ _ y1) (.cons (o1 _ _ z1) (.cons (o1 _ _ B1) (.cons (o1 _ _ C1) (.cons (o1 _ _ D1) (.cons (o1 _ _ G1) (.cons (o1 _ _ H1) (.cons (o1 _ _ I1) (.cons (o1 _ _ L1) (.cons (o1 _ _ R1) (.cons (o1 _ _ U1) (.cons (o1 _ _ V1) (.cons (o1 _ _ X1) (.cons (o1 _ _ a2) (.cons (o1 _ _ d2) (.cons (o1 _ _ e2) .nil)))))))))))))))))))))) (by kernel_rfl) (by kernel_rfl) (by kernel_rfl) (by kernel_rfl) (wb (wT (zz198 g_ b2 [(1,.B 4 0),(3,.S 24),(6,.I (w64 (g1+1)))]) J 3 (wu [(17,.sl 24)] (ih10 (b2,(w64 (g1+1))) h) Q Q Q Q)))
   exact wu [(17,.sl 16)] (ih N (Z,0) h) Q Q Q Q
  refine wo ?_
  refine wI (σ:=(List Int) × Int) (fun st=>(zz68 g_ st.1 [(1,.B 4 0),(3,.S 13),(5,.I st.2)])) (fun n st=>z39_l6 N g_ n st.1 st.2) (r:=r) (fun _=>rfl) ?_ (fun ih=>?_)
  ·intro n7 ih11
   rintro ⟨f2,g2⟩ h
   replace h:z39_l6 N g_ (n7+1) f2 g2=some r:=h
   unfold z39_l6 at h
   refine wq (wV (zz68 g_ f2 [(1,.B 4 0),(3,.S 13),(5,.I g2),(47,.O (decide (g2 < (g_.Decls.length:Int))))]) J 5 ?_)
   obtain ⟨K,h⟩|⟨K,h⟩:=oc' h
   ·exact wf K Q (wz rfl (wU (j3 f2 h)))
   refine wt K Q (wi (wq (wo (wg (xw [4,5,6,7,8] (zz68 g_ f2 [(1,.B 4 0),(5,.I g2),(50,.S 13),(52,.S 1),(53,.I g2)]) J 4 ?_)))))
   obtain ⟨i2,j2,h⟩:=ob h
   refine wj oO0 J j2 Q Q Q Q Q Q Q Q Q (ws J 1 Q ?_)
   obtain ⟨k2,l2,h⟩:=ob h
   refine wc (z89_ct N i2 _ l2) [(0,.sl 15),(1,.sl 16),(2,.sl 17)] [] Q Q Q Q Q Q Q Q (.inl rfl) rfl (xw [7,8] ⟨[(1,.B 4 0),(5,.I g2),(50,.S 13),(56,.S 18)],[(4,.box (cC4 0 1 2 3 g_) 27),(13,.own (rI .u8) f2 true),(18,.own (rI .u8) k2 true)],(vV4 0 1 2 3 g_ []),19⟩ J 0 ?_)
   obtain ⟨m2,o2,h⟩:=ob h
   exact WPr.app J o2 (by exact (srcO rfl)) Q Q Q Q Q Q Q Q Q Q (wx (zz199 g_ m2 [(1,.B 4 0),(3,.S 19),(5,.I g2)]) J 1 (wn (wb (wT (zz199 g_ m2 [(1,.B 4 0),(3,.S 19),(5,.I (w64 (g2+1)))]) J 3 (wu [(13,.sl 19)] (ih11 (m2,(w64 (g2+1))) h) Q Q Q Q)))))
  exact wu [(13,.sl 12)] (ih N (R,0) h) Q Q Q Q
 refine wo ?_
 refine wI (σ:=(List Int) × Int) (fun st=>(zz39 g_ st.1 [(1,.B 4 0),(3,.S 9),(4,.I st.2)])) (fun n st=>z39_l8 N g_ n st.1 st.2) (r:=r) (fun _=>rfl) ?_ (fun ih=>?_)
 ·intro n8 ih12
  rintro ⟨p2,q2⟩ h
  replace h:z39_l8 N g_ (n8+1) p2 q2=some r:=h
  unfold z39_l8 at h
  refine wq (wV (zz39 g_ p2 [(1,.B 4 0),(3,.S 9),(4,.I q2),(25,.O (decide (q2 < (g_.Roles.length:Int))))]) J 5 ?_)
  obtain ⟨K,h⟩|⟨K,h⟩:=oc' h
  ·exact wf K Q (wz rfl (wU (j1 p2 h)))
  refine wt K Q (wi (wq (wo (wg (xw [4,5,6,7,8] (zz39 g_ p2 [(1,.B 4 0),(4,.I q2),(28,.S 9),(30,.S 0),(31,.I q2)]) J 4 ?_)))))
  obtain ⟨s2,t2,h⟩:=ob h
  refine wj oS J t2 Q Q Q Q Q Q Q Q Q (ws J 1 Q ?_)
  obtain ⟨u2,v2,h⟩:=ob h
  refine wc (z87_ct N s2 _ v2) [] [] Q Q Q Q Q Q Q Q (.inl rfl) rfl (xw [7,8] (zz195 g_ p2 u2 [(1,.B 4 0),(4,.I q2),(28,.S 9),(34,.S 11)]) J 0 ?_)
  obtain ⟨x2,y2,h⟩:=ob h
  exact WPr.app J y2 (by exact (srcO rfl)) Q Q Q Q Q Q Q Q Q Q (wx (zz67 g_ x2 [(1,.B 4 0),(3,.S 12),(4,.I q2)]) J 1 (wn (wb (wT (zz67 g_ x2 [(1,.B 4 0),(3,.S 12),(4,.I (w64 (q2+1)))]) J 3 (wu [(9,.sl 12)] (ih12 (x2,(w64 (q2+1))) h) Q Q Q Q)))))
 exact wu [(9,.sl 8)] (ih N (y,0) h) Q Q Q Q
theorem z38_ct (N:Nat) (a_:(List Int)) (b_:(List Int)) (r:Bool) (h:z38 N a_ b_=some r) :
 Fn Tryz.prog 38 ⟨2,[.S 0,.S 1],[(0,.sl (rI .u8) a_),(1,.sl (rI .u8) b_)],[],2,.O r,[],[]⟩:=by
 refine wF func38 Q Q (fun E F w=>?_)
 unfold z38 at h
 refine wR J 1 Q (wq (wg (ws J 1 Q (WPr.cvs (el:=5) a_ (srcI rfl) Q Q Q Q Q (by kernel_rfl) (by kernel_rfl) (by kernel_rfl) rfl (shI rfl) rfl (xw [3,4,5] ⟨[(6,.c (.s (strOf a_))),(7,.S 1)],[],[(0,.sl (rI .u8) a_),(1,.sl (rI .u8) b_)],2⟩ J 1 (WPr.cvs (el:=5) b_ (srcI rfl) Q Q Q Q Q (by kernel_rfl) (by kernel_rfl) (by kernel_rfl) rfl (shI rfl) rfl (wx ⟨[(4,.O ((strOf a_).toList==(strOf b_).toList))],[],[(0,.sl (rI .u8) a_),(1,.sl (rI .u8) b_)],2⟩ J 2 (wn ?_))))))))
 cases h
 exact we J func38 [] Q Q Q Q
theorem z131_ct (N:Nat) (seed_:Int) (b_:(List Int)) (r:Int) (h:z131 N seed_ b_=some r) :
 Fn Tryz.prog 131 ⟨1,[.c (.i .u64 seed_),.S 0],[(0,.sl (rI .u8) b_)],[],1,.c (.i .u64 r),[],[]⟩:=by
 refine wF func131 Q Q (fun E F w=>?_)
 unfold z131 at h
 refine wR J 1 Q (wV (zz30 b_ [(1,.S 0),(4,.c (.i .u64 0)),(5,.c (.i .u64 seed_))]) J 2 (wq (wR J 1 Q ?_)))
 refine wC (σ:=Int) (fun st=>(zz30 b_ [(5,.c (.i .u64 st))])) (fun st=>z131_k1 st=some r) ?_ (fun j1=>?_)
 ·intro d h
  replace h:z131_k1 d=some r:=h
  unfold z131_k1 at h
  refine wR J 2 Q ?_
  cases h
  exact we J func131 [] Q Q Q Q
 refine wo ?_
 refine wI (σ:=Int × Int) (fun st=>(zz30 b_ [(1,.S 0),(5,.c (.i .u64 st.1)),(6,.I st.2)])) (fun n st=>z131_l2 b_ n st.1 st.2) (r:=r) (fun _=>rfl) ?_ (fun ih=>?_)
 ·intro n2 ih3
  rintro ⟨e,f⟩ h
  replace h:z131_l2 b_ (n2+1) e f=some r:=h
  unfold z131_l2 at h
  refine wq (wV (zz30 b_ [(1,.S 0),(5,.c (.i .u64 e)),(6,.I f),(11,.O (decide (f < (b_.length:Int))))]) J 4 ?_)
  obtain ⟨K,h⟩|⟨K,h⟩:=oc' h
  ·exact wf K Q (wz rfl (wU (j1 e h)))
  refine wt K Q (wi (wq (wo (wg (xw (rg 3 6) (zz30 b_ [(1,.S 0),(6,.I f),(14,.c (.i .u64 e)),(15,.S 0),(16,.I f)]) J 3 ?_)))))
  obtain ⟨g,j,h⟩:=ob h
  refine wj (oI .u8) J j Q Q Q Q Q Q Q Q Q (xw [6,7,8] (zz70 b_ [(1,.S 0),(6,.I f),(14,.c (.i .u64 e)),(19,.c (.i .u64 (wk .u64 (g))))]) J 2 ?_)
  obtain ⟨k,l,h⟩:=ob h
  exact WPr.bin l Q Q Q Q Q Q Q Q (wx (zz70 b_ [(1,.S 0),(5,.c (.i .u64 (wk .u64 (k * 1099511628211)))),(6,.I f)]) J 2 (wn (wb (wT (zz70 b_ [(1,.S 0),(5,.c (.i .u64 (wk .u64 (k * 1099511628211)))),(6,.I (w64 (f+1)))]) J 3 (wU (ih3 ((wk .u64 (k * 1099511628211)),(w64 (f+1))) h))))))
 exact wU (ih N (seed_,0) h)
theorem z91_ct (N:Nat) (b_:(List Int)) (r:Int) (h:z91 N b_=some r) :
 Fn Tryz.prog 91 ⟨1,[.S 0],[(0,.sl (rI .u8) b_)],[],1,.c (.i .u64 r),[],[]⟩:=by
 refine wF func91 Q Q (fun E F w=>?_)
 unfold z91 at h
 refine wR J 1 Q (wq (wg (ws J 1 Q ?_)))
 obtain ⟨x1,d,h⟩:=ob h
 refine wc (z131_ct N 14695981039346656037 b_ _ d) [(0,.sl 0)] [] Q Q Q Q Q Q Q Q (.inl rfl) rfl (wx (zz30 b_ [(2,.c (.i .u64 x1))]) J 1 (wn ?_))
 cases h
 exact we J func91 [] Q Q Q Q
theorem z40_ct (N:Nat) (g_:T4) (r:Int) (h:z40 N g_=some r) :
 Fn Tryz.prog 40 ⟨4,[.a (cC4 0 1 2 3 g_)],(vV4 0 1 2 3 g_ []),[],4,.c (.i .u64 r),[],[]⟩:=by
 refine wF func40 Q Q (fun E F w=>?_)
 unfold z40 at h
 refine wR J 2 Q (wq (wg (xw (rg 1 7) (zz6 g_ [(2,.c (.i .u64 0)),(6,.a (cC4 0 1 2 3 g_))]) J 1 ?_)))
 obtain ⟨x1,d,h⟩:=ob h
 refine wc (z34_ct N g_ _ d) [(0,.sl 0),(1,.sl 1),(2,.sl 2),(3,.sl 3)] [] Q Q Q Q Q Q Q Q (.inl rfl) rfl (wx ⟨[(2,.c (.i .u64 0)),(3,.B 9 0),(4,.I x1.2)],[(9,.box (cC4 5 6 7 8 x1.1) 27)],(vV4 0 1 2 3 g_ (vV4 5 6 7 8 x1.1 [])),10⟩ J 6 (wn (wq (wR J 2 Q ?_))))
 obtain ⟨K,h⟩|⟨K,h⟩:=oc h
 ·refine wt K Q (wV ⟨[(2,.c (.i .u64 0))],[],(vV4 0 1 2 3 g_ []),10⟩ J 1 ?_)
  cases h
  exact we J func40 [] Q Q Q Q
 refine wf K Q (wi (wq (wg (xw [1,2,3] ⟨[(12,.a (cC4 5 6 7 8 x1.1))],[],(vV4 0 1 2 3 g_ (vV4 5 6 7 8 x1.1 [])),10⟩ J 1 ?_))))
 obtain ⟨x2,e,h⟩:=ob h
 refine wc (z39_ct N x1.1 _ e) [(0,.sl 5),(1,.sl 6),(2,.sl 7),(3,.sl 8)] [] Q Q Q Q Q Q Q Q (.inl rfl) rfl (xw [2,3] ⟨[(13,.S 10)],[(10,.own (rI .u8) x2 true)],(vV4 0 1 2 3 g_ []),11⟩ J 0 ?_)
 obtain ⟨x3,f,h⟩:=ob h
 refine wc (z91_ct N x2 _ f) [(0,.sl 10)] [10] Q Q Q Q Q Q Q Q (.inr ⟨rfl,trivial⟩) rfl (wx ⟨[(2,.c (.i .u64 x3))],[],(vV4 0 1 2 3 g_ []),11⟩ J 1 (wn ?_))
 cases h
 exact we J func40 [] Q Q Q Q
theorem z92_ct (N:Nat) (b_:(List Int)) (r:T12) (h:z92 N b_=some r) :
 Fn Tryz.prog 92 ⟨1,[.S 0],[(0,.sl (rI .u8) b_)],[],3,.B 1 0,[(2,.sl (rI .u8) r.b')],[(1,.box (cC12 2 r) 160)]⟩:=by
 refine wF func92 Q Q (fun E F w=>?_)
 unfold z92 at h
 refine wR J 1 Q (wq (wg (ws J 1 Q ?_)))
 obtain ⟨x1,c,h⟩:=ob h
 refine WPr.appN (rI .u8) J c (by exact (srcI rfl)) Q Q Q Q Q Q Q Q Q (wx ⟨[(2,.B 2 0)],[(1,.own (rI .u8) x1 true),(2,.box [.sl 1,.I 0,.b false] 160)],[(0,.sl (rI .u8) b_)],3⟩ J 3 (wn (WP.frz 1 rfl ?_)))
 cases h
 exact we J func92 [(1,.bp 2 0),(2,.sl 1)] Q Q Q Q
theorem z165_ct (N:Nat) (r_:T12) (n_:Int) (r:(List Int) × T12) (h:z165 N r_ n_=some r) :
 Fn Tryz.prog 165 ⟨2,[.B 0 0,.I n_],[(1,.sl (rI .u8) r_.b')],[(0,.box (cC12 1 r_) 160)],4,.S 2,[(2,.sl (rI .u8) r.1),(3,.sl (rI .u8) r.2.b')],[(0,.box (cC12 3 r.2) 160)]⟩:=by
 refine wF func165 Q Q (fun E F w=>?_)
 unfold z165 at h
 refine wR J 1 Q (wq (wq (wQ (by kernel_rfl) (by kernel_rfl) (xq (rg 5 13) (zz10 r_ r_.b' [(0,.B 0 0),(1,.I n_),(4,.c .nil),(9,.O r_.failed')]) J 5 ?_))))
 obtain ⟨K,h⟩|⟨K,h⟩:=oc h
 ·refine qy 9 K Q (qx (zz10 r_ r_.b' [(0,.B 0 0),(1,.I n_),(4,.c .nil),(22,.O true)]) J 13 (qn (wt Q Q (wV ⟨[(4,.c .nil)],[(0,.box [.sl 1,.I r_.at',.b true] 160)],[(1,.sl (rI .u8) r_.b')],2⟩ J 4 (wR J 1 Q ?_)))))
  cases h
  exact we J func165 [(2,.nil),(3,.sl 1)] Q Q Q Q
 refine qy 9 K Q (qx (zz10 r_ r_.b' [(0,.B 0 0),(1,.I n_),(4,.c .nil),(22,.O (decide (n_ > (w64 ((r_.b'.length:Int)-r_.at')))))]) J 13 (qn ?_))
 obtain ⟨K,h⟩|⟨K,h⟩:=oc h
 ·refine wt K Q (wV ⟨[(4,.c .nil)],[(0,.box [.sl 1,.I r_.at',.b true] 160)],[(1,.sl (rI .u8) r_.b')],2⟩ J 4 (wR J 1 Q ?_))
  cases h
  exact we J func165 [(2,.nil),(3,.sl 1)] Q Q Q Q
 refine wf K Q (wi (wV ⟨[(0,.B 0 0),(1,.I n_),(4,.c .nil)],[(0,.box [.sl 1,.I (w64 (r_.at'+n_)),.b r_.failed'] 160)],[(1,.sl (rI .u8) r_.b')],2⟩ J 9 (wq (wQ (by kernel_rfl) (by kernel_rfl) (xq [14,15] ⟨[(37,.S 1),(43,.I (w64 ((w64 (r_.at'+n_))-n_))),(47,.I (w64 (r_.at'+n_)))],[(0,.box [.sl 1,.I (w64 (r_.at'+n_)),.b r_.failed'] 160)],[(1,.sl (rI .u8) r_.b')],2⟩ J 14 ?_)))))
 obtain ⟨x2,d,h⟩:=ob h
 refine WPq.op Q Q (VN.vs (VN.isl J (l:=some (.i64,(w64 ((w64 (r_.at'+n_))-n_)))) (h:=some (.i64,(w64 (r_.at'+n_)))) d Q Q Q Q Q Q Q Q)) (WPq.sil J 1 rfl (qn ?_))
 cases h
 exact we J func165 [(2,.sl 2),(3,.sl 1)] Q Q Q Q
theorem z141_ct (N:Nat) (r_:T12) (r:Int × T12) (h:z141 N r_=some r) :
 Fn Tryz.prog 141 ⟨2,[.B 0 0],[(1,.sl (rI .u8) r_.b')],[(0,.box (cC12 1 r_) 160)],3,.I r.1,[(2,.sl (rI .u8) r.2.b')],[(0,.box (cC12 2 r.2) 160)]⟩:=by
 refine wF func141 Q Q (fun E F w=>?_)
 unfold z141 at h
 refine wR J 1 Q (wR J 1 Q (wq (wV (zz10 r_ r_.b' [(0,.B 0 0),(2,.I 0),(3,.c (.i .u64 0)),(6,.I 0)]) J 1 ?_)))
 refine wC (σ:=(List Int) × Int × Bool) (fun st=>(zz74 st.2.1 st.2.2 r_.b' st.1 [(0,.B 0 0)])) (fun st=>z141_k1 st.1 st.2.1 st.2.2=some r) ?_ (fun j1=>?_)
 ·rintro ⟨vbk0_0_0_1,vbk0_0_1_1,vbk0_0_2_1⟩ h
  replace h:z141_k1 vbk0_0_0_1 vbk0_0_1_1 vbk0_0_2_1=some r:=h
  unfold z141_k1 at h
  refine wV (zz149 vbk0_0_1_1 r_.b' vbk0_0_0_1 []) J 4 (wR J 1 Q ?_)
  cases h
  exact we J func141 [(2,.sl 2)] Q Q Q Q
 refine wo ?_
 refine wI (σ:=(List Int) × Int × Bool × Int × Int) (fun st=>(zz74 st.2.1 st.2.2.1 r_.b' st.1 [(0,.B 0 0),(3,.c (.i .u64 st.2.2.2.1)),(6,.I st.2.2.2.2)])) (fun n st=>z141_l2 N n st.1 st.2.1 st.2.2.1 st.2.2.2.1 st.2.2.2.2) (r:=r) (fun _=>rfl) ?_ (fun ih=>?_)
 ·intro n2 ih3
  rintro ⟨vbk0_0_0_3,vbk0_0_1_3,vbk0_0_2_3,d,e⟩ h
  replace h:z141_l2 N (n2+1) vbk0_0_0_3 vbk0_0_1_3 vbk0_0_2_3 d e=some r:=h
  unfold z141_l2 at h
  refine wR J 1 Q (wq ?_)
  obtain ⟨K,h⟩|⟨K,h⟩:=oc' h
  ·exact wf K Q (wz rfl (wU (j1 (vbk0_0_0_3,vbk0_0_1_3,vbk0_0_2_3) h)))
  refine wt K Q (wi (wq (wo (wV (zz74 vbk0_0_1_3 vbk0_0_2_3 r_.b' vbk0_0_0_3 [(0,.B 0 0),(3,.c (.i .u64 d)),(4,.I e),(6,.I e)]) J 2 (wq (wg (ws J 1 Q ?_)))))))
  obtain ⟨f,g,h⟩:=ob h
  refine wc (z165_ct N (⟨vbk0_0_0_3,vbk0_0_1_3,vbk0_0_2_3⟩:T12) 1 _ g) [(0,.bp 0 0),(1,.sl 2)] [] Q Q Q Q Q Q Q Q (.inl rfl) rfl (wx (zz150 f.2 r_.b' f.1 f.2.b' [(0,.B 0 0),(3,.c (.i .u64 d)),(4,.I e),(5,.S 3),(6,.I e)]) J 1 (wn (wq (wV (zz150 f.2 r_.b' f.1 f.2.b' [(0,.B 0 0),(3,.c (.i .u64 d)),(4,.I e),(5,.S 3),(6,.I e),(14,.O f.2.failed')]) J 4 ?_))))
  obtain ⟨K,h⟩|⟨K,h⟩:=oc h
  ·refine wt K Q (wR J 1 Q ?_)
   cases h
   exact we J func141 [(2,.sl 4)] Q Q Q Q
  refine wf K Q (wi (wq (wg (ws J 2 Q ?_))))
  obtain ⟨j,k,h⟩:=ob h
  refine wj (oI .u8) J k Q Q Q Q Q Q Q Q Q (xw (rg 4 7) (zz151 f.2 r_.b' f.1 f.2.b' [(0,.B 0 0),(4,.I e),(5,.S 3),(6,.I e),(15,.c (.i .u64 d)),(18,.c (.i .u8 j))]) J 1 ?_)
  obtain ⟨l,m,h⟩:=ob h
  refine WPr.bin m Q Q Q Q Q Q Q Q (xw [8,9,10] (zz151 f.2 r_.b' f.1 f.2.b' [(0,.B 0 0),(4,.I e),(5,.S 3),(6,.I e),(15,.c (.i .u64 d)),(20,.c (.i .u64 (wk .u64 (l)))),(22,.I (w64 (7 * e)))]) J 3 ?_)
  obtain ⟨o,p,h⟩:=ob h
  refine WPr.bin p Q Q Q Q Q Q Q Q ?_
  obtain ⟨q,s,h⟩:=ob h
  refine WPr.bin s Q Q Q Q Q Q Q Q (wx (zz151 f.2 r_.b' f.1 f.2.b' [(0,.B 0 0),(3,.c (.i .u64 q)),(4,.I e),(5,.S 3),(6,.I e)]) J 1 (wn (wq (wg (ws J 1 Q ?_)))))
  obtain ⟨t,u,h⟩:=ob h
  refine wj (oI .u8) J u Q Q Q Q Q Q Q Q Q (wx ⟨[(0,.B 0 0),(3,.c (.i .u64 q)),(4,.I e),(5,.S 3),(6,.I e),(28,.O (decide (t < 128)))],[(0,.box (cC12 4 f.2) 160)],[(1,.sl (rI .u8) r_.b'),(3,.sl (rI .u8) f.1),(4,.sl (rI .u8) f.2.b')],7⟩ J 2 (wn ?_))
  obtain ⟨K,h⟩|⟨K,h⟩:=oc' h
  ·exact wf K Q (wi (wb (wS J 2 Q (wu [(2,.sl 4)] (ih3 (f.2.b',f.2.at',f.2.failed',q,(w64 (e+1))) h) Q Q Q Q))))
  refine wt K Q (wq (wg (ws J 2 Q ?_)))
  obtain ⟨v,x,h⟩:=ob h
  refine wj (oI .u8) J x Q Q Q Q Q Q Q Q Q (xw (rg 6 16) (zz121 f.2 r_.b' f.1 f.2.b' [(3,.c (.i .u64 q)),(4,.I e),(5,.S 3),(29,.B 0 0),(34,.O (v==0))]) J 3 ?_)
  obtain ⟨K,h⟩|⟨K,h⟩:=oc' h
  ·refine wy 34 K Q (xw (rg 13 9) (zz121 f.2 r_.b' f.1 f.2.b' [(3,.c (.i .u64 q)),(5,.S 3),(29,.B 0 0),(38,.O false),(41,.O (e==9))]) J 7 ?_)
   obtain ⟨K,h⟩|⟨K,h⟩:=oc' h
   ·refine wy 41 K Q (wx (zz75 f.2.at' r_.b' f.2.b' [(3,.c (.i .u64 q))]) J 9 (wn (wq (wg (ws J 1 Q ?_)))))
    obtain ⟨y,z,h⟩:=ob h
    refine WPr.bin z Q Q Q Q Q Q Q Q (xw [4,5,6,7,8] (zz75 f.2.at' r_.b' f.2.b' [(52,.I (w64 (y))),(53,.c (.i .u64 q))]) J 2 ?_)
    obtain ⟨A,C,h⟩:=ob h
    refine WPr.bin C Q Q Q Q Q Q Q Q (xw [7,8] (zz75 f.2.at' r_.b' f.2.b' [(52,.I (w64 (y))),(56,.I (w64 (0-(w64 (A)))))]) J 2 ?_)
    obtain ⟨D,G,h⟩:=ob h
    refine WPr.bin G Q Q Q Q Q Q Q Q (ws J 1 Q (wn ?_))
    cases h
    exact we J func141 [(2,.sl 4)] Q Q Q Q
   refine wy 41 K Q (ws J 1 Q ?_)
   obtain ⟨H,R,h⟩:=ob h
   refine wj (oI .u8) J R Q Q Q Q Q Q Q Q Q (wx (zz76 f.2.at' (decide (H > 1)) r_.b' f.2.b' [(3,.c (.i .u64 q))]) J 7 (wn (wq (wg (ws J 1 Q ?_)))))
   obtain ⟨T,U,h⟩:=ob h
   refine WPr.bin U Q Q Q Q Q Q Q Q (xw [4,5,6,7,8] (zz76 f.2.at' (decide (H > 1)) r_.b' f.2.b' [(52,.I (w64 (T))),(53,.c (.i .u64 q))]) J 2 ?_)
   obtain ⟨X,Y,h⟩:=ob h
   refine WPr.bin Y Q Q Q Q Q Q Q Q (xw [7,8] (zz76 f.2.at' (decide (H > 1)) r_.b' f.2.b' [(52,.I (w64 (T))),(56,.I (w64 (0-(w64 (X)))))]) J 2 ?_)
   obtain ⟨Z,a0,h⟩:=ob h
   refine WPr.bin a0 Q Q Q Q Q Q Q Q (ws J 1 Q (wn ?_))
   cases h
   exact we J func141 [(2,.sl 4)] Q Q Q Q
  refine wy 34 K Q (xw (rg 10 12) (zz121 f.2 r_.b' f.1 f.2.b' [(3,.c (.i .u64 q)),(4,.I e),(5,.S 3),(29,.B 0 0),(38,.O (decide (e > 0)))]) J 4 ?_)
  obtain ⟨K,h⟩|⟨K,h⟩:=oc h
  ·refine wy 38 K Q (wx (zz152 f.2.at' r_.b' f.2.b' [(3,.c (.i .u64 q))]) J 12 (wn (wq (wg (ws J 1 Q ?_)))))
   obtain ⟨b0,c0,h⟩:=ob h
   refine WPr.bin c0 Q Q Q Q Q Q Q Q (xw [4,5,6,7,8] (zz152 f.2.at' r_.b' f.2.b' [(52,.I (w64 (b0))),(53,.c (.i .u64 q))]) J 2 ?_)
   obtain ⟨d0,e0,h⟩:=ob h
   refine WPr.bin e0 Q Q Q Q Q Q Q Q (xw [7,8] (zz152 f.2.at' r_.b' f.2.b' [(52,.I (w64 (b0))),(56,.I (w64 (0-(w64 (d0)))))]) J 2 ?_)
   obtain ⟨f0,g0,h⟩:=ob h
   refine WPr.bin g0 Q Q Q Q Q Q Q Q (ws J 1 Q (wn ?_))
   cases h
   exact we J func141 [(2,.sl 4)] Q Q Q Q
  refine wy 38 K Q (xw (rg 13 9) (zz121 f.2 r_.b' f.1 f.2.b' [(3,.c (.i .u64 q)),(5,.S 3),(29,.B 0 0),(38,.O false),(41,.O (e==9))]) J 3 ?_)
  obtain ⟨K,h⟩|⟨K,h⟩:=oc' h
  ·refine wy 41 K Q (wx (zz75 f.2.at' r_.b' f.2.b' [(3,.c (.i .u64 q))]) J 9 (wn (wq (wg (ws J 1 Q ?_)))))
   obtain ⟨i0,j0,h⟩:=ob h
   refine WPr.bin j0 Q Q Q Q Q Q Q Q (xw [4,5,6,7,8] (zz75 f.2.at' r_.b' f.2.b' [(52,.I (w64 (i0))),(53,.c (.i .u64 q))]) J 2 ?_)
   obtain ⟨k0,l0,h⟩:=ob h
   refine WPr.bin l0 Q Q Q Q Q Q Q Q (xw [7,8] (zz75 f.2.at' r_.b' f.2.b' [(52,.I (w64 (i0))),(56,.I (w64 (0-(w64 (k0)))))]) J 2 ?_)
   obtain ⟨m0,o0,h⟩:=ob h
   refine WPr.bin o0 Q Q Q Q Q Q Q Q (ws J 1 Q (wn ?_))
   cases h
   exact we J func141 [(2,.sl 4)] Q Q Q Q
  refine wy 41 K Q (ws J 1 Q ?_)
  obtain ⟨p0,q0,h⟩:=ob h
  refine wj (oI .u8) J q0 Q Q Q Q Q Q Q Q Q (wx (zz76 f.2.at' (decide (p0 > 1)) r_.b' f.2.b' [(3,.c (.i .u64 q))]) J 7 (wn (wq (wg (ws J 1 Q ?_)))))
  obtain ⟨s0,t0,h⟩:=ob h
  refine WPr.bin t0 Q Q Q Q Q Q Q Q (xw [4,5,6,7,8] (zz76 f.2.at' (decide (p0 > 1)) r_.b' f.2.b' [(52,.I (w64 (s0))),(53,.c (.i .u64 q))]) J 2 ?_)
  obtain ⟨u0,v0,h⟩:=ob h
  refine WPr.bin v0 Q Q Q Q Q Q Q Q (xw [7,8] (zz76 f.2.at' (decide (p0 > 1)) r_.b' f.2.b' [(52,.I (w64 (s0))),(56,.I (w64 (0-(w64 (u0)))))]) J 2 ?_)
  obtain ⟨x0,y0,h⟩:=ob h
  refine WPr.bin y0 Q Q Q Q Q Q Q Q (ws J 1 Q (wn ?_))
  cases h
  exact we J func141 [(2,.sl 4)] Q Q Q Q
 exact wu [(2,.sl 1)] (ih N (r_.b',r_.at',r_.failed',0,0) h) Q Q Q Q
theorem z164_ct (N:Nat) (r_:T12) (lo_:Int) (hi_:Int) (r:Int × T12) (h:z164 N r_ lo_ hi_=some r) :
 Fn Tryz.prog 164 ⟨2,[.B 0 0,.I lo_,.I hi_],[(1,.sl (rI .u8) r_.b')],[(0,.box (cC12 1 r_) 160)],3,.I r.1,[(2,.sl (rI .u8) r.2.b')],[(0,.box (cC12 2 r.2) 160)]⟩:=by
 refine wF func164 Q Q (fun E F w=>?_)
 unfold z164 at h
 refine wR J 1 Q (wq (wg (ws J 1 Q ?_)))
 obtain ⟨x1,c,h⟩:=ob h
 refine wc (z141_ct N r_ _ c) [(0,.bp 0 0),(1,.sl 1)] [] Q Q Q Q Q Q Q Q (.inl rfl) rfl (wx (zz17 x1.2 r_.b' x1.2.b' [(0,.B 0 0),(1,.I lo_),(2,.I hi_),(6,.I 0),(7,.I x1.1)]) J 1 (wn (wq (wg (xw (rg 6 12) (zz17 x1.2 r_.b' x1.2.b' [(1,.I lo_),(2,.I hi_),(6,.I 0),(7,.I x1.1),(10,.B 0 0),(15,.O x1.2.failed')]) J 6 ?_)))))
 obtain ⟨K,h⟩|⟨K,h⟩:=oc h
 ·refine wy 15 K Q (wx (zz149 x1.2.at' r_.b' x1.2.b' [(6,.I 0),(7,.I x1.1)]) J 12 (wn (wR J 2 Q ?_)))
  cases h
  exact we J func164 [(2,.sl 2)] Q Q Q Q
 refine wy 15 K Q (xw (rg 11 7) (zz17 x1.2 r_.b' x1.2.b' [(2,.I hi_),(6,.I 0),(7,.I x1.1),(10,.B 0 0),(20,.O (decide (x1.1 < lo_)))]) J 5 ?_)
 obtain ⟨K,h⟩|⟨K,h⟩:=oc h
 ·refine wy 20 K Q (wx (zz149 x1.2.at' r_.b' x1.2.b' [(6,.I 0),(7,.I x1.1)]) J 7 (wn (wR J 2 Q ?_)))
  cases h
  exact we J func164 [(2,.sl 2)] Q Q Q Q
 refine wy 20 K Q (wx (zz74 x1.2.at' (decide (x1.1 > hi_)) r_.b' x1.2.b' [(6,.I 0),(7,.I x1.1)]) J 7 (wn (wR J 2 Q ?_)))
 cases h
 exact we J func164 [(2,.sl 2)] Q Q Q Q
theorem z162_ct (N:Nat) (r_:T12) (most_:Int) (r:(List Int) × T12) (h:z162 N r_ most_=some r) :
 Fn Tryz.prog 162 ⟨2,[.B 0 0,.I most_],[(1,.sl (rI .u8) r_.b')],[(0,.box (cC12 1 r_) 160)],4,.S 2,[(2,.sl (rI .u8) r.1),(3,.sl (rI .u8) r.2.b')],[(0,.box (cC12 3 r.2) 160)]⟩:=by
 refine wF func162 Q Q (fun E F w=>?_)
 unfold z162 at h
 refine wR J 1 Q (wq (wg (xw [2,3] (zz10 r_ r_.b' [(0,.B 0 0),(4,.c .nil),(6,.B 0 0),(7,.I most_)]) J 2 ?_)))
 obtain ⟨x1,d,h⟩:=ob h
 refine wc (z164_ct N r_ 0 most_ _ d) [(0,.bp 0 0),(1,.sl 1)] [] Q Q Q Q Q Q Q Q (.inl rfl) rfl (wx (zz17 x1.2 r_.b' x1.2.b' [(0,.B 0 0),(4,.c .nil),(5,.I x1.1)]) J 1 (wn (wq (wV (zz17 x1.2 r_.b' x1.2.b' [(0,.B 0 0),(4,.c .nil),(5,.I x1.1),(12,.O x1.2.failed')]) J 4 ?_))))
 obtain ⟨K,h⟩|⟨K,h⟩:=oc h
 ·refine wt K Q (wR J 1 Q ?_)
  cases h
  exact we J func162 [(2,.nil),(3,.sl 2)] Q Q Q Q
 refine wf K Q (wi (wq (wg (ws J 2 Q ?_))))
 obtain ⟨x2,e,h⟩:=ob h
 refine wc (z165_ct N x1.2 x1.1 _ e) [(0,.bp 0 0),(1,.sl 2)] [] Q Q Q Q Q Q Q Q (.inl rfl) rfl (wx (zz150 x2.2 r_.b' x2.1 x2.2.b' [(4,.S 3)]) J 1 (wn ?_))
 cases h
 exact we J func162 [(2,.sl 3),(3,.sl 4)] Q Q Q Q
theorem z161_21_ct (N:Nat) (c0_:T12) (c2_:Int) (r:(List Int) × T12) (h:z161_21 N c0_ c2_=some r) :
 Fn Tryz.prog 161 ⟨4,[.B 2 0,.B 3 0],[(1,.sl (rI .u8) c0_.b')],[(0,.box (cC12 1 c0_) 160),(2,.box [.bp 0 0] 115),(3,.box [.I c2_] 3)],6,.S 4,[(5,.sl (rI .u8) r.2.b')],[(4,.own (rI .u8) r.1 true),(0,.box (cC12 5 r.2) 160),(2,.box [.bp 0 0] 115),(3,.box [.I c2_] 3)]⟩:=by
 refine wF func161 Q Q (fun E F w=>?_)
 unfold z161_21 at h
 refine wR J 1 Q (wq (wg (xw [2,3,4] (zz97 c0_ c2_ c0_.b' [(3,.B 0 0),(4,.I c2_)]) J 2 ?_)))
 obtain ⟨x1,c,h⟩:=ob h
 refine wc (z162_ct N c0_ c2_ _ c) [(0,.bp 0 0),(1,.sl 1)] [] Q Q Q Q Q Q Q Q (.inl rfl) rfl (xw [3,4] ⟨[(5,.S 4)],[(0,.box (cC12 5 x1.2) 160),(2,.box [.bp 0 0] 115),(3,.box [.I c2_] 3)],[(1,.sl (rI .u8) c0_.b'),(4,.sl (rI .u8) x1.1),(5,.sl (rI .u8) x1.2.b')],6⟩ J 0 ?_)
 obtain ⟨x2,d,h⟩:=ob h
 refine WPr.appN (rI .u8) J d (by exact (srcI rfl)) Q Q Q Q Q Q Q Q Q (wx ⟨[(2,.S 6)],[(0,.box (cC12 5 x1.2) 160),(2,.box [.bp 0 0] 115),(3,.box [.I c2_] 3),(6,.own (rI .u8) x2 true)],[(1,.sl (rI .u8) c0_.b'),(5,.sl (rI .u8) x1.2.b')],7⟩ J 1 (wn ?_))
 cases h
 exact we J func161 [(4,.sl 6),(5,.sl 5)] Q Q Q Q
theorem z160_22_ct (N:Nat) (c0_:T12) (c2_:Int) (r:(List Int) × T12) (h:z160_22 N c0_ c2_=some r) :
 Fn Tryz.prog 160 ⟨4,[.B 0 0,.c (.cl 161 [] [2,3])],[(1,.sl (rI .u8) c0_.b')],[(0,.box (cC12 1 c0_) 160),(2,.box [.bp 0 0] 115),(3,.box [.I c2_] 3)],6,.S 4,[(5,.sl (rI .u8) r.2.b')],[(4,.own (rI .u8) r.1 true),(0,.box (cC12 5 r.2) 160),(2,.box [.bp 0 0] 115),(3,.box [.I c2_] 3)]⟩:=by
 refine wF func160 Q Q (fun E F w=>?_)
 unfold z160_22 at h
 refine wR J 1 Q (wR J 1 Q (wq (wq (wg (xw (rg 1 7) (zz97 c0_ c2_ c0_.b' [(0,.B 0 0),(1,.c (.cl 161 [] [2,3])),(4,.c .nil),(5,.c .nil),(8,.B 0 0)]) J 1 (WPr.pnil (el:=160) false Q Q Q Q (by kernel_rfl) Q Q Q (wx (zz97 c0_ c2_ c0_.b' [(0,.B 0 0),(1,.c (.cl 161 [] [2,3])),(4,.c .nil),(5,.c .nil),(15,.O c0_.failed')]) J 6 (wn ?_))))))))
 obtain ⟨K,h⟩|⟨K,h⟩:=oc h
 ·refine wt K Q (wR J 2 Q ?_)
  cases h
  exact we J func160 [(4,.nil),(5,.sl 1)] Q Q Q Q
 refine wf K Q (wi (wV (zz97 c0_ c2_ c0_.b' [(0,.B 0 0),(1,.c (.cl 161 [] [2,3])),(4,.c .nil),(5,.c .nil),(6,.I c0_.at')]) J 5 (wq (wg (ws J 1 Q ?_)))))
 obtain ⟨x1,d,h⟩:=ob h
 refine WPr.callc (z161_21_ct N c0_ c2_ _ d) [(0,.bp 0 0),(1,.sl 1),(2,.bp 2 0),(3,.bp 3 0)] [] Q Q Q Q Q Q Q Q Q (.inl rfl) rfl (wx (zz200 x1.2 c2_ x1.1 c0_.b' x1.2.b' [(0,.B 0 0),(4,.c .nil),(5,.c .nil),(6,.I c0_.at'),(7,.S 4)]) J 1 (wn (wq (wV (zz200 x1.2 c2_ x1.1 c0_.b' x1.2.b' [(0,.B 0 0),(4,.c .nil),(5,.c .nil),(6,.I c0_.at'),(7,.S 4),(26,.O x1.2.failed')]) J 4 ?_))))
 obtain ⟨K,h⟩|⟨K,h⟩:=oc h
 ·refine wt K Q (wV ⟨[(4,.c .nil),(5,.c .nil)],[(0,.box [.sl 5,.I c0_.at',.b x1.2.failed'] 160),(2,.box [.bp 0 0] 115),(3,.box [.I c2_] 3)],[(1,.sl (rI .u8) c0_.b'),(5,.sl (rI .u8) x1.2.b')],6⟩ J 5 (wR J 2 Q ?_))
  cases h
  exact we J func160 [(4,.nil),(5,.sl 5)] Q Q Q Q
 refine wf K Q (wi (wR J 2 Q ?_))
 cases h
 exact we J func160 [(4,.sl 4),(5,.sl 5)] Q Q Q Q
theorem z132_ct (N:Nat) (r_:T12) (most_:Int) (r:(List Int) × T12) (h:z132 N r_ most_=some r) :
 Fn Tryz.prog 132 ⟨2,[.B 0 0,.I most_],[(1,.sl (rI .u8) r_.b')],[(0,.box (cC12 1 r_) 160)],4,.S 2,[(3,.sl (rI .u8) r.2.b')],[(2,.own (rI .u8) r.1 true),(0,.box (cC12 3 r.2) 160)]⟩:=by
 refine wF func132 Q Q (fun E F w=>?_)
 unfold z132 at h
 refine wV (zz97 r_ most_ r_.b' [(2,.B 2 0),(3,.B 3 0),(4,.c .nil)]) J 3 (wq (wg (ws J 2 Q ?_)))
 obtain ⟨x1,d,h⟩:=ob h
 refine wc (z160_22_ct N r_ most_ _ d) [(0,.bp 0 0),(1,.sl 1),(2,.bp 2 0),(3,.bp 3 0)] [] Q Q Q Q Q Q Q Q (.inl rfl) rfl (wx ⟨[(4,.S 4)],[(0,.box (cC12 5 x1.2) 160),(4,.own (rI .u8) x1.1 true)],[(1,.sl (rI .u8) r_.b'),(5,.sl (rI .u8) x1.2.b')],6⟩ J 1 (wn ?_))
 cases h
 exact we J func132 [(2,.sl 4),(3,.sl 5)] Q Q Q Q
theorem z93_ct (N:Nat) (r_:T12) (most_:Int) (r:ByteArray × T12) (h:z93 N r_ most_=some r) :
 Fn Tryz.prog 93 ⟨2,[.B 0 0,.I most_],[(1,.sl (rI .u8) r_.b')],[(0,.box (cC12 1 r_) 160)],3,.c (.s r.1),[(2,.sl (rI .u8) r.2.b')],[(0,.box (cC12 2 r.2) 160)]⟩:=by
 refine wF func93 Q Q (fun E F w=>?_)
 unfold z93 at h
 refine wR J 1 Q (wq (wg (xw [2,3,4] (zz10 r_ r_.b' [(5,.B 0 0),(6,.I most_)]) J 2 ?_)))
 obtain ⟨x1,d,h⟩:=ob h
 refine wc (z132_ct N r_ most_ _ d) [(0,.bp 0 0),(1,.sl 1)] [] Q Q Q Q Q Q Q Q (.inl rfl) rfl (xw [3,4] ⟨[(7,.S 2)],[(0,.box (cC12 3 x1.2) 160),(2,.own (rI .u8) x1.1 true)],[(1,.sl (rI .u8) r_.b'),(3,.sl (rI .u8) x1.2.b')],4⟩ J 0 (WPr.cvs (el:=5) x1.1 (srcO rfl) Q Q Q Q Q (by kernel_rfl) (by kernel_rfl) (by kernel_rfl) rfl (shO rfl) rfl (ws J 1 Q (wn ?_))))
 cases h
 exact we J func93 [(2,.sl 3)] Q Q Q Q
theorem z163_23_ct (N:Nat) (c0_:T12) (c2_:Int) (c3_:Int) (r:Int × T12) (h:z163_23 N c0_ c2_ c3_=some r) :
 Fn Tryz.prog 163 ⟨5,[.B 2 0,.B 3 0,.B 4 0],[(1,.sl (rI .u8) c0_.b')],[(0,.box (cC12 1 c0_) 160),(2,.box [.bp 0 0] 115),(3,.box [.I c2_] 3),(4,.box [.I c3_] 3)],6,.I r.1,[(5,.sl (rI .u8) r.2.b')],[(0,.box (cC12 5 r.2) 160),(2,.box [.bp 0 0] 115),(3,.box [.I c2_] 3),(4,.box [.I c3_] 3)]⟩:=by
 refine wF func163 Q Q (fun E F w=>?_)
 unfold z163_23 at h
 refine wR J 1 Q (wq (wg (xw [3,4] (zz98 c0_ c2_ c3_ c0_.b' [(4,.B 0 0),(5,.I c2_),(6,.I c3_)]) J 3 ?_)))
 obtain ⟨x1,c,h⟩:=ob h
 refine wc (z164_ct N c0_ c2_ c3_ _ c) [(0,.bp 0 0),(1,.sl 1)] [] Q Q Q Q Q Q Q Q (.inl rfl) rfl (wx (zz153 x1.2 c2_ c3_ c0_.b' x1.2.b' [(3,.I x1.1)]) J 1 (wn ?_))
 cases h
 exact we J func163 [(5,.sl 5)] Q Q Q Q
theorem z140_24_ct (N:Nat) (c0_:T12) (c2_:Int) (c3_:Int) (r:Int × T12) (h:z140_24 N c0_ c2_ c3_=some r) :
 Fn Tryz.prog 140 ⟨5,[.B 0 0,.c (.cl 163 [] [2,3,4])],[(1,.sl (rI .u8) c0_.b')],[(0,.box (cC12 1 c0_) 160),(2,.box [.bp 0 0] 115),(3,.box [.I c2_] 3),(4,.box [.I c3_] 3)],6,.I r.1,[(5,.sl (rI .u8) r.2.b')],[(0,.box (cC12 5 r.2) 160),(2,.box [.bp 0 0] 115),(3,.box [.I c2_] 3),(4,.box [.I c3_] 3)]⟩:=by
 refine wF func140 Q Q (fun E F w=>?_)
 unfold z140_24 at h
 refine wR J 1 Q (wR J 1 Q (wq (wq (wg (xw (rg 1 7) (zz98 c0_ c2_ c3_ c0_.b' [(0,.B 0 0),(1,.c (.cl 163 [] [2,3,4])),(4,.I 0),(5,.I 0),(8,.B 0 0)]) J 1 (WPr.pnil (el:=160) false Q Q Q Q (by kernel_rfl) Q Q Q (wx (zz98 c0_ c2_ c3_ c0_.b' [(0,.B 0 0),(1,.c (.cl 163 [] [2,3,4])),(4,.I 0),(5,.I 0),(15,.O c0_.failed')]) J 6 (wn ?_))))))))
 obtain ⟨K,h⟩|⟨K,h⟩:=oc h
 ·refine wt K Q (wR J 2 Q ?_)
  cases h
  exact we J func140 [(5,.sl 1)] Q Q Q Q
 refine wf K Q (wi (wV (zz98 c0_ c2_ c3_ c0_.b' [(0,.B 0 0),(1,.c (.cl 163 [] [2,3,4])),(4,.I 0),(5,.I 0),(6,.I c0_.at')]) J 5 (wq (wg (ws J 1 Q ?_)))))
 obtain ⟨x1,d,h⟩:=ob h
 refine WPr.callc (z163_23_ct N c0_ c2_ c3_ _ d) [(0,.bp 0 0),(1,.sl 1),(2,.bp 2 0),(3,.bp 3 0),(4,.bp 4 0)] [] Q Q Q Q Q Q Q Q Q (.inl rfl) rfl (wx (zz153 x1.2 c2_ c3_ c0_.b' x1.2.b' [(0,.B 0 0),(4,.I 0),(5,.I 0),(6,.I c0_.at'),(7,.I x1.1)]) J 1 (wn (wq (wV (zz153 x1.2 c2_ c3_ c0_.b' x1.2.b' [(0,.B 0 0),(4,.I 0),(5,.I 0),(6,.I c0_.at'),(7,.I x1.1),(26,.O x1.2.failed')]) J 4 ?_))))
 obtain ⟨K,h⟩|⟨K,h⟩:=oc h
 ·refine wt K Q (wV ⟨[(4,.I 0),(5,.I 0)],[(0,.box [.sl 5,.I c0_.at',.b x1.2.failed'] 160),(2,.box [.bp 0 0] 115),(3,.box [.I c2_] 3),(4,.box [.I c3_] 3)],[(1,.sl (rI .u8) c0_.b'),(5,.sl (rI .u8) x1.2.b')],6⟩ J 5 (wR J 2 Q ?_))
  cases h
  exact we J func140 [(5,.sl 5)] Q Q Q Q
 refine wf K Q (wi (wR J 2 Q ?_))
 cases h
 exact we J func140 [(5,.sl 5)] Q Q Q Q
theorem z133_ct (N:Nat) (r_:T12) (lo_:Int) (hi_:Int) (r:Int × T12) (h:z133 N r_ lo_ hi_=some r) :
 Fn Tryz.prog 133 ⟨2,[.B 0 0,.I lo_,.I hi_],[(1,.sl (rI .u8) r_.b')],[(0,.box (cC12 1 r_) 160)],3,.I r.1,[(2,.sl (rI .u8) r.2.b')],[(0,.box (cC12 2 r.2) 160)]⟩:=by
 refine wF func133 Q Q (fun E F w=>?_)
 unfold z133 at h
 refine wV (zz98 r_ lo_ hi_ r_.b' [(3,.B 2 0),(4,.B 3 0),(5,.B 4 0),(6,.I 0)]) J 4 (wq (wg (ws J 2 Q ?_)))
 obtain ⟨x1,c,h⟩:=ob h
 refine wc (z140_24_ct N r_ lo_ hi_ _ c) [(0,.bp 0 0),(1,.sl 1),(2,.bp 2 0),(3,.bp 3 0),(4,.bp 4 0)] [] Q Q Q Q Q Q Q Q (.inl rfl) rfl (wx ⟨[(6,.I x1.1)],[(0,.box (cC12 5 x1.2) 160)],[(1,.sl (rI .u8) r_.b'),(5,.sl (rI .u8) x1.2.b')],6⟩ J 1 (wn ?_))
 cases h
 exact we J func133 [(2,.sl 5)] Q Q Q Q
theorem z95_ct (N:Nat) (r_:T12) (r:ByteArray × T12) (h:z95 N r_=some r) :
 Fn Tryz.prog 95 ⟨2,[.B 0 0],[(1,.sl (rI .u8) r_.b')],[(0,.box (cC12 1 r_) 160)],3,.c (.s r.1),[(2,.sl (rI .u8) r.2.b')],[(0,.box (cC12 2 r.2) 160)]⟩:=by
 refine wF func95 Q Q (fun E F w=>?_)
 unfold z95 at h
 refine wR J 1 Q (wq (wg (ws J 1 Q ?_)))
 obtain ⟨x1,d,h⟩:=ob h
 refine wc (z93_ct N r_ 16 _ d) [(0,.bp 0 0),(1,.sl 1)] [] Q Q Q Q Q Q Q Q (.inl rfl) rfl (wx (zz17 x1.2 r_.b' x1.2.b' [(2,.c (.s x1.1))]) J 1 (wn ?_))
 cases h
 exact we J func95 [(2,.sl 2)] Q Q Q Q
theorem z94_25_ct (N:Nat) (r_:T12) (most_:Int) (r:(List ByteArray) × T12) (h:z94_25 N r_ most_=some r) :
 Fn Tryz.prog 94 ⟨2,[.B 0 0,.I most_,.c (.cl 95 [] [])],[(1,.sl (rI .u8) r_.b')],[(0,.box (cC12 1 r_) 160)],4,.S 2,[(3,.sl (rI .u8) r.2.b')],[(2,.own rS r.1 true),(0,.box (cC12 3 r.2) 160)]⟩:=by
 refine wF func94 Q Q (fun E F w=>?_)
 unfold z94_25 at h
 refine wR J 1 Q (wR J 1 Q (wq (wq (wg (xw [2,3] (zz10 r_ r_.b' [(0,.B 0 0),(2,.c (.cl 95 [] [])),(6,.c .nil),(7,.c .nil),(8,.B 0 0),(9,.I most_)]) J 2 ?_)))))
 obtain ⟨x1,d,h⟩:=ob h
 refine wc (z133_ct N r_ 0 most_ _ d) [(0,.bp 0 0),(1,.sl 1)] [] Q Q Q Q Q Q Q Q (.inl rfl) rfl (wx (zz17 x1.2 r_.b' x1.2.b' [(0,.B 0 0),(2,.c (.cl 95 [] [])),(6,.c .nil),(7,.c .nil),(10,.I x1.1),(11,.I 0)]) J 1 (wn ?_))
 refine wC (σ:=(List Int) × Int × Bool × (List ByteArray)) (fun st=>(zz154 st.2.1 st.2.2.1 st.2.2.2 r_.b' st.1 [(7,.S 4)])) (fun st=>z94_25_k1 st.1 st.2.1 st.2.2.1 st.2.2.2=some r) ?_ (fun j1=>?_)
 ·rintro ⟨vbk0_0_0_1,vbk0_0_1_1,vbk0_0_2_1,e⟩ h
  replace h:z94_25_k1 vbk0_0_0_1 vbk0_0_1_1 vbk0_0_2_1 e=some r:=h
  unfold z94_25_k1 at h
  refine wR J 2 Q ?_
  cases h
  exact we J func94 [(2,.sl 4),(3,.sl 3)] Q Q Q Q
 refine wo ?_
 refine wI (σ:=(List Int) × Int × Bool × (List ByteArray) × Int) (fun st=>(zz154 st.2.1 st.2.2.1 st.2.2.2.1 r_.b' st.1 [(0,.B 0 0),(2,.c (.cl 95 [] [])),(7,.S 4),(10,.I x1.1),(11,.I st.2.2.2.2)])) (fun n st=>z94_25_l2 N x1 n st.1 st.2.1 st.2.2.1 st.2.2.2.1 st.2.2.2.2) (r:=r) (fun _=>rfl) ?_ (fun ih=>?_)
 ·intro n2 ih3
  rintro ⟨vbk0_0_0_3,vbk0_0_1_3,vbk0_0_2_3,f,g⟩ h
  replace h:z94_25_l2 N x1 (n2+1) vbk0_0_0_3 vbk0_0_1_3 vbk0_0_2_3 f g=some r:=h
  unfold z94_25_l2 at h
  refine wR J 1 Q (wq ?_)
  obtain ⟨K,h⟩|⟨K,h⟩:=oc' h
  ·exact wf K Q (wz rfl (wU (j1 (vbk0_0_0_3,vbk0_0_1_3,vbk0_0_2_3,f) h)))
  refine wt K Q (wi (wq (wo (wg (xw [3,4,5,6] (zz154 vbk0_0_1_3 vbk0_0_2_3 f r_.b' vbk0_0_0_3 [(0,.B 0 0),(2,.c (.cl 95 [] [])),(10,.I x1.1),(11,.I g),(13,.S 4),(14,.c (.cl 95 [] [])),(15,.B 0 0)]) J 3 ?_)))))
  obtain ⟨i,j,h⟩:=ob h
  refine WPr.callc (z95_ct N (⟨vbk0_0_0_3,vbk0_0_1_3,vbk0_0_2_3⟩:T12) _ j) [(0,.bp 0 0),(1,.sl 3)] [] Q Q Q Q Q Q Q Q Q (.inl rfl) rfl (xw [4,5,6] ⟨[(0,.B 0 0),(2,.c (.cl 95 [] [])),(10,.I x1.1),(11,.I g),(13,.S 4),(16,.c (.s i.1))],[(0,.box (cC12 5 i.2) 160),(4,.own rS f true)],[(1,.sl (rI .u8) r_.b'),(5,.sl (rI .u8) i.2.b')],6⟩ J 0 (WPr.bs (cs:=[.s i.1]) oS J ([i.1]:List ByteArray) Q Q Q Q Q Q (by kernel_rfl) (by exact (an Q Q)) rfl ?_))
  obtain ⟨k,l,h⟩:=ob h
  exact WPr.app J l (by exact (srcO rfl)) Q Q Q Q Q Q Q Q Q Q (wx ⟨[(0,.B 0 0),(2,.c (.cl 95 [] [])),(7,.S 7),(10,.I x1.1),(11,.I g)],[(0,.box (cC12 5 i.2) 160),(7,.own rS k true)],[(1,.sl (rI .u8) r_.b'),(5,.sl (rI .u8) i.2.b')],8⟩ J 1 (wn (wb (wS J 2 Q (wu [(3,.sl 5),(4,.sl 7)] (ih3 (i.2.b',i.2.at',i.2.failed',k,(w64 (g+1))) h) Q Q Q Q)))))
 exact wu [(3,.sl 2),(4,.nil)] (ih N (x1.2.b',x1.2.at',x1.2.failed',([]:List ByteArray),0) h) Q Q Q Q
theorem z140_26_ct (N:Nat) (c0_:T12) (r:Int × T12) (h:z140_26 N c0_=some r) :
 Fn Tryz.prog 140 ⟨2,[.B 0 0,.c (.cl 141 [0] [])],[(1,.sl (rI .u8) c0_.b')],[(0,.box (cC12 1 c0_) 160)],3,.I r.1,[(2,.sl (rI .u8) r.2.b')],[(0,.box (cC12 2 r.2) 160)]⟩:=by
 refine wF func140 Q Q (fun E F w=>?_)
 unfold z140_26 at h
 refine wR J 1 Q (wR J 1 Q (wq (wq (wg (xw (rg 1 7) (zz10 c0_ c0_.b' [(0,.B 0 0),(1,.c (.cl 141 [0] [])),(4,.I 0),(5,.I 0),(8,.B 0 0)]) J 1 (WPr.pnil (el:=160) false Q Q Q Q (by kernel_rfl) Q Q Q (wx (zz10 c0_ c0_.b' [(0,.B 0 0),(1,.c (.cl 141 [0] [])),(4,.I 0),(5,.I 0),(15,.O c0_.failed')]) J 6 (wn ?_))))))))
 obtain ⟨K,h⟩|⟨K,h⟩:=oc h
 ·refine wt K Q (wR J 2 Q ?_)
  cases h
  exact we J func140 [(2,.sl 1)] Q Q Q Q
 refine wf K Q (wi (wV (zz10 c0_ c0_.b' [(0,.B 0 0),(1,.c (.cl 141 [0] [])),(4,.I 0),(5,.I 0),(6,.I c0_.at')]) J 5 (wq (wg (ws J 1 Q ?_)))))
 obtain ⟨x1,d,h⟩:=ob h
 refine WPr.callc (z141_ct N c0_ _ d) [(0,.bp 0 0),(1,.sl 1)] [] Q Q Q Q Q Q Q Q Q (.inl rfl) rfl (wx (zz17 x1.2 c0_.b' x1.2.b' [(0,.B 0 0),(4,.I 0),(5,.I 0),(6,.I c0_.at'),(7,.I x1.1)]) J 1 (wn (wq (wV (zz17 x1.2 c0_.b' x1.2.b' [(0,.B 0 0),(4,.I 0),(5,.I 0),(6,.I c0_.at'),(7,.I x1.1),(26,.O x1.2.failed')]) J 4 ?_))))
 obtain ⟨K,h⟩|⟨K,h⟩:=oc h
 ·refine wt K Q (wV (zz74 c0_.at' x1.2.failed' c0_.b' x1.2.b' [(4,.I 0),(5,.I 0)]) J 5 (wR J 2 Q ?_))
  cases h
  exact we J func140 [(2,.sl 2)] Q Q Q Q
 refine wf K Q (wi (wR J 2 Q ?_))
 cases h
 exact we J func140 [(2,.sl 2)] Q Q Q Q
theorem z98_ct (N:Nat) (r_:T12) (r:Int × T12) (h:z98 N r_=some r) :
 Fn Tryz.prog 98 ⟨2,[.B 0 0],[(1,.sl (rI .u8) r_.b')],[(0,.box (cC12 1 r_) 160)],3,.I r.1,[(2,.sl (rI .u8) r.2.b')],[(0,.box (cC12 2 r.2) 160)]⟩:=by
 refine wF func98 Q Q (fun E F w=>?_)
 unfold z98 at h
 refine wR J 1 Q (wq (wg (xw [3,4] (zz10 r_ r_.b' [(3,.B 0 0),(5,.c (.cl 141 [0] []))]) J 3 ?_)))
 obtain ⟨x1,d,h⟩:=ob h
 refine wc (z140_26_ct N r_ _ d) [(0,.bp 0 0),(1,.sl 1)] [] Q Q Q Q Q Q Q Q (.inl rfl) rfl (wx (zz17 x1.2 r_.b' x1.2.b' [(2,.I x1.1)]) J 1 (wn ?_))
 cases h
 exact we J func98 [(2,.sl 2)] Q Q Q Q
theorem z135_ct (N:Nat) (r_:T12) (r:T3 × T12) (h:z135 N r_=some r) :
 Fn Tryz.prog 135 ⟨2,[.B 0 0],[(1,.sl (rI .u8) r_.b')],[(0,.box (cC12 1 r_) 160)],3,.a (cC3 r.1),[(2,.sl (rI .u8) r.2.b')],[(0,.box (cC12 2 r.2) 160)]⟩:=by
 refine wF func135 Q Q (fun E F w=>?_)
 unfold z135 at h
 refine wR J 1 Q (wq (wg (ws J 1 Q ?_)))
 obtain ⟨x1,c,h⟩:=ob h
 refine wc (z93_ct N r_ 16 _ c) [(0,.bp 0 0),(1,.sl 1)] [] Q Q Q Q Q Q Q Q (.inl rfl) rfl (wx ⟨[(0,.B 0 0),(2,.B 2 0),(3,.B 4 0)],[(0,.box (cC12 3 x1.2) 160),(2,.box [.s (str []),.I 0,.I 0,.I 0] 141),(4,.box [.s x1.1,.I 0,.I 0,.I 0] 141)],[(1,.sl (rI .u8) r_.b'),(3,.sl (rI .u8) x1.2.b')],5⟩ J 3 (wn (wq (wg (ws J 1 Q ?_)))))
 obtain ⟨x2,d,h⟩:=ob h
 refine wc (z98_ct N x1.2 _ d) [(0,.bp 0 0),(1,.sl 3)] [] Q Q Q Q Q Q Q Q (.inl rfl) rfl (wx ⟨[(0,.B 0 0),(2,.B 2 0),(3,.B 4 0)],[(0,.box (cC12 5 x2.2) 160),(2,.box [.s (str []),.I 0,.I 0,.I 0] 141),(4,.box [.s x1.1,.I x2.1,.I 0,.I 0] 141)],[(1,.sl (rI .u8) r_.b'),(5,.sl (rI .u8) x2.2.b')],6⟩ J 3 (wn (wq (wg (ws J 1 Q ?_)))))
 obtain ⟨x3,e,h⟩:=ob h
 refine wc (z98_ct N x2.2 _ e) [(0,.bp 0 0),(1,.sl 5)] [] Q Q Q Q Q Q Q Q (.inl rfl) rfl (wx ⟨[(0,.B 0 0),(2,.B 2 0),(3,.B 4 0)],[(0,.box (cC12 6 x3.2) 160),(2,.box [.s (str []),.I 0,.I 0,.I 0] 141),(4,.box [.s x1.1,.I x2.1,.I x3.1,.I 0] 141)],[(1,.sl (rI .u8) r_.b'),(6,.sl (rI .u8) x3.2.b')],7⟩ J 3 (wn (wq (wg (ws J 1 Q ?_)))))
 obtain ⟨x4,f,h⟩:=ob h
 refine wc (z98_ct N x3.2 _ f) [(0,.bp 0 0),(1,.sl 6)] [] Q Q Q Q Q Q Q Q (.inl rfl) rfl (wx ⟨[(2,.B 2 0),(3,.B 4 0)],[(0,.box (cC12 7 x4.2) 160),(2,.box [.s (str []),.I 0,.I 0,.I 0] 141),(4,.box [.s x1.1,.I x2.1,.I x3.1,.I x4.1] 141)],[(1,.sl (rI .u8) r_.b'),(7,.sl (rI .u8) x4.2.b')],8⟩ J 3 (wn (wR J 2 Q ?_)))
 cases h
 exact we J func135 [(2,.sl 7)] Q Q Q Q
theorem z134_27_ct (N:Nat) (r_:T12) (most_:Int) (r:(List T3) × T12) (h:z134_27 N r_ most_=some r) :
 Fn Tryz.prog 134 ⟨2,[.B 0 0,.I most_,.c (.cl 135 [] [])],[(1,.sl (rI .u8) r_.b')],[(0,.box (cC12 1 r_) 160)],4,.S 2,[(3,.sl (rI .u8) r.2.b')],[(2,.own rR3 r.1 true),(0,.box (cC12 3 r.2) 160)]⟩:=by
 refine wF func134 Q Q (fun E F w=>?_)
 unfold z134_27 at h
 refine wR J 1 Q (wR J 1 Q (wq (wq (wg (xw [2,3] (zz10 r_ r_.b' [(0,.B 0 0),(2,.c (.cl 135 [] [])),(6,.c .nil),(7,.c .nil),(8,.B 0 0),(9,.I most_)]) J 2 ?_)))))
 obtain ⟨x1,d,h⟩:=ob h
 refine wc (z133_ct N r_ 0 most_ _ d) [(0,.bp 0 0),(1,.sl 1)] [] Q Q Q Q Q Q Q Q (.inl rfl) rfl (wx (zz17 x1.2 r_.b' x1.2.b' [(0,.B 0 0),(2,.c (.cl 135 [] [])),(6,.c .nil),(7,.c .nil),(10,.I x1.1),(11,.I 0)]) J 1 (wn ?_))
 refine wC (σ:=(List Int) × Int × Bool × (List T3)) (fun st=>(zz155 st.2.1 st.2.2.1 st.2.2.2 r_.b' st.1 [(7,.S 4)])) (fun st=>z134_27_k1 st.1 st.2.1 st.2.2.1 st.2.2.2=some r) ?_ (fun j1=>?_)
 ·rintro ⟨vbk0_0_0_1,vbk0_0_1_1,vbk0_0_2_1,e⟩ h
  replace h:z134_27_k1 vbk0_0_0_1 vbk0_0_1_1 vbk0_0_2_1 e=some r:=h
  unfold z134_27_k1 at h
  refine wR J 2 Q ?_
  cases h
  exact we J func134 [(2,.sl 4),(3,.sl 3)] Q Q Q Q
 refine wo ?_
 refine wI (σ:=(List Int) × Int × Bool × (List T3) × Int) (fun st=>(zz155 st.2.1 st.2.2.1 st.2.2.2.1 r_.b' st.1 [(0,.B 0 0),(2,.c (.cl 135 [] [])),(7,.S 4),(10,.I x1.1),(11,.I st.2.2.2.2)])) (fun n st=>z134_27_l2 N x1 n st.1 st.2.1 st.2.2.1 st.2.2.2.1 st.2.2.2.2) (r:=r) (fun _=>rfl) ?_ (fun ih=>?_)
 ·intro n2 ih3
  rintro ⟨vbk0_0_0_3,vbk0_0_1_3,vbk0_0_2_3,f,g⟩ h
  replace h:z134_27_l2 N x1 (n2+1) vbk0_0_0_3 vbk0_0_1_3 vbk0_0_2_3 f g=some r:=h
  unfold z134_27_l2 at h
  refine wR J 1 Q (wq ?_)
  obtain ⟨K,h⟩|⟨K,h⟩:=oc' h
  ·exact wf K Q (wz rfl (wU (j1 (vbk0_0_0_3,vbk0_0_1_3,vbk0_0_2_3,f) h)))
  refine wt K Q (wi (wq (wo (wg (xw [3,4,5,6] (zz155 vbk0_0_1_3 vbk0_0_2_3 f r_.b' vbk0_0_0_3 [(0,.B 0 0),(2,.c (.cl 135 [] [])),(10,.I x1.1),(11,.I g),(13,.S 4),(14,.c (.cl 135 [] [])),(15,.B 0 0)]) J 3 ?_)))))
  obtain ⟨i,j,h⟩:=ob h
  refine WPr.callc (z135_ct N (⟨vbk0_0_0_3,vbk0_0_1_3,vbk0_0_2_3⟩:T12) _ j) [(0,.bp 0 0),(1,.sl 3)] [] Q Q Q Q Q Q Q Q Q (.inl rfl) rfl (xw [4,5,6] ⟨[(0,.B 0 0),(2,.c (.cl 135 [] [])),(10,.I x1.1),(11,.I g),(13,.S 4),(16,.a (cC3 i.1))],[(0,.box (cC12 5 i.2) 160),(4,.own rR3 f true)],[(1,.sl (rI .u8) r_.b'),(5,.sl (rI .u8) i.2.b')],6⟩ J 0 (WPr.bs (cs:=(cC3 i.1)) oO3 J ([i.1]:List T3) Q Q Q Q Q Q (by kernel_rfl) (by exact (an (an rfl (an rfl (an Q Q))) rfl)) rfl ?_))
  obtain ⟨k,l,h⟩:=ob h
  exact WPr.app J l (by exact (srcO rfl)) Q Q Q Q Q Q Q Q Q Q (wx ⟨[(0,.B 0 0),(2,.c (.cl 135 [] [])),(7,.S 7),(10,.I x1.1),(11,.I g)],[(0,.box (cC12 5 i.2) 160),(7,.own rR3 k true)],[(1,.sl (rI .u8) r_.b'),(5,.sl (rI .u8) i.2.b')],8⟩ J 1 (wn (wb (wS J 2 Q (wu [(3,.sl 5),(4,.sl 7)] (ih3 (i.2.b',i.2.at',i.2.failed',k,(w64 (g+1))) h) Q Q Q Q)))))
 exact wu [(3,.sl 2),(4,.nil)] (ih N (x1.2.b',x1.2.at',x1.2.failed',([]:List T3),0) h) Q Q Q Q
theorem z137_ct (N:Nat) (r_:T12) (r:T1 × T12) (h:z137 N r_=some r) :
 Fn Tryz.prog 137 ⟨2,[.B 0 0],[(1,.sl (rI .u8) r_.b')],[(0,.box (cC12 1 r_) 160)],3,.a (cC1 r.1),[(2,.sl (rI .u8) r.2.b')],[(0,.box (cC12 2 r.2) 160)]⟩:=by
 refine wF func137 Q Q (fun E F w=>?_)
 unfold z137 at h
 refine wR J 1 Q (wq (wg (ws J 1 Q ?_)))
 obtain ⟨x1,c,h⟩:=ob h
 refine wc (z98_ct N r_ _ c) [(0,.bp 0 0),(1,.sl 1)] [] Q Q Q Q Q Q Q Q (.inl rfl) rfl (wx ⟨[(0,.B 0 0),(2,.B 2 0),(3,.B 4 0)],[(0,.box (cC12 3 x1.2) 160),(2,.box [.I 0,.I 0,.I 0] 144),(4,.box [.I x1.1,.I 0,.I 0] 144)],[(1,.sl (rI .u8) r_.b'),(3,.sl (rI .u8) x1.2.b')],5⟩ J 3 (wn (wq (wg (ws J 1 Q ?_)))))
 obtain ⟨x2,d,h⟩:=ob h
 refine wc (z98_ct N x1.2 _ d) [(0,.bp 0 0),(1,.sl 3)] [] Q Q Q Q Q Q Q Q (.inl rfl) rfl (wx ⟨[(0,.B 0 0),(2,.B 2 0),(3,.B 4 0)],[(0,.box (cC12 5 x2.2) 160),(2,.box [.I 0,.I 0,.I 0] 144),(4,.box [.I x1.1,.I x2.1,.I 0] 144)],[(1,.sl (rI .u8) r_.b'),(5,.sl (rI .u8) x2.2.b')],6⟩ J 2 (wn (wq (wg (ws J 1 Q ?_)))))
 obtain ⟨x3,e,h⟩:=ob h
 refine wc (z98_ct N x2.2 _ e) [(0,.bp 0 0),(1,.sl 5)] [] Q Q Q Q Q Q Q Q (.inl rfl) rfl (wx ⟨[(2,.B 2 0),(3,.B 4 0)],[(0,.box (cC12 6 x3.2) 160),(2,.box [.I 0,.I 0,.I 0] 144),(4,.box [.I x1.1,.I x2.1,.I x3.1] 144)],[(1,.sl (rI .u8) r_.b'),(6,.sl (rI .u8) x3.2.b')],7⟩ J 2 (wn (wR J 2 Q ?_)))
 cases h
 exact we J func137 [(2,.sl 6)] Q Q Q Q
theorem z136_28_ct (N:Nat) (r_:T12) (most_:Int) (r:(List T1) × T12) (h:z136_28 N r_ most_=some r) :
 Fn Tryz.prog 136 ⟨2,[.B 0 0,.I most_,.c (.cl 137 [] [])],[(1,.sl (rI .u8) r_.b')],[(0,.box (cC12 1 r_) 160)],4,.S 2,[(3,.sl (rI .u8) r.2.b')],[(2,.own rR1 r.1 true),(0,.box (cC12 3 r.2) 160)]⟩:=by
 refine wF func136 Q Q (fun E F w=>?_)
 unfold z136_28 at h
 refine wR J 1 Q (wR J 1 Q (wq (wq (wg (xw [2,3] (zz10 r_ r_.b' [(0,.B 0 0),(2,.c (.cl 137 [] [])),(6,.c .nil),(7,.c .nil),(8,.B 0 0),(9,.I most_)]) J 2 ?_)))))
 obtain ⟨x1,d,h⟩:=ob h
 refine wc (z133_ct N r_ 0 most_ _ d) [(0,.bp 0 0),(1,.sl 1)] [] Q Q Q Q Q Q Q Q (.inl rfl) rfl (wx (zz17 x1.2 r_.b' x1.2.b' [(0,.B 0 0),(2,.c (.cl 137 [] [])),(6,.c .nil),(7,.c .nil),(10,.I x1.1),(11,.I 0)]) J 1 (wn ?_))
 refine wC (σ:=(List Int) × Int × Bool × (List T1)) (fun st=>(zz156 st.2.1 st.2.2.1 st.2.2.2 r_.b' st.1 [(7,.S 4)])) (fun st=>z136_28_k1 st.1 st.2.1 st.2.2.1 st.2.2.2=some r) ?_ (fun j1=>?_)
 ·rintro ⟨vbk0_0_0_1,vbk0_0_1_1,vbk0_0_2_1,e⟩ h
  replace h:z136_28_k1 vbk0_0_0_1 vbk0_0_1_1 vbk0_0_2_1 e=some r:=h
  unfold z136_28_k1 at h
  refine wR J 2 Q ?_
  cases h
  exact we J func136 [(2,.sl 4),(3,.sl 3)] Q Q Q Q
 refine wo ?_
 refine wI (σ:=(List Int) × Int × Bool × (List T1) × Int) (fun st=>(zz156 st.2.1 st.2.2.1 st.2.2.2.1 r_.b' st.1 [(0,.B 0 0),(2,.c (.cl 137 [] [])),(7,.S 4),(10,.I x1.1),(11,.I st.2.2.2.2)])) (fun n st=>z136_28_l2 N x1 n st.1 st.2.1 st.2.2.1 st.2.2.2.1 st.2.2.2.2) (r:=r) (fun _=>rfl) ?_ (fun ih=>?_)
 ·intro n2 ih3
  rintro ⟨vbk0_0_0_3,vbk0_0_1_3,vbk0_0_2_3,f,g⟩ h
  replace h:z136_28_l2 N x1 (n2+1) vbk0_0_0_3 vbk0_0_1_3 vbk0_0_2_3 f g=some r:=h
  unfold z136_28_l2 at h
  refine wR J 1 Q (wq ?_)
  obtain ⟨K,h⟩|⟨K,h⟩:=oc' h
  ·exact wf K Q (wz rfl (wU (j1 (vbk0_0_0_3,vbk0_0_1_3,vbk0_0_2_3,f) h)))
  refine wt K Q (wi (wq (wo (wg (xw [3,4,5,6] (zz156 vbk0_0_1_3 vbk0_0_2_3 f r_.b' vbk0_0_0_3 [(0,.B 0 0),(2,.c (.cl 137 [] [])),(10,.I x1.1),(11,.I g),(13,.S 4),(14,.c (.cl 137 [] [])),(15,.B 0 0)]) J 3 ?_)))))
  obtain ⟨i,j,h⟩:=ob h
  refine WPr.callc (z137_ct N (⟨vbk0_0_0_3,vbk0_0_1_3,vbk0_0_2_3⟩:T12) _ j) [(0,.bp 0 0),(1,.sl 3)] [] Q Q Q Q Q Q Q Q Q (.inl rfl) rfl (xw [4,5,6] ⟨[(0,.B 0 0),(2,.c (.cl 137 [] [])),(10,.I x1.1),(11,.I g),(13,.S 4),(16,.a (cC1 i.1))],[(0,.box (cC12 5 i.2) 160),(4,.own rR1 f true)],[(1,.sl (rI .u8) r_.b'),(5,.sl (rI .u8) i.2.b')],6⟩ J 0 (WPr.bs (cs:=(cC1 i.1)) oO1 J ([i.1]:List T1) Q Q Q Q Q Q (by kernel_rfl) (by exact (an (an rfl (an Q Q)) rfl)) rfl ?_))
  obtain ⟨k,l,h⟩:=ob h
  exact WPr.app J l (by exact (srcO rfl)) Q Q Q Q Q Q Q Q Q Q (wx ⟨[(0,.B 0 0),(2,.c (.cl 137 [] [])),(7,.S 7),(10,.I x1.1),(11,.I g)],[(0,.box (cC12 5 i.2) 160),(7,.own rR1 k true)],[(1,.sl (rI .u8) r_.b'),(5,.sl (rI .u8) i.2.b')],8⟩ J 1 (wn (wb (wS J 2 Q (wu [(3,.sl 5),(4,.sl 7)] (ih3 (i.2.b',i.2.at',i.2.failed',k,(w64 (g+1))) h) Q Q Q Q)))))
 exact wu [(3,.sl 2),(4,.nil)] (ih N (x1.2.b',x1.2.at',x1.2.failed',([]:List T1),0) h) Q Q Q Q
theorem z139_ct (N:Nat) (r_:T12) (r:(Int × Int) × T12) (h:z139 N r_=some r) :
 Fn Tryz.prog 139 ⟨2,[.B 0 0],[(1,.sl (rI .u8) r_.b')],[(0,.box (cC12 1 r_) 160)],3,.a [.I r.1.1,.I r.1.2],[(2,.sl (rI .u8) r.2.b')],[(0,.box (cC12 2 r.2) 160)]⟩:=by
 refine wF func139 Q Q (fun E F w=>?_)
 unfold z139 at h
 refine wR J 1 Q (wq (wg (ws J 1 Q ?_)))
 obtain ⟨x1,c,h⟩:=ob h
 refine wc (z98_ct N r_ _ c) [(0,.bp 0 0),(1,.sl 1)] [] Q Q Q Q Q Q Q Q (.inl rfl) rfl (wx ⟨[(0,.B 0 0),(2,.B 2 0),(3,.I x1.1)],[(0,.box (cC12 3 x1.2) 160),(2,.box [.I 0,.I 0] 146)],[(1,.sl (rI .u8) r_.b'),(3,.sl (rI .u8) x1.2.b')],4⟩ J 1 (wn (wq (wg (ws J 2 Q ?_)))))
 obtain ⟨x2,d,h⟩:=ob h
 refine wc (z98_ct N x1.2 _ d) [(0,.bp 0 0),(1,.sl 3)] [] Q Q Q Q Q Q Q Q (.inl rfl) rfl (wx ⟨[(2,.B 2 0)],[(0,.box (cC12 4 x2.2) 160),(2,.box [.I x1.1,.I x2.1] 146)],[(1,.sl (rI .u8) r_.b'),(4,.sl (rI .u8) x2.2.b')],5⟩ J 2 (wn ?_))
 cases h
 exact we J func139 [(2,.sl 4)] Q Q Q Q
theorem z138_29_ct (N:Nat) (r_:T12) (most_:Int) (r:(List (Int × Int)) × T12) (h:z138_29 N r_ most_=some r) :
 Fn Tryz.prog 138 ⟨2,[.B 0 0,.I most_,.c (.cl 139 [] [])],[(1,.sl (rI .u8) r_.b')],[(0,.box (cC12 1 r_) 160)],4,.S 2,[(3,.sl (rI .u8) r.2.b')],[(2,.own (rP (rI .i64) (rI .i64)) r.1 true),(0,.box (cC12 3 r.2) 160)]⟩:=by
 refine wF func138 Q Q (fun E F w=>?_)
 unfold z138_29 at h
 refine wR J 1 Q (wR J 1 Q (wq (wq (wg (xw [2,3] (zz10 r_ r_.b' [(0,.B 0 0),(2,.c (.cl 139 [] [])),(6,.c .nil),(7,.c .nil),(8,.B 0 0),(9,.I most_)]) J 2 ?_)))))
 obtain ⟨x1,d,h⟩:=ob h
 refine wc (z133_ct N r_ 0 most_ _ d) [(0,.bp 0 0),(1,.sl 1)] [] Q Q Q Q Q Q Q Q (.inl rfl) rfl (wx (zz17 x1.2 r_.b' x1.2.b' [(0,.B 0 0),(2,.c (.cl 139 [] [])),(6,.c .nil),(7,.c .nil),(10,.I x1.1),(11,.I 0)]) J 1 (wn ?_))
 refine wC (σ:=(List Int) × Int × Bool × (List (Int × Int))) (fun st=>(zz157 st.2.1 st.2.2.1 st.2.2.2 r_.b' st.1 [(7,.S 4)])) (fun st=>z138_29_k1 st.1 st.2.1 st.2.2.1 st.2.2.2=some r) ?_ (fun j1=>?_)
 ·rintro ⟨vbk0_0_0_1,vbk0_0_1_1,vbk0_0_2_1,e⟩ h
  replace h:z138_29_k1 vbk0_0_0_1 vbk0_0_1_1 vbk0_0_2_1 e=some r:=h
  unfold z138_29_k1 at h
  refine wR J 2 Q ?_
  cases h
  exact we J func138 [(2,.sl 4),(3,.sl 3)] Q Q Q Q
 refine wo ?_
 refine wI (σ:=(List Int) × Int × Bool × (List (Int × Int)) × Int) (fun st=>(zz157 st.2.1 st.2.2.1 st.2.2.2.1 r_.b' st.1 [(0,.B 0 0),(2,.c (.cl 139 [] [])),(7,.S 4),(10,.I x1.1),(11,.I st.2.2.2.2)])) (fun n st=>z138_29_l2 N x1 n st.1 st.2.1 st.2.2.1 st.2.2.2.1 st.2.2.2.2) (r:=r) (fun _=>rfl) ?_ (fun ih=>?_)
 ·intro n2 ih3
  rintro ⟨vbk0_0_0_3,vbk0_0_1_3,vbk0_0_2_3,f,g⟩ h
  replace h:z138_29_l2 N x1 (n2+1) vbk0_0_0_3 vbk0_0_1_3 vbk0_0_2_3 f g=some r:=h
  unfold z138_29_l2 at h
  refine wR J 1 Q (wq ?_)
  obtain ⟨K,h⟩|⟨K,h⟩:=oc' h
  ·exact wf K Q (wz rfl (wU (j1 (vbk0_0_0_3,vbk0_0_1_3,vbk0_0_2_3,f) h)))
  refine wt K Q (wi (wq (wo (wg (xw [3,4,5,6] (zz157 vbk0_0_1_3 vbk0_0_2_3 f r_.b' vbk0_0_0_3 [(0,.B 0 0),(2,.c (.cl 139 [] [])),(10,.I x1.1),(11,.I g),(13,.S 4),(14,.c (.cl 139 [] [])),(15,.B 0 0)]) J 3 ?_)))))
  obtain ⟨i,j,h⟩:=ob h
  refine WPr.callc (z139_ct N (⟨vbk0_0_0_3,vbk0_0_1_3,vbk0_0_2_3⟩:T12) _ j) [(0,.bp 0 0),(1,.sl 3)] [] Q Q Q Q Q Q Q Q Q (.inl rfl) rfl (xw [4,5,6] ⟨[(0,.B 0 0),(2,.c (.cl 139 [] [])),(10,.I x1.1),(11,.I g),(13,.S 4),(16,.a [.I i.1.1,.I i.1.2])],[(0,.box (cC12 5 i.2) 160),(4,.own (rP (rI .i64) (rI .i64)) f true)],[(1,.sl (rI .u8) r_.b'),(5,.sl (rI .u8) i.2.b')],6⟩ J 0 (WPr.bs (cs:=[.I i.1.1,.I i.1.2]) (oP (oI .i64) (oI .i64)) J ([(i.1.1,i.1.2)]:List (Int × Int)) Q Q Q Q Q Q (by kernel_rfl) (by exact (an (an Q Q) rfl)) rfl ?_))
  obtain ⟨k,l,h⟩:=ob h
  exact WPr.app J l (by exact (srcO rfl)) Q Q Q Q Q Q Q Q Q Q (wx ⟨[(0,.B 0 0),(2,.c (.cl 139 [] [])),(7,.S 7),(10,.I x1.1),(11,.I g)],[(0,.box (cC12 5 i.2) 160),(7,.own (rP (rI .i64) (rI .i64)) k true)],[(1,.sl (rI .u8) r_.b'),(5,.sl (rI .u8) i.2.b')],8⟩ J 1 (wn (wb (wS J 2 Q (wu [(3,.sl 5),(4,.sl 7)] (ih3 (i.2.b',i.2.at',i.2.failed',k,(w64 (g+1))) h) Q Q Q Q)))))
 exact wu [(3,.sl 2),(4,.nil)] (ih N (x1.2.b',x1.2.at',x1.2.failed',([]:List (Int × Int)),0) h) Q Q Q Q
theorem z97_ct (N:Nat) (r_:T12) (r:T0 × T12) (h:z97 N r_=some r) :
 Fn Tryz.prog 97 ⟨2,[.B 0 0],[(1,.sl (rI .u8) r_.b')],[(0,.box (cC12 1 r_) 160)],6,.a (cC0 2 3 4 r.1),(vV0 2 3 4 r.1 [(5,.sl (rI .u8) r.2.b')]),[(0,.box (cC12 5 r.2) 160)]⟩:=by
 refine wF func97 Q Q (fun E F w=>?_)
 unfold z97 at h
 refine wR J 1 Q (wq (wg (ws J 1 Q ?_)))
 obtain ⟨x1,c,h⟩:=ob h
 refine wc (z93_ct N r_ 50 _ c) [(0,.bp 0 0),(1,.sl 1)] [] Q Q Q Q Q Q Q Q (.inl rfl) rfl (wx ⟨[(0,.B 0 0),(2,.B 2 0),(3,.B 4 0)],[(0,.box (cC12 3 x1.2) 160),(2,.box [.s (str []),.nil,.I 0,.nil,.nil] 94),(4,.box [.s x1.1,.nil,.I 0,.nil,.nil] 94)],[(1,.sl (rI .u8) r_.b'),(3,.sl (rI .u8) x1.2.b')],5⟩ J 3 (wn (wq (wg (ws J 1 Q ?_)))))
 obtain ⟨x2,d,h⟩:=ob h
 refine wc (z134_27_ct N x1.2 4 _ d) [(0,.bp 0 0),(1,.sl 3)] [] Q Q Q Q Q Q Q Q (.inl rfl) rfl (wx ⟨[(0,.B 0 0),(2,.B 2 0),(3,.B 4 0)],[(0,.box (cC12 6 x2.2) 160),(2,.box [.s (str []),.nil,.I 0,.nil,.nil] 94),(4,.box [.s x1.1,.sl 5,.I 0,.nil,.nil] 94),(5,.own rR3 x2.1 true)],[(1,.sl (rI .u8) r_.b'),(6,.sl (rI .u8) x2.2.b')],7⟩ J 2 (wn (wq (wg (ws J 1 Q ?_)))))
 obtain ⟨x3,e,h⟩:=ob h
 refine wc (z98_ct N x2.2 _ e) [(0,.bp 0 0),(1,.sl 6)] [] Q Q Q Q Q Q Q Q (.inl rfl) rfl (wx ⟨[(0,.B 0 0),(2,.B 2 0),(3,.B 4 0)],[(0,.box (cC12 7 x3.2) 160),(2,.box [.s (str []),.nil,.I 0,.nil,.nil] 94),(4,.box [.s x1.1,.sl 5,.I x3.1,.nil,.nil] 94),(5,.own rR3 x2.1 true)],[(1,.sl (rI .u8) r_.b'),(7,.sl (rI .u8) x3.2.b')],8⟩ J 2 (wn (wq (wg (ws J 1 Q ?_)))))
 obtain ⟨x4,f,h⟩:=ob h
 refine wc (z136_28_ct N x3.2 20 _ f) [(0,.bp 0 0),(1,.sl 7)] [] Q Q Q Q Q Q Q Q (.inl rfl) rfl (wx ⟨[(0,.B 0 0),(2,.B 2 0),(3,.B 4 0)],[(0,.box (cC12 9 x4.2) 160),(2,.box [.s (str []),.nil,.I 0,.nil,.nil] 94),(4,.box [.s x1.1,.sl 5,.I x3.1,.sl 8,.nil] 94),(5,.own rR3 x2.1 true),(8,.own rR1 x4.1 true)],[(1,.sl (rI .u8) r_.b'),(9,.sl (rI .u8) x4.2.b')],10⟩ J 3 (wn (wq (wg (ws J 1 Q ?_)))))
 obtain ⟨x5,g,h⟩:=ob h
 refine wc (z138_29_ct N x4.2 20 _ g) [(0,.bp 0 0),(1,.sl 9)] [] Q Q Q Q Q Q Q Q (.inl rfl) rfl (wx ⟨[(2,.B 2 0),(3,.B 4 0)],[(0,.box (cC12 11 x5.2) 160),(2,.box [.s (str []),.nil,.I 0,.nil,.nil] 94),(4,.box [.s x1.1,.sl 5,.I x3.1,.sl 8,.sl 10] 94),(5,.own rR3 x2.1 true),(8,.own rR1 x4.1 true),(10,.own (rP (rI .i64) (rI .i64)) x5.1 true)],[(1,.sl (rI .u8) r_.b'),(11,.sl (rI .u8) x5.2.b')],12⟩ J 3 (wn (wR J 2 Q (WP.frz 5 rfl (WP.frz 8 rfl (WP.frz 10 rfl ?_))))))
 cases h
 exact we J func97 [(2,.sl 5),(3,.sl 8),(4,.sl 10),(5,.sl 11)] Q Q Q Q
theorem z96_30_ct (N:Nat) (r_:T12) (most_:Int) (r:(List T0) × T12) (h:z96_30 N r_ most_=some r) :
 Fn Tryz.prog 96 ⟨2,[.B 0 0,.I most_,.c (.cl 97 [] [])],[(1,.sl (rI .u8) r_.b')],[(0,.box (cC12 1 r_) 160)],4,.S 2,[(3,.sl (rI .u8) r.2.b')],[(2,.own rR0 r.1 true),(0,.box (cC12 3 r.2) 160)]⟩:=by
 refine wF func96 Q Q (fun E F w=>?_)
 unfold z96_30 at h
 refine wR J 1 Q (wR J 1 Q (wq (wq (wg (xw [2,3] (zz10 r_ r_.b' [(0,.B 0 0),(2,.c (.cl 97 [] [])),(6,.c .nil),(7,.c .nil),(8,.B 0 0),(9,.I most_)]) J 2 ?_)))))
 obtain ⟨x1,d,h⟩:=ob h
 refine wc (z133_ct N r_ 0 most_ _ d) [(0,.bp 0 0),(1,.sl 1)] [] Q Q Q Q Q Q Q Q (.inl rfl) rfl (wx (zz17 x1.2 r_.b' x1.2.b' [(0,.B 0 0),(2,.c (.cl 97 [] [])),(6,.c .nil),(7,.c .nil),(10,.I x1.1),(11,.I 0)]) J 1 (wn ?_))
 refine wC (σ:=(List Int) × Int × Bool × (List T0)) (fun st=>(zz158 st.2.1 st.2.2.1 st.2.2.2 r_.b' st.1 [(7,.S 4)])) (fun st=>z96_30_k1 st.1 st.2.1 st.2.2.1 st.2.2.2=some r) ?_ (fun j1=>?_)
 ·rintro ⟨vbk0_0_0_1,vbk0_0_1_1,vbk0_0_2_1,e⟩ h
  replace h:z96_30_k1 vbk0_0_0_1 vbk0_0_1_1 vbk0_0_2_1 e=some r:=h
  unfold z96_30_k1 at h
  refine wR J 2 Q ?_
  cases h
  exact we J func96 [(2,.sl 4),(3,.sl 3)] Q Q Q Q
 refine wo ?_
 refine wI (σ:=(List Int) × Int × Bool × (List T0) × Int) (fun st=>(zz158 st.2.1 st.2.2.1 st.2.2.2.1 r_.b' st.1 [(0,.B 0 0),(2,.c (.cl 97 [] [])),(7,.S 4),(10,.I x1.1),(11,.I st.2.2.2.2)])) (fun n st=>z96_30_l2 N x1 n st.1 st.2.1 st.2.2.1 st.2.2.2.1 st.2.2.2.2) (r:=r) (fun _=>rfl) ?_ (fun ih=>?_)
 ·intro n2 ih3
  rintro ⟨vbk0_0_0_3,vbk0_0_1_3,vbk0_0_2_3,f,g⟩ h
  replace h:z96_30_l2 N x1 (n2+1) vbk0_0_0_3 vbk0_0_1_3 vbk0_0_2_3 f g=some r:=h
  unfold z96_30_l2 at h
  refine wR J 1 Q (wq ?_)
  obtain ⟨K,h⟩|⟨K,h⟩:=oc' h
  ·exact wf K Q (wz rfl (wU (j1 (vbk0_0_0_3,vbk0_0_1_3,vbk0_0_2_3,f) h)))
  refine wt K Q (wi (wq (wo (wg (xw [3,4,5,6] (zz158 vbk0_0_1_3 vbk0_0_2_3 f r_.b' vbk0_0_0_3 [(0,.B 0 0),(2,.c (.cl 97 [] [])),(10,.I x1.1),(11,.I g),(13,.S 4),(14,.c (.cl 97 [] [])),(15,.B 0 0)]) J 3 ?_)))))
  obtain ⟨i,j,h⟩:=ob h
  refine WPr.callc (z97_ct N (⟨vbk0_0_0_3,vbk0_0_1_3,vbk0_0_2_3⟩:T12) _ j) [(0,.bp 0 0),(1,.sl 3)] [] Q Q Q Q Q Q Q Q Q (.inl rfl) rfl (xw [4,5,6] ⟨[(0,.B 0 0),(2,.c (.cl 97 [] [])),(10,.I x1.1),(11,.I g),(13,.S 4),(16,.a (cC0 5 6 7 i.1))],[(0,.box (cC12 8 i.2) 160),(4,.own rR0 f true)],((1,.sl (rI .u8) r_.b')::vV0 5 6 7 i.1 [(8,.sl (rI .u8) i.2.b')]),9⟩ J 0 (WPr.bs (cs:=(cC0 5 6 7 i.1)) oO0 J ([i.1]:List T0) Q Q Q Q Q Q (by kernel_rfl) (by exact (an (an rfl (an rfl (an rfl (an Q Q)))) rfl)) rfl ?_))
  obtain ⟨k,l,h⟩:=ob h
  exact WPr.app J l (by exact (srcO rfl)) Q Q Q Q Q Q Q Q Q Q (wx ⟨[(0,.B 0 0),(2,.c (.cl 97 [] [])),(7,.S 10),(10,.I x1.1),(11,.I g)],[(0,.box (cC12 8 i.2) 160),(10,.own rR0 k true)],[(1,.sl (rI .u8) r_.b'),(8,.sl (rI .u8) i.2.b')],11⟩ J 1 (wn (wb (wS J 2 Q (wu [(3,.sl 8),(4,.sl 10)] (ih3 (i.2.b',i.2.at',i.2.failed',k,(w64 (g+1))) h) Q Q Q Q)))))
 exact wu [(3,.sl 2),(4,.nil)] (ih N (x1.2.b',x1.2.at',x1.2.failed',([]:List T0),0) h) Q Q Q Q
theorem z167_ct (N:Nat) (r_:T12) (r:Bool × T12) (h:z167 N r_=some r) :
 Fn Tryz.prog 167 ⟨2,[.B 0 0],[(1,.sl (rI .u8) r_.b')],[(0,.box (cC12 1 r_) 160)],3,.O r.1,[(2,.sl (rI .u8) r.2.b')],[(0,.box (cC12 2 r.2) 160)]⟩:=by
 refine wF func167 Q Q (fun E F w=>?_)
 unfold z167 at h
 refine wR J 1 Q (wq (wg (ws J 1 Q ?_)))
 obtain ⟨x1,c,h⟩:=ob h
 refine wc (z165_ct N r_ 1 _ c) [(0,.bp 0 0),(1,.sl 1)] [] Q Q Q Q Q Q Q Q (.inl rfl) rfl (wx ⟨[(0,.B 0 0),(2,.O false),(3,.S 2)],[(0,.box (cC12 3 x1.2) 160)],[(1,.sl (rI .u8) r_.b'),(2,.sl (rI .u8) x1.1),(3,.sl (rI .u8) x1.2.b')],4⟩ J 1 (wn (wq (wg (xw (rg 6 8) ⟨[(0,.B 0 0),(2,.O false),(3,.S 2),(6,.B 0 0),(11,.O x1.2.failed')],[(0,.box (cC12 3 x1.2) 160)],[(1,.sl (rI .u8) r_.b'),(2,.sl (rI .u8) x1.1),(3,.sl (rI .u8) x1.2.b')],4⟩ J 6 ?_)))))
 obtain ⟨K,h⟩|⟨K,h⟩:=oc h
 ·refine wy 11 K Q (wx ⟨[(0,.B 0 0),(2,.O false),(3,.S 2)],[(0,.box [.sl 3,.I x1.2.at',.b true] 160)],[(1,.sl (rI .u8) r_.b'),(2,.sl (rI .u8) x1.1),(3,.sl (rI .u8) x1.2.b')],4⟩ J 8 (wn (wV ⟨[(2,.O false)],[(0,.box [.sl 3,.I x1.2.at',.b true] 160)],[(1,.sl (rI .u8) r_.b'),(3,.sl (rI .u8) x1.2.b')],4⟩ J 12 ?_)))
  cases h
  exact we J func167 [(2,.sl 3)] Q Q Q Q
 refine wy 11 K Q (ws J 1 Q ?_)
 obtain ⟨x2,d,h⟩:=ob h
 refine wj (oI .u8) J d Q Q Q Q Q Q Q Q Q (wx ⟨[(0,.B 0 0),(2,.O false),(3,.S 2)],[(0,.box [.sl 3,.I x1.2.at',.b (decide (x2 > 1))] 160)],[(1,.sl (rI .u8) r_.b'),(2,.sl (rI .u8) x1.1),(3,.sl (rI .u8) x1.2.b')],5⟩ J 6 (wn (wq (wg (xw (rg 6 6) ⟨[(3,.S 2),(24,.O (!(decide (x2 > 1))))],[(0,.box [.sl 3,.I x1.2.at',.b (decide (x2 > 1))] 160)],[(1,.sl (rI .u8) r_.b'),(2,.sl (rI .u8) x1.1),(3,.sl (rI .u8) x1.2.b')],5⟩ J 6 ?_)))))
 obtain ⟨K,h⟩|⟨K,h⟩:=oc' h
 ·refine wy 24 K Q (wx ⟨[(2,.O false)],[(0,.box [.sl 3,.I x1.2.at',.b (decide (x2 > 1))] 160)],[(1,.sl (rI .u8) r_.b'),(3,.sl (rI .u8) x1.2.b')],5⟩ J 6 (wn ?_))
  cases h
  exact we J func167 [(2,.sl 3)] Q Q Q Q
 refine wy 24 K Q (ws J 1 Q ?_)
 obtain ⟨x3,e,h⟩:=ob h
 refine wj (oI .u8) J e Q Q Q Q Q Q Q Q Q (wx ⟨[(2,.O (x3==1))],[(0,.box [.sl 3,.I x1.2.at',.b (decide (x2 > 1))] 160)],[(1,.sl (rI .u8) r_.b'),(3,.sl (rI .u8) x1.2.b')],6⟩ J 4 (wn ?_))
 cases h
 exact we J func167 [(2,.sl 3)] Q Q Q Q
theorem z166_31_ct (N:Nat) (c0_:T12) (r:Bool × T12) (h:z166_31 N c0_=some r) :
 Fn Tryz.prog 166 ⟨2,[.B 0 0,.c (.cl 167 [0] [])],[(1,.sl (rI .u8) c0_.b')],[(0,.box (cC12 1 c0_) 160)],3,.O r.1,[(2,.sl (rI .u8) r.2.b')],[(0,.box (cC12 2 r.2) 160)]⟩:=by
 refine wF func166 Q Q (fun E F w=>?_)
 unfold z166_31 at h
 refine wR J 1 Q (wR J 1 Q (wq (wq (wg (xw (rg 1 7) (zz10 c0_ c0_.b' [(0,.B 0 0),(1,.c (.cl 167 [0] [])),(4,.O false),(5,.O false),(8,.B 0 0)]) J 1 (WPr.pnil (el:=160) false Q Q Q Q (by kernel_rfl) Q Q Q (wx (zz10 c0_ c0_.b' [(0,.B 0 0),(1,.c (.cl 167 [0] [])),(4,.O false),(5,.O false),(15,.O c0_.failed')]) J 6 (wn ?_))))))))
 obtain ⟨K,h⟩|⟨K,h⟩:=oc h
 ·refine wt K Q (wR J 2 Q ?_)
  cases h
  exact we J func166 [(2,.sl 1)] Q Q Q Q
 refine wf K Q (wi (wV (zz10 c0_ c0_.b' [(0,.B 0 0),(1,.c (.cl 167 [0] [])),(4,.O false),(5,.O false),(6,.I c0_.at')]) J 5 (wq (wg (ws J 1 Q ?_)))))
 obtain ⟨x1,d,h⟩:=ob h
 refine WPr.callc (z167_ct N c0_ _ d) [(0,.bp 0 0),(1,.sl 1)] [] Q Q Q Q Q Q Q Q Q (.inl rfl) rfl (wx (zz17 x1.2 c0_.b' x1.2.b' [(0,.B 0 0),(4,.O false),(5,.O false),(6,.I c0_.at'),(7,.O x1.1)]) J 1 (wn (wq (wV (zz17 x1.2 c0_.b' x1.2.b' [(0,.B 0 0),(4,.O false),(5,.O false),(6,.I c0_.at'),(7,.O x1.1),(26,.O x1.2.failed')]) J 4 ?_))))
 obtain ⟨K,h⟩|⟨K,h⟩:=oc h
 ·refine wt K Q (wV (zz74 c0_.at' x1.2.failed' c0_.b' x1.2.b' [(4,.O false),(5,.O false)]) J 5 (wR J 2 Q ?_))
  cases h
  exact we J func166 [(2,.sl 2)] Q Q Q Q
 refine wf K Q (wi (wR J 2 Q ?_))
 cases h
 exact we J func166 [(2,.sl 2)] Q Q Q Q
theorem z142_ct (N:Nat) (r_:T12) (r:Bool × T12) (h:z142 N r_=some r) :
 Fn Tryz.prog 142 ⟨2,[.B 0 0],[(1,.sl (rI .u8) r_.b')],[(0,.box (cC12 1 r_) 160)],3,.O r.1,[(2,.sl (rI .u8) r.2.b')],[(0,.box (cC12 2 r.2) 160)]⟩:=by
 refine wF func142 Q Q (fun E F w=>?_)
 unfold z142 at h
 refine wR J 1 Q (wq (wg (xw [3,4] (zz10 r_ r_.b' [(3,.B 0 0),(5,.c (.cl 167 [0] []))]) J 3 ?_)))
 obtain ⟨x1,d,h⟩:=ob h
 refine wc (z166_31_ct N r_ _ d) [(0,.bp 0 0),(1,.sl 1)] [] Q Q Q Q Q Q Q Q (.inl rfl) rfl (wx (zz17 x1.2 r_.b' x1.2.b' [(2,.O x1.1)]) J 1 (wn ?_))
 cases h
 exact we J func142 [(2,.sl 2)] Q Q Q Q
end Gx
end
