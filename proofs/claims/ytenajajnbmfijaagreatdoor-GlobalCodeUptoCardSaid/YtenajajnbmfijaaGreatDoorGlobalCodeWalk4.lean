/- Each function of the statement computes what its plain definition says, part 4. -/
import Derived.Test.YtenajajnbmfijaaGreatDoorGlobalCodeWalk3
set_option linter.all false
section
set_option maxRecDepth 10000
set_option maxHeartbeats 4000000
open Go Go.Kx Go.Proofs Tryz
namespace Gx
theorem z100_ct (N:Nat) (r_:T12) (r:T2 × T12) (h:z100 N r_=some r) :
 Fn Tryz.prog 100 ⟨2,[.B 0 0],[(1,.sl (rI .u8) r_.b')],[(0,.box (cC12 1 r_) 160)],3,.a (cC2 r.1),[(2,.sl (rI .u8) r.2.b')],[(0,.box (cC12 2 r.2) 160)]⟩:=by
 refine wF func100 Q Q (fun E F w=>?_)
 unfold z100 at h
 refine wR J 1 Q (wq (wg (ws J 1 Q ?_)))
 obtain ⟨x1,c,h⟩:=ob h
 refine wc (z98_ct N r_ _ c) [(0,.bp 0 0),(1,.sl 1)] [] Q Q Q Q Q Q Q Q (.inl rfl) rfl (wx ⟨[(0,.B 0 0),(2,.B 2 0),(3,.B 4 0)],[(0,.box (cC12 3 x1.2) 160),(2,.box [.I 0,.I 0,.I 0,.I 0,.I 0,.b false] 43),(4,.box [.I x1.1,.I 0,.I 0,.I 0,.I 0,.b false] 43)],[(1,.sl (rI .u8) r_.b'),(3,.sl (rI .u8) x1.2.b')],5⟩ J 3 (wn (wq (wg (ws J 1 Q ?_)))))
 obtain ⟨x2,d,h⟩:=ob h
 refine wc (z98_ct N x1.2 _ d) [(0,.bp 0 0),(1,.sl 3)] [] Q Q Q Q Q Q Q Q (.inl rfl) rfl (wx ⟨[(0,.B 0 0),(2,.B 2 0),(3,.B 4 0)],[(0,.box (cC12 5 x2.2) 160),(2,.box [.I 0,.I 0,.I 0,.I 0,.I 0,.b false] 43),(4,.box [.I x1.1,.I x2.1,.I 0,.I 0,.I 0,.b false] 43)],[(1,.sl (rI .u8) r_.b'),(5,.sl (rI .u8) x2.2.b')],6⟩ J 3 (wn (wq (wg (ws J 1 Q ?_)))))
 obtain ⟨x3,e,h⟩:=ob h
 refine wc (z98_ct N x2.2 _ e) [(0,.bp 0 0),(1,.sl 5)] [] Q Q Q Q Q Q Q Q (.inl rfl) rfl (wx ⟨[(0,.B 0 0),(2,.B 2 0),(3,.B 4 0)],[(0,.box (cC12 6 x3.2) 160),(2,.box [.I 0,.I 0,.I 0,.I 0,.I 0,.b false] 43),(4,.box [.I x1.1,.I x2.1,.I x3.1,.I 0,.I 0,.b false] 43)],[(1,.sl (rI .u8) r_.b'),(6,.sl (rI .u8) x3.2.b')],7⟩ J 3 (wn (wq (wg (ws J 1 Q ?_)))))
 obtain ⟨x4,f,h⟩:=ob h
 refine wc (z98_ct N x3.2 _ f) [(0,.bp 0 0),(1,.sl 6)] [] Q Q Q Q Q Q Q Q (.inl rfl) rfl (wx ⟨[(0,.B 0 0),(2,.B 2 0),(3,.B 4 0)],[(0,.box (cC12 7 x4.2) 160),(2,.box [.I 0,.I 0,.I 0,.I 0,.I 0,.b false] 43),(4,.box [.I x1.1,.I x2.1,.I x3.1,.I x4.1,.I 0,.b false] 43)],[(1,.sl (rI .u8) r_.b'),(7,.sl (rI .u8) x4.2.b')],8⟩ J 3 (wn (wq (wg (ws J 1 Q ?_)))))
 obtain ⟨x5,g,h⟩:=ob h
 refine wc (z98_ct N x4.2 _ g) [(0,.bp 0 0),(1,.sl 7)] [] Q Q Q Q Q Q Q Q (.inl rfl) rfl (wx ⟨[(0,.B 0 0),(2,.B 2 0),(3,.B 4 0)],[(0,.box (cC12 8 x5.2) 160),(2,.box [.I 0,.I 0,.I 0,.I 0,.I 0,.b false] 43),(4,.box [.I x1.1,.I x2.1,.I x3.1,.I x4.1,.I x5.1,.b false] 43)],[(1,.sl (rI .u8) r_.b'),(8,.sl (rI .u8) x5.2.b')],9⟩ J 2 (wn (wq (wg (ws J 1 Q ?_)))))
 obtain ⟨x6,i,h⟩:=ob h
 refine wc (z142_ct N x5.2 _ i) [(0,.bp 0 0),(1,.sl 8)] [] Q Q Q Q Q Q Q Q (.inl rfl) rfl (wx ⟨[(2,.B 2 0),(3,.B 4 0)],[(0,.box (cC12 9 x6.2) 160),(2,.box [.I 0,.I 0,.I 0,.I 0,.I 0,.b false] 43),(4,.box [.I x1.1,.I x2.1,.I x3.1,.I x4.1,.I x5.1,.b x6.1] 43)],[(1,.sl (rI .u8) r_.b'),(9,.sl (rI .u8) x6.2.b')],10⟩ J 2 (wn (wR J 2 Q ?_)))
 cases h
 exact we J func100 [(2,.sl 9)] Q Q Q Q
theorem z99_32_ct (N:Nat) (r_:T12) (most_:Int) (r:(List T2) × T12) (h:z99_32 N r_ most_=some r) :
 Fn Tryz.prog 99 ⟨2,[.B 0 0,.I most_,.c (.cl 100 [] [])],[(1,.sl (rI .u8) r_.b')],[(0,.box (cC12 1 r_) 160)],4,.S 2,[(3,.sl (rI .u8) r.2.b')],[(2,.own rR2 r.1 true),(0,.box (cC12 3 r.2) 160)]⟩:=by
 refine wF func99 Q Q (fun E F w=>?_)
 unfold z99_32 at h
 refine wR J 1 Q (wR J 1 Q (wq (wq (wg (xw [2,3] (zz10 r_ r_.b' [(0,.B 0 0),(2,.c (.cl 100 [] [])),(6,.c .nil),(7,.c .nil),(8,.B 0 0),(9,.I most_)]) J 2 ?_)))))
 obtain ⟨x1,d,h⟩:=ob h
 refine wc (z133_ct N r_ 0 most_ _ d) [(0,.bp 0 0),(1,.sl 1)] [] Q Q Q Q Q Q Q Q (.inl rfl) rfl (wx (zz17 x1.2 r_.b' x1.2.b' [(0,.B 0 0),(2,.c (.cl 100 [] [])),(6,.c .nil),(7,.c .nil),(10,.I x1.1),(11,.I 0)]) J 1 (wn ?_))
 refine wC (σ:=(List Int) × Int × Bool × (List T2)) (fun st=>(zz159 st.2.1 st.2.2.1 st.2.2.2 r_.b' st.1 [(7,.S 4)])) (fun st=>z99_32_k1 st.1 st.2.1 st.2.2.1 st.2.2.2=some r) ?_ (fun j1=>?_)
 ·rintro ⟨vbk0_0_0_1,vbk0_0_1_1,vbk0_0_2_1,e⟩ h
  replace h:z99_32_k1 vbk0_0_0_1 vbk0_0_1_1 vbk0_0_2_1 e=some r:=h
  unfold z99_32_k1 at h
  refine wR J 2 Q ?_
  cases h
  exact we J func99 [(2,.sl 4),(3,.sl 3)] Q Q Q Q
 refine wo ?_
 refine wI (σ:=(List Int) × Int × Bool × (List T2) × Int) (fun st=>(zz159 st.2.1 st.2.2.1 st.2.2.2.1 r_.b' st.1 [(0,.B 0 0),(2,.c (.cl 100 [] [])),(7,.S 4),(10,.I x1.1),(11,.I st.2.2.2.2)])) (fun n st=>z99_32_l2 N x1 n st.1 st.2.1 st.2.2.1 st.2.2.2.1 st.2.2.2.2) (r:=r) (fun _=>rfl) ?_ (fun ih=>?_)
 ·intro n2 ih3
  rintro ⟨vbk0_0_0_3,vbk0_0_1_3,vbk0_0_2_3,f,g⟩ h
  replace h:z99_32_l2 N x1 (n2+1) vbk0_0_0_3 vbk0_0_1_3 vbk0_0_2_3 f g=some r:=h
  unfold z99_32_l2 at h
  refine wR J 1 Q (wq ?_)
  obtain ⟨K,h⟩|⟨K,h⟩:=oc' h
  ·exact wf K Q (wz rfl (wU (j1 (vbk0_0_0_3,vbk0_0_1_3,vbk0_0_2_3,f) h)))
  refine wt K Q (wi (wq (wo (wg (xw [3,4,5,6] (zz159 vbk0_0_1_3 vbk0_0_2_3 f r_.b' vbk0_0_0_3 [(0,.B 0 0),(2,.c (.cl 100 [] [])),(10,.I x1.1),(11,.I g),(13,.S 4),(14,.c (.cl 100 [] [])),(15,.B 0 0)]) J 3 ?_)))))
  obtain ⟨i,j,h⟩:=ob h
  refine WPr.callc (z100_ct N (⟨vbk0_0_0_3,vbk0_0_1_3,vbk0_0_2_3⟩:T12) _ j) [(0,.bp 0 0),(1,.sl 3)] [] Q Q Q Q Q Q Q Q Q (.inl rfl) rfl (xw [4,5,6] ⟨[(0,.B 0 0),(2,.c (.cl 100 [] [])),(10,.I x1.1),(11,.I g),(13,.S 4),(16,.a (cC2 i.1))],[(0,.box (cC12 5 i.2) 160),(4,.own rR2 f true)],[(1,.sl (rI .u8) r_.b'),(5,.sl (rI .u8) i.2.b')],6⟩ J 0 (WPr.bs (cs:=(cC2 i.1)) oO2 J ([i.1]:List T2) Q Q Q Q Q Q (by kernel_rfl) (by exact (an (an rfl (an (an rfl (an Q Q)) (an Q Q))) rfl)) rfl ?_))
  obtain ⟨k,l,h⟩:=ob h
  exact WPr.app J l (by exact (srcO rfl)) Q Q Q Q Q Q Q Q Q Q (wx ⟨[(0,.B 0 0),(2,.c (.cl 100 [] [])),(7,.S 7),(10,.I x1.1),(11,.I g)],[(0,.box (cC12 5 i.2) 160),(7,.own rR2 k true)],[(1,.sl (rI .u8) r_.b'),(5,.sl (rI .u8) i.2.b')],8⟩ J 1 (wn (wb (wS J 2 Q (wu [(3,.sl 5),(4,.sl 7)] (ih3 (i.2.b',i.2.at',i.2.failed',k,(w64 (g+1))) h) Q Q Q Q)))))
 exact wu [(3,.sl 2),(4,.nil)] (ih N (x1.2.b',x1.2.at',x1.2.failed',([]:List T2),0) h) Q Q Q Q
theorem z102_ct (N:Nat) (r_:T12) (r:T8 × T12) (h:z102 N r_=some r) :
 Fn Tryz.prog 102 ⟨2,[.B 0 0],[(1,.sl (rI .u8) r_.b')],[(0,.box (cC12 1 r_) 160)],3,.a (cC8 r.1),[(2,.sl (rI .u8) r.2.b')],[(0,.box (cC12 2 r.2) 160)]⟩:=by
 refine wF func102 Q Q (fun E F w=>?_)
 unfold z102 at h
 refine wR J 1 Q (wq (wg (ws J 1 Q ?_)))
 obtain ⟨x1,c,h⟩:=ob h
 refine wc (z98_ct N r_ _ c) [(0,.bp 0 0),(1,.sl 1)] [] Q Q Q Q Q Q Q Q (.inl rfl) rfl (wx ⟨[(0,.B 0 0),(2,.B 2 0),(3,.B 4 0)],[(0,.box (cC12 3 x1.2) 160),(2,.box [.I 0,.I 0,.I 0] 79),(4,.box [.I x1.1,.I 0,.I 0] 79)],[(1,.sl (rI .u8) r_.b'),(3,.sl (rI .u8) x1.2.b')],5⟩ J 3 (wn (wq (wg (ws J 1 Q ?_)))))
 obtain ⟨x2,d,h⟩:=ob h
 refine wc (z98_ct N x1.2 _ d) [(0,.bp 0 0),(1,.sl 3)] [] Q Q Q Q Q Q Q Q (.inl rfl) rfl (wx ⟨[(0,.B 0 0),(2,.B 2 0),(3,.B 4 0)],[(0,.box (cC12 5 x2.2) 160),(2,.box [.I 0,.I 0,.I 0] 79),(4,.box [.I x1.1,.I x2.1,.I 0] 79)],[(1,.sl (rI .u8) r_.b'),(5,.sl (rI .u8) x2.2.b')],6⟩ J 2 (wn (wq (wg (ws J 1 Q ?_)))))
 obtain ⟨x3,e,h⟩:=ob h
 refine wc (z98_ct N x2.2 _ e) [(0,.bp 0 0),(1,.sl 5)] [] Q Q Q Q Q Q Q Q (.inl rfl) rfl (wx ⟨[(2,.B 2 0),(3,.B 4 0)],[(0,.box (cC12 6 x3.2) 160),(2,.box [.I 0,.I 0,.I 0] 79),(4,.box [.I x1.1,.I x2.1,.I x3.1] 79)],[(1,.sl (rI .u8) r_.b'),(6,.sl (rI .u8) x3.2.b')],7⟩ J 2 (wn (wR J 2 Q ?_)))
 cases h
 exact we J func102 [(2,.sl 6)] Q Q Q Q
theorem z101_33_ct (N:Nat) (r_:T12) (most_:Int) (r:(List T8) × T12) (h:z101_33 N r_ most_=some r) :
 Fn Tryz.prog 101 ⟨2,[.B 0 0,.I most_,.c (.cl 102 [] [])],[(1,.sl (rI .u8) r_.b')],[(0,.box (cC12 1 r_) 160)],4,.S 2,[(3,.sl (rI .u8) r.2.b')],[(2,.own rR8 r.1 true),(0,.box (cC12 3 r.2) 160)]⟩:=by
 refine wF func101 Q Q (fun E F w=>?_)
 unfold z101_33 at h
 refine wR J 1 Q (wR J 1 Q (wq (wq (wg (xw [2,3] (zz10 r_ r_.b' [(0,.B 0 0),(2,.c (.cl 102 [] [])),(6,.c .nil),(7,.c .nil),(8,.B 0 0),(9,.I most_)]) J 2 ?_)))))
 obtain ⟨x1,d,h⟩:=ob h
 refine wc (z133_ct N r_ 0 most_ _ d) [(0,.bp 0 0),(1,.sl 1)] [] Q Q Q Q Q Q Q Q (.inl rfl) rfl (wx (zz17 x1.2 r_.b' x1.2.b' [(0,.B 0 0),(2,.c (.cl 102 [] [])),(6,.c .nil),(7,.c .nil),(10,.I x1.1),(11,.I 0)]) J 1 (wn ?_))
 refine wC (σ:=(List Int) × Int × Bool × (List T8)) (fun st=>(zz160 st.2.1 st.2.2.1 st.2.2.2 r_.b' st.1 [(7,.S 4)])) (fun st=>z101_33_k1 st.1 st.2.1 st.2.2.1 st.2.2.2=some r) ?_ (fun j1=>?_)
 ·rintro ⟨vbk0_0_0_1,vbk0_0_1_1,vbk0_0_2_1,e⟩ h
  replace h:z101_33_k1 vbk0_0_0_1 vbk0_0_1_1 vbk0_0_2_1 e=some r:=h
  unfold z101_33_k1 at h
  refine wR J 2 Q ?_
  cases h
  exact we J func101 [(2,.sl 4),(3,.sl 3)] Q Q Q Q
 refine wo ?_
 refine wI (σ:=(List Int) × Int × Bool × (List T8) × Int) (fun st=>(zz160 st.2.1 st.2.2.1 st.2.2.2.1 r_.b' st.1 [(0,.B 0 0),(2,.c (.cl 102 [] [])),(7,.S 4),(10,.I x1.1),(11,.I st.2.2.2.2)])) (fun n st=>z101_33_l2 N x1 n st.1 st.2.1 st.2.2.1 st.2.2.2.1 st.2.2.2.2) (r:=r) (fun _=>rfl) ?_ (fun ih=>?_)
 ·intro n2 ih3
  rintro ⟨vbk0_0_0_3,vbk0_0_1_3,vbk0_0_2_3,f,g⟩ h
  replace h:z101_33_l2 N x1 (n2+1) vbk0_0_0_3 vbk0_0_1_3 vbk0_0_2_3 f g=some r:=h
  unfold z101_33_l2 at h
  refine wR J 1 Q (wq ?_)
  obtain ⟨K,h⟩|⟨K,h⟩:=oc' h
  ·exact wf K Q (wz rfl (wU (j1 (vbk0_0_0_3,vbk0_0_1_3,vbk0_0_2_3,f) h)))
  refine wt K Q (wi (wq (wo (wg (xw [3,4,5,6] (zz160 vbk0_0_1_3 vbk0_0_2_3 f r_.b' vbk0_0_0_3 [(0,.B 0 0),(2,.c (.cl 102 [] [])),(10,.I x1.1),(11,.I g),(13,.S 4),(14,.c (.cl 102 [] [])),(15,.B 0 0)]) J 3 ?_)))))
  obtain ⟨i,j,h⟩:=ob h
  refine WPr.callc (z102_ct N (⟨vbk0_0_0_3,vbk0_0_1_3,vbk0_0_2_3⟩:T12) _ j) [(0,.bp 0 0),(1,.sl 3)] [] Q Q Q Q Q Q Q Q Q (.inl rfl) rfl (xw [4,5,6] ⟨[(0,.B 0 0),(2,.c (.cl 102 [] [])),(10,.I x1.1),(11,.I g),(13,.S 4),(16,.a (cC8 i.1))],[(0,.box (cC12 5 i.2) 160),(4,.own rR8 f true)],[(1,.sl (rI .u8) r_.b'),(5,.sl (rI .u8) i.2.b')],6⟩ J 0 (WPr.bs (cs:=(cC8 i.1)) oO8 J ([i.1]:List T8) Q Q Q Q Q Q (by kernel_rfl) (by exact (an (an rfl (an Q Q)) rfl)) rfl ?_))
  obtain ⟨k,l,h⟩:=ob h
  exact WPr.app J l (by exact (srcO rfl)) Q Q Q Q Q Q Q Q Q Q (wx ⟨[(0,.B 0 0),(2,.c (.cl 102 [] [])),(7,.S 7),(10,.I x1.1),(11,.I g)],[(0,.box (cC12 5 i.2) 160),(7,.own rR8 k true)],[(1,.sl (rI .u8) r_.b'),(5,.sl (rI .u8) i.2.b')],8⟩ J 1 (wn (wb (wS J 2 Q (wu [(3,.sl 5),(4,.sl 7)] (ih3 (i.2.b',i.2.at',i.2.failed',k,(w64 (g+1))) h) Q Q Q Q)))))
 exact wu [(3,.sl 2),(4,.nil)] (ih N (x1.2.b',x1.2.at',x1.2.failed',([]:List T8),0) h) Q Q Q Q
theorem z143_ct (N:Nat) (r_:T12) (r:Int) (h:z143 N r_=some r) :
 Fn Tryz.prog 143 ⟨2,[.B 0 0],[(1,.sl (rI .u8) r_.b')],[(0,.box (cC12 1 r_) 160)],2,.I r,[],[(0,.box (cC12 1 r_) 160)]⟩:=by
 refine wF func143 Q Q (fun E F w=>?_)
 unfold z143 at h
 refine wR J 1 Q (wq (wq (wg (ws J 1 Q (WPr.pnil (el:=160) false Q Q Q Q (by kernel_rfl) Q Q Q (wx (zz10 r_ r_.b' [(0,.B 0 0),(2,.I 0),(4,.O false)]) J 0 (wn (wf Q Q (wi (wq (wQ (by kernel_rfl) (by kernel_rfl) (qx (zz10 r_ r_.b' [(2,.I (w64 ((r_.b'.length:Int)-r_.at')))]) J 11 (qn ?_)))))))))))))
 cases h
 exact we J func143 [] Q Q Q Q
theorem z103_ct (N:Nat) (r_:T12) (r:Int) (h:z103 N r_=some r) :
 Fn Tryz.prog 103 ⟨2,[.B 0 0],[(1,.sl (rI .u8) r_.b')],[(0,.box (cC12 1 r_) 160)],2,.I r,[],[(0,.box (cC12 1 r_) 160)]⟩:=by
 refine wF func103 Q Q (fun E F w=>?_)
 unfold z103 at h
 refine wR J 1 Q (wq (wo (wq (wg (ws J 1 Q (WPr.pnil (el:=160) false Q Q Q Q (by kernel_rfl) Q Q Q (wx (zz10 r_ r_.b' [(0,.B 0 0),(2,.I 0),(3,.O false)]) J 1 (wn (wf Q Q (wq (wg (xw [5,6,7,8,9] (zz10 r_ r_.b' [(0,.B 0 0),(2,.I 0),(11,.O r_.failed')]) J 5 ?_))))))))))))
 obtain ⟨K,h⟩|⟨K,h⟩:=oc h
 ·refine wy 11 K Q (wx (zz10 r_ r_.b' [(2,.I 0),(6,.O true)]) J 5 (wn (wt Q Q (wR J 1 Q ?_))))
  cases h
  exact we J func103 [] Q Q Q Q
 refine wy 11 K Q (ws J 1 Q ?_)
 obtain ⟨x1,c,h⟩:=ob h
 refine wc (z143_ct N r_ _ c) [(0,.bp 0 0),(1,.sl 1)] [] Q Q Q Q Q Q Q Q (.inl rfl) rfl (wx (zz10 r_ r_.b' [(2,.I 0),(6,.O (decide (x1 > 0)))]) J 3 (wn ?_))
 obtain ⟨K,h⟩|⟨K,h⟩:=oc h
 ·refine wt K Q (wR J 1 Q ?_)
  cases h
  exact we J func103 [] Q Q Q Q
 refine wf K Q (wi (wb (wR J 1 Q ?_)))
 cases h
 exact we J func103 [] Q Q Q Q
theorem z41_ct (N:Nat) (b_:(List Int)) (r:T4 × Int) (h:z41 N b_=some r) :
 Fn Tryz.prog 41 ⟨1,[.S 0],[(0,.sl (rI .u8) b_)],[],5,.t [.inr (cC4 1 2 3 4 r.1),.inl (.I r.2)],(vV4 1 2 3 4 r.1 []),[]⟩:=by
 refine wF func41 Q Q (fun E F w=>?_)
 unfold z41 at h
 refine wR J 2 Q (wq (wg (xw [1,2] ⟨[(2,.B 1 0),(3,.I 0),(6,.S 0)],[(1,.box [.s (str []),.nil,.nil,.I 0,.I 0,.I 0,.nil,.nil] 27)],[(0,.sl (rI .u8) b_)],2⟩ J 1 ?_)))
 obtain ⟨x1,c,h⟩:=ob h
 refine wc (z92_ct N b_ _ c) [(0,.sl 0)] [] Q Q Q Q Q Q Q Q (.inl rfl) rfl (wx ⟨[(2,.B 1 0),(3,.I 0),(4,.B 2 0)],[(1,.box [.s (str []),.nil,.nil,.I 0,.I 0,.I 0,.nil,.nil] 27),(2,.box (cC12 3 x1) 160)],[(0,.sl (rI .u8) b_),(3,.sl (rI .u8) x1.b')],4⟩ J 1 (wn (wq (wg (ws J 1 Q ?_)))))
 obtain ⟨x2,d,h⟩:=ob h
 refine wc (z93_ct N x1 16 _ d) [(0,.bp 2 0),(1,.sl 3)] [] Q Q Q Q Q Q Q Q (.inl rfl) rfl (wx ⟨[(2,.B 1 0),(3,.I 0),(4,.B 2 0),(5,.B 5 0)],[(1,.box [.s (str []),.nil,.nil,.I 0,.I 0,.I 0,.nil,.nil] 27),(2,.box (cC12 4 x2.2) 160),(5,.box [.s x2.1,.nil,.nil,.I 0,.I 0,.I 0,.nil,.nil] 27)],[(0,.sl (rI .u8) b_),(4,.sl (rI .u8) x2.2.b')],6⟩ J 3 (wn (wq (wg (ws J 1 Q ?_)))))
 obtain ⟨x3,e,h⟩:=ob h
 refine wc (z94_25_ct N x2.2 6 _ e) [(0,.bp 2 0),(1,.sl 4)] [] Q Q Q Q Q Q Q Q (.inl rfl) rfl (wx ⟨[(2,.B 1 0),(3,.I 0),(4,.B 2 0),(5,.B 5 0)],[(1,.box [.s (str []),.nil,.nil,.I 0,.I 0,.I 0,.nil,.nil] 27),(2,.box (cC12 7 x3.2) 160),(5,.box [.s x2.1,.sl 6,.nil,.I 0,.I 0,.I 0,.nil,.nil] 27),(6,.own rS x3.1 true)],[(0,.sl (rI .u8) b_),(7,.sl (rI .u8) x3.2.b')],8⟩ J 2 (wn (wq (wg (ws J 1 Q ?_)))))
 obtain ⟨x4,f,h⟩:=ob h
 refine wc (z96_30_ct N x3.2 40 _ f) [(0,.bp 2 0),(1,.sl 7)] [] Q Q Q Q Q Q Q Q (.inl rfl) rfl (wx ⟨[(2,.B 1 0),(3,.I 0),(4,.B 2 0),(5,.B 5 0)],[(1,.box [.s (str []),.nil,.nil,.I 0,.I 0,.I 0,.nil,.nil] 27),(2,.box (cC12 9 x4.2) 160),(5,.box [.s x2.1,.sl 6,.sl 8,.I 0,.I 0,.I 0,.nil,.nil] 27),(6,.own rS x3.1 true),(8,.own rR0 x4.1 true)],[(0,.sl (rI .u8) b_),(9,.sl (rI .u8) x4.2.b')],10⟩ J 2 (wn (wq (wg (ws J 1 Q ?_)))))
 obtain ⟨x5,g,h⟩:=ob h
 refine wc (z98_ct N x4.2 _ g) [(0,.bp 2 0),(1,.sl 9)] [] Q Q Q Q Q Q Q Q (.inl rfl) rfl (wx ⟨[(2,.B 1 0),(3,.I 0),(4,.B 2 0),(5,.B 5 0)],[(1,.box [.s (str []),.nil,.nil,.I 0,.I 0,.I 0,.nil,.nil] 27),(2,.box (cC12 10 x5.2) 160),(5,.box [.s x2.1,.sl 6,.sl 8,.I x5.1,.I 0,.I 0,.nil,.nil] 27),(6,.own rS x3.1 true),(8,.own rR0 x4.1 true)],[(0,.sl (rI .u8) b_),(10,.sl (rI .u8) x5.2.b')],11⟩ J 2 (wn (wq (wg (ws J 1 Q ?_)))))
 obtain ⟨x6,i,h⟩:=ob h
 refine wc (z98_ct N x5.2 _ i) [(0,.bp 2 0),(1,.sl 10)] [] Q Q Q Q Q Q Q Q (.inl rfl) rfl (wx ⟨[(2,.B 1 0),(3,.I 0),(4,.B 2 0),(5,.B 5 0)],[(1,.box [.s (str []),.nil,.nil,.I 0,.I 0,.I 0,.nil,.nil] 27),(2,.box (cC12 11 x6.2) 160),(5,.box [.s x2.1,.sl 6,.sl 8,.I x5.1,.I x6.1,.I 0,.nil,.nil] 27),(6,.own rS x3.1 true),(8,.own rR0 x4.1 true)],[(0,.sl (rI .u8) b_),(11,.sl (rI .u8) x6.2.b')],12⟩ J 2 (wn (wq (wg (ws J 1 Q ?_)))))
 obtain ⟨x7,j,h⟩:=ob h
 refine wc (z98_ct N x6.2 _ j) [(0,.bp 2 0),(1,.sl 11)] [] Q Q Q Q Q Q Q Q (.inl rfl) rfl (wx ⟨[(2,.B 1 0),(3,.I 0),(4,.B 2 0),(5,.B 5 0)],[(1,.box [.s (str []),.nil,.nil,.I 0,.I 0,.I 0,.nil,.nil] 27),(2,.box (cC12 12 x7.2) 160),(5,.box [.s x2.1,.sl 6,.sl 8,.I x5.1,.I x6.1,.I x7.1,.nil,.nil] 27),(6,.own rS x3.1 true),(8,.own rR0 x4.1 true)],[(0,.sl (rI .u8) b_),(12,.sl (rI .u8) x7.2.b')],13⟩ J 2 (wn (wq (wg (ws J 1 Q ?_)))))
 obtain ⟨x8,k,h⟩:=ob h
 refine wc (z99_32_ct N x7.2 400 _ k) [(0,.bp 2 0),(1,.sl 12)] [] Q Q Q Q Q Q Q Q (.inl rfl) rfl (wx ⟨[(2,.B 1 0),(3,.I 0),(4,.B 2 0),(5,.B 5 0)],[(1,.box [.s (str []),.nil,.nil,.I 0,.I 0,.I 0,.nil,.nil] 27),(2,.box (cC12 14 x8.2) 160),(5,.box [.s x2.1,.sl 6,.sl 8,.I x5.1,.I x6.1,.I x7.1,.sl 13,.nil] 27),(6,.own rS x3.1 true),(8,.own rR0 x4.1 true),(13,.own rR2 x8.1 true)],[(0,.sl (rI .u8) b_),(14,.sl (rI .u8) x8.2.b')],15⟩ J 2 (wn (wq (wg (ws J 1 Q ?_)))))
 obtain ⟨x9,l,h⟩:=ob h
 refine wc (z101_33_ct N x8.2 200 _ l) [(0,.bp 2 0),(1,.sl 14)] [] Q Q Q Q Q Q Q Q (.inl rfl) rfl (wx ⟨[(2,.B 1 0),(3,.I 0),(4,.B 2 0),(5,.B 5 0)],[(1,.box [.s (str []),.nil,.nil,.I 0,.I 0,.I 0,.nil,.nil] 27),(2,.box (cC12 16 x9.2) 160),(5,.box [.s x2.1,.sl 6,.sl 8,.I x5.1,.I x6.1,.I x7.1,.sl 13,.sl 15] 27),(6,.own rS x3.1 true),(8,.own rR0 x4.1 true),(13,.own rR2 x8.1 true),(15,.own rR8 x9.1 true)],[(0,.sl (rI .u8) b_),(16,.sl (rI .u8) x9.2.b')],17⟩ J 2 (wn (wq (wq (wg (ws J 1 Q ?_))))))
 obtain ⟨m,o,h⟩:=ob h
 refine wc (z103_ct N x9.2 _ o) [(0,.bp 2 0),(1,.sl 16)] [] Q Q Q Q Q Q Q Q (.inl rfl) rfl (xw [4,5,6,7] (zz161 x2.1 x5.1 x6.1 x7.1 x3.1 x4.1 x8.1 x9.1 b_ [(2,.B 1 0),(3,.I 0),(5,.B 5 0),(35,.O (m != 0))]) J 2 ?_)
 obtain ⟨K,h⟩|⟨K,h⟩:=oc h
 ·refine wy 35 K Q (wx (zz161 x2.1 x5.1 x6.1 x7.1 x3.1 x4.1 x8.1 x9.1 b_ [(2,.B 1 0),(3,.I 0),(5,.B 5 0),(39,.O true)]) J 4 (wn (wt Q Q (wV (zz201 b_ [(2,.B 1 0),(3,.I 4)]) J 3 ?_))))
  cases h
  exact we J func41 [(1,.nil),(2,.nil),(3,.nil),(4,.nil)] Q Q Q Q
 refine wy 35 K Q (ws J 1 Q ?_)
 obtain ⟨p,q,h⟩:=ob h
 refine wc (z22_ct N (⟨x2.1,x3.1,x4.1,x5.1,x6.1,x7.1,x8.1,x9.1⟩:T4) _ q) [(0,.sl 6),(1,.sl 8),(2,.sl 13),(3,.sl 15)] [6,8,13,15] Q Q Q Q Q Q Q Q (.inr ⟨rfl,trivial⟩) rfl (wx (zz161 x2.1 x5.1 x6.1 x7.1 x3.1 x4.1 x8.1 x9.1 b_ [(2,.B 1 0),(3,.I 0),(5,.B 5 0),(39,.O (!p))]) J 2 (wn ?_))
 obtain ⟨K,h⟩|⟨K,h⟩:=oc h
 ·refine wt K Q (wV (zz201 b_ [(2,.B 1 0),(3,.I 4)]) J 3 ?_)
  cases h
  exact we J func41 [(1,.nil),(2,.nil),(3,.nil),(4,.nil)] Q Q Q Q
 refine wf K Q (wi (wV ⟨[(2,.B 1 0),(3,.I 0)],[(1,.box [.s x2.1,.sl 6,.sl 8,.I x5.1,.I x6.1,.I x7.1,.sl 13,.sl 15] 27),(6,.own rS x3.1 true),(8,.own rR0 x4.1 true),(13,.own rR2 x8.1 true),(15,.own rR8 x9.1 true)],[(0,.sl (rI .u8) b_)],17⟩ J 3 (WP.frz 6 rfl (WP.frz 8 rfl (WP.frz 13 rfl (WP.frz 15 rfl ?_))))))
 cases h
 exact we J func41 [(1,.sl 6),(2,.sl 8),(3,.sl 13),(4,.sl 15)] Q Q Q Q
theorem law18_GlobalCode_ct (N:Nat) (g_:T4) (r:Bool) (h:law18_GlobalCode N g_=some r) :
 Fn Tryz.prog 9 ⟨4,[.a (cC4 0 1 2 3 g_)],(vV4 0 1 2 3 g_ []),[],4,.O r,[],[]⟩:=by
 refine wF func9 Q Q (fun E F w=>?_)
 unfold law18_GlobalCode at h
 refine wR J 2 Q (wq (wq (wg ?_)))
 obtain ⟨x1,d,h⟩:=ob h
 refine wc (z12_ct N _ d) [] [] Q Q Q Q Q Q Q Q (.inl rfl) rfl (xw [3,4,5,6] (zz2 g_ [(1,.B 4 0),(2,.O false),(8,.O (!x1))]) J 2 ?_)
 obtain ⟨K,h⟩|⟨K,h⟩:=oc h
 ·refine wy 8 K Q (wx (zz2 g_ [(1,.B 4 0),(2,.O false),(12,.O true)]) J 4 (wn (wt Q Q (wq (wg ?_)))))
  obtain ⟨x2,e,h⟩:=ob h
  refine wc (z12_ct N _ e) [] [] Q Q Q Q Q Q Q Q (.inl rfl) rfl (wx (zz6 g_ [(2,.O x2)]) J 1 (wn ?_))
  cases h
  exact we J func9 [] Q Q Q Q
 refine wy 8 K Q (ws J 1 Q ?_)
 obtain ⟨x3,f,h⟩:=ob h
 refine wc (z13_ct N g_ _ f) [(0,.sl 0),(1,.sl 1),(2,.sl 2),(3,.sl 3)] [] Q Q Q Q Q Q Q Q (.inl rfl) rfl (wx (zz2 g_ [(1,.B 4 0),(2,.O false),(12,.O (!x3))]) J 2 (wn ?_))
 obtain ⟨K,h⟩|⟨K,h⟩:=oc h
 ·refine wt K Q (wq (wg ?_))
  obtain ⟨x4,g,h⟩:=ob h
  refine wc (z12_ct N _ g) [] [] Q Q Q Q Q Q Q Q (.inl rfl) rfl (wx (zz6 g_ [(2,.O x4)]) J 1 (wn ?_))
  cases h
  exact we J func9 [] Q Q Q Q
 refine wf K Q (wi (wq (wg (ws J 1 Q ?_))))
 obtain ⟨x5,j,h⟩:=ob h
 refine wc (z37_ct N g_ _ j) [(0,.sl 0),(1,.sl 1),(2,.sl 2),(3,.sl 3)] [] Q Q Q Q Q Q Q Q (.inl rfl) rfl (wx ⟨[(1,.B 4 0),(2,.O false),(3,.S 5)],[(4,.box (cC4 0 1 2 3 g_) 27),(5,.own (rI .u8) x5 true)],(vV4 0 1 2 3 g_ []),6⟩ J 1 (wn (wq (wq (wN (fun A1 l m=>?_))))))
 have o:A1 0 (zz3 [(3,.S 5)] [(16,.S 5)]):=l _ _ (wL J)
 have p:A1 1 (zz66 g_ [(1,.B 4 0)] [(17,.a (cC4 0 1 2 3 g_))]):=l _ _ (wL J)
 obtain ⟨x8,q,h⟩:=ob h
 have s:A1 2 ⟨[(17,.a (cC4 0 1 2 3 g_))],(vV4 0 1 2 3 g_ []),[],[],6,[(18,.S 6)],[],[(6,.own (rI .u8) x8 true)],7⟩:=l _ _ (wO Q Q Q (fun _ _ _ _ _ _ _ k=>wc (z39_ct N g_ _ q) [(0,.sl 0),(1,.sl 1),(2,.sl 2),(3,.sl 3)] [] Q Q Q Q Q Q Q Q (.inl rfl) rfl (k)) rfl)
 obtain ⟨v,x,h⟩:=ob h
 have y:A1 3 ⟨[(16,.S 5),(18,.S 6)],[],[],[(5,.own (rI .u8) x5 true),(6,.own (rI .u8) x8 true)],7,[(19,.O v)],[],[],7⟩:=l _ _ (wO Q Q Q (fun _ _ _ _ _ _ _ k=>wc (z38_ct N x5 x8 _ x) [(0,.sl 5),(1,.sl 6)] [5,6] Q Q Q Q Q Q Q Q (.inr ⟨rfl,trivial⟩) rfl (k)) rfl)
 have z:A1 4 (zz4 [(19,.O v)] [(20,.O (!v))]):=l _ _ (wL J)
 have A:A1 5 (zz4 [(20,.O (!v))] [(21,.O (!v))]):=l _ _ (wL J)
 obtain ⟨K,h⟩|⟨K,h⟩:=oc h
 ·have C:=l _ _ (LS.kb K Q (m _ _ A))
  have D:A1 6 (zz4 [(21,.O true)] [(22,.u)]):=l _ _ (LS.skip Q Q Q (.inr ⟨_,rfl,rfl⟩) Q Q)
  have G:A1 7 (zz4 [(21,.O true)] [(23,.u)]):=l _ _ (LS.skip Q Q Q (.inr ⟨_,rfl,rfl⟩) Q Q)
  have H:A1 8 (zz4 [(21,.O true)] [(24,.u)]):=l _ _ (LS.skip Q Q Q (.inr ⟨_,rfl,rfl⟩) Q Q)
  have R:A1 9 (zz4 [(21,.O true)] [(25,.u)]):=l _ _ (LS.skip Q Q Q (.inr ⟨_,rfl,rfl⟩) Q Q)
  have T:A1 10 (zz4 [(21,.O true)] [(26,.u)]):=l _ _ (LS.skip Q Q Q (.inr ⟨_,rfl,rfl⟩) Q Q)
  have U:A1 11 (zz4 [(21,.O true),(26,.u)] [(27,.O true)]):=l _ _ (wL J)
  refine wD (t:=(zz202 g_ x5 [(1,.B 4 0),(2,.O false),(3,.S 5),(27,.O true)])) [0,0,2,7,15,31,63,127,63,511,1023,2047] (.cons (m _ _ o) (.cons (m _ _ p) (.cons (m _ _ s) (.cons (m _ _ y) (.cons (m _ _ z) (.cons (m _ _ C) (.cons (m _ _ D) (.cons (m _ _ G) (.cons (m _ _ H) (.cons (m _ _ R) (.cons (m _ _ T) (.cons (m _ _ U) .nil)))))))))))) (by kernel_rfl) (by kernel_rfl) (by kernel_rfl) (by kernel_rfl) (wt Q Q (wR J 1 Q ?_))
  cases h
  exact we J func9 [] Q Q Q Q
 have X:=l _ _ (LS.kb K Q (m _ _ A))
 have Y:A1 6 (zz116 g_ [(1,.B 4 0),(21,.O false)] [(22,.a (cC4 0 1 2 3 g_))]):=l _ _ (wL J)
 obtain ⟨Z,a0,h⟩:=ob h
 have b0:A1 7 ⟨[(21,.O false),(22,.a (cC4 0 1 2 3 g_))],(vV4 0 1 2 3 g_ []),[],[],7,[(23,.c (.i .u64 Z))],[],[],7⟩:=l _ _ (wO Q Q Q (fun _ _ _ _ _ _ _ k=>wc (z24_ct N g_ _ a0) [(0,.sl 0),(1,.sl 1),(2,.sl 2),(3,.sl 3)] [] Q Q Q Q Q Q Q Q (.inl rfl) rfl (k)) rfl)
 have c0:A1 8 (zz116 g_ [(1,.B 4 0),(21,.O false)] [(24,.a (cC4 0 1 2 3 g_))]):=l _ _ (wL J)
 obtain ⟨d0,e0,h⟩:=ob h
 have f0:A1 9 ⟨[(21,.O false),(24,.a (cC4 0 1 2 3 g_))],(vV4 0 1 2 3 g_ []),[],[],7,[(25,.c (.i .u64 d0))],[],[],7⟩:=l _ _ (wO Q Q Q (fun _ _ _ _ _ _ _ k=>wc (z40_ct N g_ _ e0) [(0,.sl 0),(1,.sl 1),(2,.sl 2),(3,.sl 3)] [] Q Q Q Q Q Q Q Q (.inl rfl) rfl (k)) rfl)
 have g0:A1 10 (zz4 [(21,.O false),(23,.c (.i .u64 Z)),(25,.c (.i .u64 d0))] [(26,.O (Z != d0))]):=l _ _ (wL J)
 have i0:A1 11 (zz4 [(21,.O false),(26,.O (Z != d0))] [(27,.O (Z != d0))]):=l _ _ (wL J)
 refine wD (t:=(zz202 g_ x5 [(1,.B 4 0),(2,.O false),(3,.S 5),(27,.O (Z != d0))])) [0,0,2,7,15,31,63,127,63,511,1023,2047] (.cons (m _ _ o) (.cons (m _ _ p) (.cons (m _ _ s) (.cons (m _ _ y) (.cons (m _ _ z) (.cons (m _ _ X) (.cons (m _ _ Y) (.cons (m _ _ b0) (.cons (m _ _ c0) (.cons (m _ _ f0) (.cons (m _ _ g0) (.cons (m _ _ i0) .nil)))))))))))) (by kernel_rfl) (by kernel_rfl) (by kernel_rfl) (by kernel_rfl) ?_
 obtain ⟨K,h⟩|⟨K,h⟩:=oc h
 ·refine wt K Q (wR J 1 Q ?_)
  cases h
  exact we J func9 [] Q Q Q Q
 refine wf K Q (wi (wq (wg (ws J 1 Q (WPr.frz 5 rfl ?_)))))
 obtain ⟨j0,k0,h⟩:=ob h
 refine wc (z41_ct N x5 _ k0) [(0,.sl 5)] [] Q Q Q Q Q Q Q Q (.inl rfl) rfl (wx (zz162 g_ j0.1 [(1,.B 4 0),(2,.O false),(4,.B 11 0),(5,.I j0.2)]) J 6 (wn (wq (wg (ws J 1 Q ?_)))))
 obtain ⟨l0,m0,h⟩:=ob h
 refine wc (z19_ct N g_ _ m0) [(0,.sl 0),(1,.sl 1),(2,.sl 2),(3,.sl 3)] [] Q Q Q Q Q Q Q Q (.inl rfl) rfl (xw (rg 4 9) (zz162 g_ j0.1 [(1,.B 4 0),(4,.B 11 0),(5,.I j0.2),(36,.O (!l0))]) J 2 ?_)
 obtain ⟨K,h⟩|⟨K,h⟩:=oc h
 ·refine wy 36 K Q (wx ⟨[(2,.O true)],[],(vV4 0 1 2 3 g_ []),12⟩ J 9 (wn ?_))
  cases h
  exact we J func9 [] Q Q Q Q
 refine wy 36 K Q (xw (rg 7 6) (zz162 g_ j0.1 [(1,.B 4 0),(4,.B 11 0),(36,.O false),(39,.O (j0.2==0))]) J 3 ?_)
 obtain ⟨K,h⟩|⟨K,h⟩:=oc' h
 ·refine wy 39 K Q (wx ⟨[(2,.O false)],[],(vV4 0 1 2 3 g_ []),12⟩ J 6 (wn ?_))
  cases h
  exact we J func9 [] Q Q Q Q
 refine wy 39 K Q (ws J 2 Q ?_)
 obtain ⟨o0,p0,h⟩:=ob h
 refine wc (z33_ct N j0.1 g_ _ p0) [(0,.sl 7),(1,.sl 8),(2,.sl 9),(3,.sl 10),(4,.sl 0),(5,.sl 1),(6,.sl 2),(7,.sl 3)] [] Q Q Q Q Q Q Q Q (.inl rfl) rfl (wx ⟨[(2,.O o0)],[],(vV4 0 1 2 3 g_ []),12⟩ J 3 (wn ?_))
 cases h
 exact we J func9 [] Q Q Q Q
end Gx
end
