/- Each function of the statement computes what its plain definition says, part 4. -/
import Derived.Test.YtenajajnbmfijaaGreatDoorGlobalDecodeWalk3
set_option linter.all false
section
set_option maxRecDepth 10000
set_option maxHeartbeats 4000000
open Go Go.Kx Go.Proofs
namespace Gx
theorem z41_ct (N:Nat) (b_:(List Int)) (r:T4 × Int) (h:z41 N b_=some r) :
 Fn Tryz.prog 41 ⟨1,[.S 0],[(0,.sl (rI .u8) b_)],[],5,.t [.inr (cC4 1 2 3 4 r.1),.inl (.I r.2)],(vV4 1 2 3 4 r.1 []),[]⟩:=by
 refine Fn.intro _ _ Tryz.func41 rfl (by kernel_rfl) rfl (fun E F w=>?_)
 unfold z41 at h
 refine wq (wg (ws J 2 Q (wn (wq (wg (xw [1,2] ⟨[(2,.B 1 0),(3,.I 0),(6,.S 0)],[(1,.box [.s (str []),.nil,.nil,.I 0,.I 0,.I 0,.nil,.nil] 27)],[(0,.sl (rI .u8) b_)],2⟩ J 1 ?_))))))
 obtain ⟨x1,c,h⟩:=ob h
 refine wc (z92_ct N b_ _ c) [(0,.sl 0)] [] Q Q Q Q Q Q Q Q (.inl rfl) rfl (wx ⟨[(2,.B 1 0),(3,.I 0),(4,.B 2 0)],[(1,.box [.s (str []),.nil,.nil,.I 0,.I 0,.I 0,.nil,.nil] 27),(2,.box (cC12 3 x1) 160)],[(0,.sl (rI .u8) b_),(3,.sl (rI .u8) x1.b')],4⟩ J 1 (wn (wq (wg (ws J 1 Q ?_)))))
 obtain ⟨x2,d,h⟩:=ob h
 refine wc (z93_ct N x1 16 _ d) [(0,.bp 2 0),(1,.sl 3)] [] Q Q Q Q Q Q Q Q (.inl rfl) rfl (wx ⟨[(2,.B 1 0),(3,.I 0),(4,.B 2 0),(5,.B 5 0)],[(1,.box [.s (str []),.nil,.nil,.I 0,.I 0,.I 0,.nil,.nil] 27),(2,.box (cC12 4 x2.2) 160),(5,.box [.s x2.1,.nil,.nil,.I 0,.I 0,.I 0,.nil,.nil] 27)],[(0,.sl (rI .u8) b_),(4,.sl (rI .u8) x2.2.b')],6⟩ J 3 (wn (wq (wg (ws J 1 Q ?_)))))
 obtain ⟨x3,e,h⟩:=ob h
 refine wc (z94_25_ct N x2.2 6 _ e) [(0,.bp 2 0),(1,.sl 4)] [] Q Q Q Q Q Q Q Q (.inl rfl) rfl (wx ⟨[(2,.B 1 0),(3,.I 0),(4,.B 2 0),(5,.B 5 0)],[(1,.box [.s (str []),.nil,.nil,.I 0,.I 0,.I 0,.nil,.nil] 27),(2,.box (cC12 7 x3.2) 160),(5,.box [.s x2.1,.sl 6,.nil,.I 0,.I 0,.I 0,.nil,.nil] 27),(6,.own rS x3.1 true)],[(0,.sl (rI .u8) b_),(7,.sl (rI .u8) x3.2.b')],8⟩ J 2 (wn (wq (wg (ws J 1 Q ?_)))))
 obtain ⟨x4,f,h⟩:=ob h
 refine wc (z96_30_ct N x3.2 40 _ f) [(0,.bp 2 0),(1,.sl 7)] [] Q Q Q Q Q Q Q Q (.inl rfl) rfl (wx ⟨[(2,.B 1 0),(3,.I 0),(4,.B 2 0),(5,.B 5 0)],[(1,.box [.s (str []),.nil,.nil,.I 0,.I 0,.I 0,.nil,.nil] 27),(2,.box (cC12 9 x4.2) 160),(5,.box [.s x2.1,.sl 6,.sl 8,.I 0,.I 0,.I 0,.nil,.nil] 27),(6,.own rS x3.1 true),(8,.own rR0 x4.1 true)],[(0,.sl (rI .u8) b_),(9,.sl (rI .u8) x4.2.b')],10⟩ J 2 (wn (wq (wg (ws J 1 Q ?_)))))
 obtain ⟨x5,g,h⟩:=ob h
 refine wc (z98_ct N x4.2 _ g) [(0,.bp 2 0),(1,.sl 9)] [] Q Q Q Q Q Q Q Q (.inl rfl) rfl (wx ⟨[(2,.B 1 0),(3,.I 0),(4,.B 2 0),(5,.B 5 0)],[(1,.box [.s (str []),.nil,.nil,.I 0,.I 0,.I 0,.nil,.nil] 27),(2,.box (cC12 10 x5.2) 160),(5,.box [.s x2.1,.sl 6,.sl 8,.I x5.1,.I 0,.I 0,.nil,.nil] 27),(6,.own rS x3.1 true),(8,.own rR0 x4.1 true)],[(0,.sl (rI .u8) b_),(10,.sl (rI .u8) x5.2.b')],11⟩ J 2 (wn (wq (wg (ws J 1 Q ?_)))))
 obtain ⟨x6,i,h⟩:=ob h
 refine wc (z98_ct N x5.2 _ i) [(0,.bp 2 0),(1,.sl 10)] [] Q Q Q Q Q Q Q Q (.inl rfl) rfl (wx ⟨[(2,.B 1 0),(3,.I 0),(4,.B 2 0),(5,.B 5 0)],[(1,.box [.s (str []),.nil,.nil,.I 0,.I 0,.I 0,.nil,.nil] 27),(2,.box (cC12 11 x6.2) 160),(5,.box [.s x2.1,.sl 6,.sl 8,.I x5.1,.I x6.1,.I 0,.nil,.nil] 27),(6,.own rS x3.1 true),(8,.own rR0 x4.1 true)],[(0,.sl (rI .u8) b_),(11,.sl (rI .u8) x6.2.b')],12⟩ J 2 (wn (wq (wg (ws J 1 Q ?_)))))
 obtain ⟨x7,j,h⟩:=ob h
 refine wc (z98_ct N x6.2 _ j) [(0,.bp 2 0),(1,.sl 11)] [] Q Q Q Q Q Q Q Q (.inl rfl) rfl (wx ⟨[(2,.B 1 0),(3,.I 0),(4,.B 2 0),(5,.B 5 0)],[(1,.box [.s (str []),.nil,.nil,.I 0,.I 0,.I 0,.nil,.nil] 27),(2,.box (cC12 12 x7.2) 160),(5,.box [.s x2.1,.sl 6,.sl 8,.I x5.1,.I x6.1,.I x7.1,.nil,.nil] 27),(6,.own rS x3.1 true),(8,.own rR0 x4.1 true)],[(0,.sl (rI .u8) b_),(12,.sl (rI .u8) x7.2.b')],13⟩ J 2 (wn (wq (wg (ws J 1 Q ?_)))))
 obtain ⟨x8,k,h⟩:=ob h
 refine wc (z99_32_ct N x7.2 400 _ k) [(0,.bp 2 0),(1,.sl 12)] [] Q Q Q Q Q Q Q Q (.inl rfl) rfl (wx ⟨[(2,.B 1 0),(3,.I 0),(4,.B 2 0),(5,.B 5 0)],[(1,.box [.s (str []),.nil,.nil,.I 0,.I 0,.I 0,.nil,.nil] 27),(2,.box (cC12 14 x8.2) 160),(5,.box [.s x2.1,.sl 6,.sl 8,.I x5.1,.I x6.1,.I x7.1,.sl 13,.nil] 27),(6,.own rS x3.1 true),(8,.own rR0 x4.1 true),(13,.own rR2 x8.1 true)],[(0,.sl (rI .u8) b_),(14,.sl (rI .u8) x8.2.b')],15⟩ J 2 (wn (wq (wg (ws J 1 Q ?_)))))
 obtain ⟨x9,l,h⟩:=ob h
 refine wc (z101_33_ct N x8.2 200 _ l) [(0,.bp 2 0),(1,.sl 14)] [] Q Q Q Q Q Q Q Q (.inl rfl) rfl (wx ⟨[(2,.B 1 0),(3,.I 0),(4,.B 2 0),(5,.B 5 0)],[(1,.box [.s (str []),.nil,.nil,.I 0,.I 0,.I 0,.nil,.nil] 27),(2,.box (cC12 16 x9.2) 160),(5,.box [.s x2.1,.sl 6,.sl 8,.I x5.1,.I x6.1,.I x7.1,.sl 13,.sl 15] 27),(6,.own rS x3.1 true),(8,.own rR0 x4.1 true),(13,.own rR2 x8.1 true),(15,.own rR8 x9.1 true)],[(0,.sl (rI .u8) b_),(16,.sl (rI .u8) x9.2.b')],17⟩ J 2 (wn (wq (wq (wg (ws J 1 Q ?_))))))
 obtain ⟨m,o,h⟩:=ob h
 refine wc (z103_ct N x9.2 _ o) [(0,.bp 2 0),(1,.sl 16)] [] Q Q Q Q Q Q Q Q (.inl rfl) rfl (xw [4,5,6,7] (zz149 x2.1 x5.1 x6.1 x7.1 x3.1 x4.1 x8.1 x9.1 b_ [(2,.B 1 0),(3,.I 0),(5,.B 5 0),(35,.O (m != 0))]) J 2 ?_)
 rcases oc h with ⟨hc,h⟩ | ⟨hc,h⟩
 ·refine wy 35 hc Q (wx (zz149 x2.1 x5.1 x6.1 x7.1 x3.1 x4.1 x8.1 x9.1 b_ [(2,.B 1 0),(3,.I 0),(5,.B 5 0),(39,.O true)]) J 4 (wn (wt Q Q (wq (wg (wx (zz181 b_ [(2,.B 1 0),(3,.I 4)]) J 3 (wn ?_)))))))
  cases h
  exact we J Tryz.func41 [(1,.nil),(2,.nil),(3,.nil),(4,.nil)] Q Q Q Q
 refine wy 35 hc Q (ws J 1 Q ?_)
 obtain ⟨p,q,h⟩:=ob h
 refine wc (z22_ct N (⟨x2.1,x3.1,x4.1,x5.1,x6.1,x7.1,x8.1,x9.1⟩:T4) _ q) [(0,.sl 6),(1,.sl 8),(2,.sl 13),(3,.sl 15)] [6,8,13,15] Q Q Q Q Q Q Q Q (.inr ⟨rfl,trivial⟩) rfl (wx (zz149 x2.1 x5.1 x6.1 x7.1 x3.1 x4.1 x8.1 x9.1 b_ [(2,.B 1 0),(3,.I 0),(5,.B 5 0),(39,.O (!p))]) J 2 (wn ?_))
 rcases oc h with ⟨hc,h⟩ | ⟨hc,h⟩
 ·refine wt hc Q (wq (wg (wx (zz181 b_ [(2,.B 1 0),(3,.I 4)]) J 3 (wn ?_))))
  cases h
  exact we J Tryz.func41 [(1,.nil),(2,.nil),(3,.nil),(4,.nil)] Q Q Q Q
 refine wf hc Q (wi (wq (wg (wx ⟨[(2,.B 1 0),(3,.I 0)],[(1,.box [.s x2.1,.sl 6,.sl 8,.I x5.1,.I x6.1,.I x7.1,.sl 13,.sl 15] 27),(6,.own rS x3.1 true),(8,.own rR0 x4.1 true),(13,.own rR2 x8.1 true),(15,.own rR8 x9.1 true)],[(0,.sl (rI .u8) b_)],17⟩ J 3 (wn (WP.frz 6 rfl (WP.frz 8 rfl (WP.frz 13 rfl (WP.frz 15 rfl ?_)))))))))
 cases h
 exact we J Tryz.func41 [(1,.sl 6),(2,.sl 8),(3,.sl 13),(4,.sl 15)] Q Q Q Q
theorem z107_ct (N:Nat) (r_:T11) (r:Int × T11) (h:z107 N r_=some r) :
 Fn Tryz.prog 107 ⟨2,[.B 0 0],[(1,.sl (rI .u8) r_.B)],[(0,.box (cC11 1 r_) 130)],3,.I r.1,[(2,.sl (rI .u8) r.2.B)],[(0,.box (cC11 2 r.2) 130)]⟩:=by
 refine Fn.intro _ _ Tryz.func107 rfl (by kernel_rfl) rfl (fun E F w=>?_)
 unfold z107 at h
 refine wq (wg (ws J 1 Q (wn (wq (wg (wx (zz15 r_ r_.B [(0,.B 0 0),(2,.I 0),(3,.c (.i .u64 0)),(4,.c (.i .u64 1))]) J 2 (wn (wq (wq (wg (wx (zz15 r_ r_.B [(0,.B 0 0),(2,.I 0),(3,.c (.i .u64 0)),(4,.c (.i .u64 1)),(5,.I r_.At)]) J 5 (wn ?_))))))))))))
 refine wC (σ:=Unit) (fun st=>(zz15 r_ r_.B [(0,.B 0 0)])) (fun st=>z107_k1 r_=some r) ?_ (fun j1=>?_)
 ·intro _ h
  replace h:z107_k1 r_=some r:=h
  unfold z107_k1 at h
  refine wq (wg (wx (zz114 r_.At r_.B []) J 4 (wn (wq (wg (ws J 1 Q (wn ?_)))))))
  cases h
  exact we J Tryz.func107 [(2,.sl 1)] Q Q Q Q
 refine wo ?_
 refine wI (σ:=Int × Int × Int) (fun st=>(zz15 r_ r_.B [(0,.B 0 0),(3,.c (.i .u64 st.1)),(4,.c (.i .u64 st.2.1)),(5,.I st.2.2)])) (fun n st=>z107_l2 r_ n st.1 st.2.1 st.2.2) (r:=r) (fun _=>rfl) ?_ (fun ih=>?_)
 ·intro n2 ih3
  rintro ⟨d,e,f⟩ h
  replace h:z107_l2 r_ (n2+1) d e f=some r:=h
  unfold z107_l2 at h
  refine wq (wq (wg (xw (rg 8 15) (zz15 r_ r_.B [(0,.B 0 0),(3,.c (.i .u64 d)),(4,.c (.i .u64 e)),(5,.I f),(18,.O (decide (f < (r_.B.length:Int))))]) J 8 ?_)))
  rcases oc' h with ⟨hc,h⟩ | ⟨hc,h⟩
  ·exact wy 18 hc Q (wx (zz15 r_ r_.B [(0,.B 0 0),(3,.c (.i .u64 d)),(4,.c (.i .u64 e)),(5,.I f),(33,.O false)]) J 15 (wn (wf Q Q (wz rfl (wu [] (j1 () h) Q Q Q Q)))))
  refine wy 18 hc Q (xw (rg 17 6) (zz15 r_ r_.B [(0,.B 0 0),(3,.c (.i .u64 d)),(4,.c (.i .u64 e)),(5,.I f),(27,.O (decide (f < (w64 (r_.At+10)))))]) J 9 ?_)
  rcases oc' h with ⟨hc,h⟩ | ⟨hc,h⟩
  ·exact wy 27 hc Q (wx (zz15 r_ r_.B [(0,.B 0 0),(3,.c (.i .u64 d)),(4,.c (.i .u64 e)),(5,.I f),(33,.O false)]) J 6 (wn (wf Q Q (wz rfl (wu [] (j1 () h) Q Q Q Q)))))
  refine wy 27 hc Q (wx (zz15 r_ r_.B [(0,.B 0 0),(3,.c (.i .u64 d)),(4,.c (.i .u64 e)),(5,.I f),(33,.O (!r_.Failed))]) J 6 (wn ?_))
  rcases oc' h with ⟨hc,h⟩ | ⟨hc,h⟩
  ·exact wf hc Q (wz rfl (wu [] (j1 () h) Q Q Q Q))
  refine wt hc Q (wi (wq (wo (wq (wg (xw [5,6,7,8,9] (zz15 r_ r_.B [(0,.B 0 0),(3,.c (.i .u64 d)),(4,.c (.i .u64 e)),(5,.I f),(39,.S 1),(40,.I f)]) J 5 ?_))))))
  obtain ⟨g,j,h⟩:=ob h
  refine wj (oI .u8) J j Q Q Q Q Q Q Q Q Q (wx (zz33 r_ r_.B [(0,.B 0 0),(3,.c (.i .u64 d)),(4,.c (.i .u64 e)),(5,.I f),(6,.c (.i .u64 (wk .u64 ((g.tmod 128)))))]) J 4 (wn (wq (wq (wg (xw [8,9,10] (zz33 r_ r_.B [(0,.B 0 0),(3,.c (.i .u64 d)),(4,.c (.i .u64 e)),(5,.I f),(6,.c (.i .u64 (wk .u64 ((g.tmod 128))))),(52,.O (f==(w64 (r_.At+9))))]) J 8 ?_))))))
  rcases oc' h with ⟨hc,h⟩ | ⟨hc,h⟩
  ·refine wy 52 hc Q (wx (zz33 r_ r_.B [(0,.B 0 0),(3,.c (.i .u64 d)),(4,.c (.i .u64 e)),(5,.I f),(6,.c (.i .u64 (wk .u64 ((g.tmod 128))))),(55,.O false)]) J 3 (wn (wf Q Q (wi (wq (wg (wx (zz33 r_ r_.B [(0,.B 0 0),(3,.c (.i .u64 (wk .u64 (d+(wk .u64 ((wk .u64 ((g.tmod 128))) * e)))))),(4,.c (.i .u64 e)),(5,.I f),(6,.c (.i .u64 (wk .u64 ((g.tmod 128)))))]) J 6 (wn (wq (wg (wx (zz33 r_ r_.B [(0,.B 0 0),(3,.c (.i .u64 (wk .u64 (d+(wk .u64 ((wk .u64 ((g.tmod 128))) * e)))))),(4,.c (.i .u64 (wk .u64 (e * 128)))),(5,.I f),(6,.c (.i .u64 (wk .u64 ((g.tmod 128)))))]) J 3 (wn (wq (wq (wg (xw [5,6,7] (zz33 r_ r_.B [(0,.B 0 0),(3,.c (.i .u64 (wk .u64 (d+(wk .u64 ((wk .u64 ((g.tmod 128))) * e)))))),(4,.c (.i .u64 (wk .u64 (e * 128)))),(5,.I f),(6,.c (.i .u64 (wk .u64 ((g.tmod 128))))),(66,.S 1),(67,.I f)]) J 5 ?_))))))))))))))))
   obtain ⟨k,l,h⟩:=ob h
   refine wj (oI .u8) J l Q Q Q Q Q Q Q Q Q (wx (zz38 r_ r_.B [(0,.B 0 0),(3,.c (.i .u64 (wk .u64 (d+(wk .u64 ((wk .u64 ((g.tmod 128))) * e)))))),(4,.c (.i .u64 (wk .u64 (e * 128)))),(5,.I f),(6,.c (.i .u64 (wk .u64 ((g.tmod 128))))),(70,.O (decide (k≥128)))]) J 2 (wn ?_))
   rcases oc h with ⟨hc,h⟩ | ⟨hc,h⟩
   ·exact wt hc Q (wz rfl (wg (wx (zz38 r_ r_.B [(0,.B 0 0),(3,.c (.i .u64 (wk .u64 (d+(wk .u64 ((wk .u64 ((g.tmod 128))) * e)))))),(4,.c (.i .u64 (wk .u64 (e * 128)))),(5,.I (w64 (f+1)))]) J 3 (wn (wu [] (ih3 ((wk .u64 (d+(wk .u64 ((wk .u64 ((g.tmod 128))) * e)))),(wk .u64 (e * 128)),(w64 (f+1))) h) Q Q Q Q)))))
   refine wf hc Q (wi (wq (wq (wg (xw (rg 3 7) (zz38 r_ r_.B [(0,.B 0 0),(3,.c (.i .u64 (wk .u64 (d+(wk .u64 ((wk .u64 ((g.tmod 128))) * e)))))),(5,.I f),(73,.O ((wk .u64 ((g.tmod 128)))==0))]) J 3 ?_)))))
   rcases oc' h with ⟨hc,h⟩ | ⟨hc,h⟩
   ·refine wy 73 hc Q (wx (zz38 r_ r_.B [(0,.B 0 0),(3,.c (.i .u64 (wk .u64 (d+(wk .u64 ((wk .u64 ((g.tmod 128))) * e)))))),(5,.I f),(80,.O false)]) J 7 (wn (wf Q Q (wi (wq (wg (wx (zz22 (w64 (f+1)) r_.Failed r_.B [(3,.c (.i .u64 (wk .u64 (d+(wk .u64 ((wk .u64 ((g.tmod 128))) * e))))))]) J 6 (wn (wq (wq (wg (wx (zz22 (w64 (f+1)) r_.Failed r_.B [(3,.c (.i .u64 (wk .u64 (d+(wk .u64 ((wk .u64 ((g.tmod 128))) * e)))))),(88,.O (((wk .u64 (d+(wk .u64 ((wk .u64 ((g.tmod 128))) * e)))).tmod 2)==1))]) J 3 (wn ?_)))))))))))))
    rcases oc h with ⟨hc,h⟩ | ⟨hc,h⟩
    ·refine wt hc Q (wq (wg (wx (zz22 (w64 (f+1)) r_.Failed r_.B [(2,.I (w64 ((w64 (0-(w64 ((wk .u64 ((wk .u64 (d+(wk .u64 ((wk .u64 ((g.tmod 128))) * e)))).tdiv 2))))))-1)))]) J 6 (wn ?_))))
     cases h
     exact we J Tryz.func107 [(2,.sl 1)] Q Q Q Q
    refine wf hc Q (wi (wq (wg (wx (zz22 (w64 (f+1)) r_.Failed r_.B [(2,.I (w64 ((wk .u64 ((wk .u64 (d+(wk .u64 ((wk .u64 ((g.tmod 128))) * e)))).tdiv 2)))))]) J 4 (wn ?_)))))
    cases h
    exact we J Tryz.func107 [(2,.sl 1)] Q Q Q Q
   refine wy 73 hc Q (wx (zz38 r_ r_.B [(0,.B 0 0),(3,.c (.i .u64 (wk .u64 (d+(wk .u64 ((wk .u64 ((g.tmod 128))) * e)))))),(5,.I f),(80,.O (decide (f > r_.At)))]) J 7 (wn ?_))
   rcases oc h with ⟨hc,h⟩ | ⟨hc,h⟩
   ·exact wt hc Q (wz rfl (wu [] (j1 () h) Q Q Q Q))
   refine wf hc Q (wi (wq (wg (wx (zz22 (w64 (f+1)) r_.Failed r_.B [(3,.c (.i .u64 (wk .u64 (d+(wk .u64 ((wk .u64 ((g.tmod 128))) * e))))))]) J 6 (wn (wq (wq (wg (wx (zz22 (w64 (f+1)) r_.Failed r_.B [(3,.c (.i .u64 (wk .u64 (d+(wk .u64 ((wk .u64 ((g.tmod 128))) * e)))))),(88,.O (((wk .u64 (d+(wk .u64 ((wk .u64 ((g.tmod 128))) * e)))).tmod 2)==1))]) J 3 (wn ?_))))))))))
   rcases oc h with ⟨hc,h⟩ | ⟨hc,h⟩
   ·refine wt hc Q (wq (wg (wx (zz22 (w64 (f+1)) r_.Failed r_.B [(2,.I (w64 ((w64 (0-(w64 ((wk .u64 ((wk .u64 (d+(wk .u64 ((wk .u64 ((g.tmod 128))) * e)))).tdiv 2))))))-1)))]) J 6 (wn ?_))))
    cases h
    exact we J Tryz.func107 [(2,.sl 1)] Q Q Q Q
   refine wf hc Q (wi (wq (wg (wx (zz22 (w64 (f+1)) r_.Failed r_.B [(2,.I (w64 ((wk .u64 ((wk .u64 (d+(wk .u64 ((wk .u64 ((g.tmod 128))) * e)))).tdiv 2)))))]) J 4 (wn ?_)))))
   cases h
   exact we J Tryz.func107 [(2,.sl 1)] Q Q Q Q
  refine wy 52 hc Q (wx (zz33 r_ r_.B [(0,.B 0 0),(3,.c (.i .u64 d)),(4,.c (.i .u64 e)),(5,.I f),(6,.c (.i .u64 (wk .u64 ((g.tmod 128))))),(55,.O (decide ((wk .u64 ((g.tmod 128))) > 1)))]) J 3 (wn ?_))
  rcases oc h with ⟨hc,h⟩ | ⟨hc,h⟩
  ·exact wt hc Q (wz rfl (wu [] (j1 () h) Q Q Q Q))
  refine wf hc Q (wi (wq (wg (wx (zz33 r_ r_.B [(0,.B 0 0),(3,.c (.i .u64 (wk .u64 (d+(wk .u64 ((wk .u64 ((g.tmod 128))) * e)))))),(4,.c (.i .u64 e)),(5,.I f),(6,.c (.i .u64 (wk .u64 ((g.tmod 128)))))]) J 6 (wn (wq (wg (wx (zz33 r_ r_.B [(0,.B 0 0),(3,.c (.i .u64 (wk .u64 (d+(wk .u64 ((wk .u64 ((g.tmod 128))) * e)))))),(4,.c (.i .u64 (wk .u64 (e * 128)))),(5,.I f),(6,.c (.i .u64 (wk .u64 ((g.tmod 128)))))]) J 3 (wn (wq (wq (wg (xw [5,6,7] (zz33 r_ r_.B [(0,.B 0 0),(3,.c (.i .u64 (wk .u64 (d+(wk .u64 ((wk .u64 ((g.tmod 128))) * e)))))),(4,.c (.i .u64 (wk .u64 (e * 128)))),(5,.I f),(6,.c (.i .u64 (wk .u64 ((g.tmod 128))))),(66,.S 1),(67,.I f)]) J 5 ?_)))))))))))))
  obtain ⟨m,o,h⟩:=ob h
  refine wj (oI .u8) J o Q Q Q Q Q Q Q Q Q (wx (zz38 r_ r_.B [(0,.B 0 0),(3,.c (.i .u64 (wk .u64 (d+(wk .u64 ((wk .u64 ((g.tmod 128))) * e)))))),(4,.c (.i .u64 (wk .u64 (e * 128)))),(5,.I f),(6,.c (.i .u64 (wk .u64 ((g.tmod 128))))),(70,.O (decide (m≥128)))]) J 2 (wn ?_))
  rcases oc h with ⟨hc,h⟩ | ⟨hc,h⟩
  ·exact wt hc Q (wz rfl (wg (wx (zz38 r_ r_.B [(0,.B 0 0),(3,.c (.i .u64 (wk .u64 (d+(wk .u64 ((wk .u64 ((g.tmod 128))) * e)))))),(4,.c (.i .u64 (wk .u64 (e * 128)))),(5,.I (w64 (f+1)))]) J 3 (wn (wu [] (ih3 ((wk .u64 (d+(wk .u64 ((wk .u64 ((g.tmod 128))) * e)))),(wk .u64 (e * 128)),(w64 (f+1))) h) Q Q Q Q)))))
  refine wf hc Q (wi (wq (wq (wg (xw (rg 3 7) (zz38 r_ r_.B [(0,.B 0 0),(3,.c (.i .u64 (wk .u64 (d+(wk .u64 ((wk .u64 ((g.tmod 128))) * e)))))),(5,.I f),(73,.O ((wk .u64 ((g.tmod 128)))==0))]) J 3 ?_)))))
  rcases oc' h with ⟨hc,h⟩ | ⟨hc,h⟩
  ·refine wy 73 hc Q (wx (zz38 r_ r_.B [(0,.B 0 0),(3,.c (.i .u64 (wk .u64 (d+(wk .u64 ((wk .u64 ((g.tmod 128))) * e)))))),(5,.I f),(80,.O false)]) J 7 (wn (wf Q Q (wi (wq (wg (wx (zz22 (w64 (f+1)) r_.Failed r_.B [(3,.c (.i .u64 (wk .u64 (d+(wk .u64 ((wk .u64 ((g.tmod 128))) * e))))))]) J 6 (wn (wq (wq (wg (wx (zz22 (w64 (f+1)) r_.Failed r_.B [(3,.c (.i .u64 (wk .u64 (d+(wk .u64 ((wk .u64 ((g.tmod 128))) * e)))))),(88,.O (((wk .u64 (d+(wk .u64 ((wk .u64 ((g.tmod 128))) * e)))).tmod 2)==1))]) J 3 (wn ?_)))))))))))))
   rcases oc h with ⟨hc,h⟩ | ⟨hc,h⟩
   ·refine wt hc Q (wq (wg (wx (zz22 (w64 (f+1)) r_.Failed r_.B [(2,.I (w64 ((w64 (0-(w64 ((wk .u64 ((wk .u64 (d+(wk .u64 ((wk .u64 ((g.tmod 128))) * e)))).tdiv 2))))))-1)))]) J 6 (wn ?_))))
    cases h
    exact we J Tryz.func107 [(2,.sl 1)] Q Q Q Q
   refine wf hc Q (wi (wq (wg (wx (zz22 (w64 (f+1)) r_.Failed r_.B [(2,.I (w64 ((wk .u64 ((wk .u64 (d+(wk .u64 ((wk .u64 ((g.tmod 128))) * e)))).tdiv 2)))))]) J 4 (wn ?_)))))
   cases h
   exact we J Tryz.func107 [(2,.sl 1)] Q Q Q Q
  refine wy 73 hc Q (wx (zz38 r_ r_.B [(0,.B 0 0),(3,.c (.i .u64 (wk .u64 (d+(wk .u64 ((wk .u64 ((g.tmod 128))) * e)))))),(5,.I f),(80,.O (decide (f > r_.At)))]) J 7 (wn ?_))
  rcases oc h with ⟨hc,h⟩ | ⟨hc,h⟩
  ·exact wt hc Q (wz rfl (wu [] (j1 () h) Q Q Q Q))
  refine wf hc Q (wi (wq (wg (wx (zz22 (w64 (f+1)) r_.Failed r_.B [(3,.c (.i .u64 (wk .u64 (d+(wk .u64 ((wk .u64 ((g.tmod 128))) * e))))))]) J 6 (wn (wq (wq (wg (wx (zz22 (w64 (f+1)) r_.Failed r_.B [(3,.c (.i .u64 (wk .u64 (d+(wk .u64 ((wk .u64 ((g.tmod 128))) * e)))))),(88,.O (((wk .u64 (d+(wk .u64 ((wk .u64 ((g.tmod 128))) * e)))).tmod 2)==1))]) J 3 (wn ?_))))))))))
  rcases oc h with ⟨hc,h⟩ | ⟨hc,h⟩
  ·refine wt hc Q (wq (wg (wx (zz22 (w64 (f+1)) r_.Failed r_.B [(2,.I (w64 ((w64 (0-(w64 ((wk .u64 ((wk .u64 (d+(wk .u64 ((wk .u64 ((g.tmod 128))) * e)))).tdiv 2))))))-1)))]) J 6 (wn ?_))))
   cases h
   exact we J Tryz.func107 [(2,.sl 1)] Q Q Q Q
  refine wf hc Q (wi (wq (wg (wx (zz22 (w64 (f+1)) r_.Failed r_.B [(2,.I (w64 ((wk .u64 ((wk .u64 (d+(wk .u64 ((wk .u64 ((g.tmod 128))) * e)))).tdiv 2)))))]) J 4 (wn ?_)))))
  cases h
  exact we J Tryz.func107 [(2,.sl 1)] Q Q Q Q
 exact wu [] (ih N (0,1,r_.At) h) Q Q Q Q
theorem z145_ct (N:Nat) (r_:T11) (at_:Int) (r:T11) (h:z145 N r_ at_=some r) :
 Fn Tryz.prog 145 ⟨2,[.B 0 0,.I at_],[(1,.sl (rI .u8) r_.B)],[(0,.box (cC11 1 r_) 130)],3,.t [],[(2,.sl (rI .u8) r.B)],[(0,.box (cC11 2 r) 130)]⟩:=by
 refine Fn.intro _ _ Tryz.func145 rfl (by kernel_rfl) rfl (fun E F w=>?_)
 unfold z145 at h
 refine wg (wx (zz114 at_ r_.B []) J 9 (wn ?_))
 cases h
 exact WP.fin J Tryz.func145 [(2,.sl 1)] Q Q Q Q
theorem z105_ct (N:Nat) (r_:T11) (lo_:Int) (hi_:Int) (r:Int × T11) (h:z105 N r_ lo_ hi_=some r) :
 Fn Tryz.prog 105 ⟨2,[.B 0 0,.I lo_,.I hi_],[(1,.sl (rI .u8) r_.B)],[(0,.box (cC11 1 r_) 130)],3,.I r.1,[(2,.sl (rI .u8) r.2.B)],[(0,.box (cC11 2 r.2) 130)]⟩:=by
 refine Fn.intro _ _ Tryz.func105 rfl (by kernel_rfl) rfl (fun E F w=>?_)
 unfold z105 at h
 refine wq (wg (ws J 1 Q (wn (wq (wg (wx (zz15 r_ r_.B [(0,.B 0 0),(1,.I lo_),(2,.I hi_),(6,.I 0),(7,.I r_.At)]) J 5 (wn (wq (wg (ws J 1 Q ?_))))))))))
 obtain ⟨x1,c,h⟩:=ob h
 refine wc (z107_ct N r_ _ c) [(0,.bp 0 0),(1,.sl 1)] [] Q Q Q Q Q Q Q Q (.inl rfl) rfl (wx (zz41 x1.2 r_.B x1.2.B [(0,.B 0 0),(1,.I lo_),(2,.I hi_),(6,.I 0),(7,.I r_.At),(8,.I x1.1)]) J 1 (wn (wq (wq (wg (wx (zz41 x1.2 r_.B x1.2.B [(0,.B 0 0),(1,.I lo_),(2,.I hi_),(6,.I 0),(7,.I r_.At),(8,.I x1.1),(18,.O x1.2.Failed)]) J 4 (wn ?_)))))))
 rcases oc h with ⟨hc,h⟩ | ⟨hc,h⟩
 ·refine wt hc Q (wq (wg (ws J 1 Q (wn ?_))))
  cases h
  exact we J Tryz.func105 [(2,.sl 2)] Q Q Q Q
 refine wf hc Q (wi (wq (wq (wg (xw [4,5,6,7] (zz41 x1.2 r_.B x1.2.B [(0,.B 0 0),(2,.I hi_),(6,.I 0),(7,.I r_.At),(8,.I x1.1),(22,.O (decide (x1.1 < lo_)))]) J 4 ?_)))))
 rcases oc h with ⟨hc,h⟩ | ⟨hc,h⟩
 ·refine wy 22 hc Q (wx (zz41 x1.2 r_.B x1.2.B [(0,.B 0 0),(6,.I 0),(7,.I r_.At),(8,.I x1.1),(26,.O true)]) J 4 (wn (wt Q Q (wq (wg (ws J 2 Q ?_))))))
  obtain ⟨x2,d,h⟩:=ob h
  refine wc (z145_ct N x1.2 r_.At _ d) [(0,.bp 0 0),(1,.sl 2)] [] Q Q Q Q Q Q Q Q (.inl rfl) rfl (wx (zz115 x2 r_.B x2.B [(6,.I 0)]) J 0 (wn (wq (wg (ws J 1 Q (wn ?_))))))
  cases h
  exact we J Tryz.func105 [(2,.sl 3)] Q Q Q Q
 refine wy 22 hc Q (wx (zz41 x1.2 r_.B x1.2.B [(0,.B 0 0),(6,.I 0),(7,.I r_.At),(8,.I x1.1),(26,.O (decide (x1.1 > hi_)))]) J 4 (wn ?_))
 rcases oc' h with ⟨hc,h⟩ | ⟨hc,h⟩
 ·refine wf hc Q (wi (wq (wg (ws J 2 Q (wn ?_)))))
  cases h
  exact we J Tryz.func105 [(2,.sl 2)] Q Q Q Q
 refine wt hc Q (wq (wg (ws J 2 Q ?_)))
 obtain ⟨x3,e,h⟩:=ob h
 refine wc (z145_ct N x1.2 r_.At _ e) [(0,.bp 0 0),(1,.sl 2)] [] Q Q Q Q Q Q Q Q (.inl rfl) rfl (wx (zz115 x3 r_.B x3.B [(6,.I 0)]) J 0 (wn (wq (wg (ws J 1 Q (wn ?_))))))
 cases h
 exact we J Tryz.func105 [(2,.sl 3)] Q Q Q Q
theorem z144_ct (N:Nat) (r_:T11) (max_:Int) (r:(List Int) × T11) (h:z144 N r_ max_=some r) :
 Fn Tryz.prog 144 ⟨2,[.B 0 0,.I max_],[(1,.sl (rI .u8) r_.B)],[(0,.box (cC11 1 r_) 130)],4,.S 2,[(3,.sl (rI .u8) r.2.B)],[(2,.own (rI .u8) r.1 true),(0,.box (cC11 3 r.2) 130)]⟩:=by
 refine Fn.intro _ _ Tryz.func144 rfl (by kernel_rfl) rfl (fun E F w=>?_)
 unfold z144 at h
 refine wq (wg (ws J 1 Q (wn (wq (wg (wx (zz15 r_ r_.B [(0,.B 0 0),(1,.I max_),(4,.c .nil),(5,.I r_.At)]) J 5 (wn (wq (wg (ws J 2 Q ?_))))))))))
 obtain ⟨x1,d,h⟩:=ob h
 refine wc (z105_ct N r_ 0 max_ _ d) [(0,.bp 0 0),(1,.sl 1)] [] Q Q Q Q Q Q Q Q (.inl rfl) rfl (wx (zz41 x1.2 r_.B x1.2.B [(0,.B 0 0),(4,.c .nil),(5,.I r_.At),(6,.I x1.1)]) J 1 (wn (wq (wq (wQ (by kernel_rfl) (by kernel_rfl) (xq (rg 5 13) (zz41 x1.2 r_.B x1.2.B [(0,.B 0 0),(4,.c .nil),(5,.I r_.At),(6,.I x1.1),(18,.O x1.2.Failed)]) J 5 ?_))))))
 rcases oc h with ⟨hc,h⟩ | ⟨hc,h⟩
 ·refine qy 18 hc Q (qx (zz41 x1.2 r_.B x1.2.B [(0,.B 0 0),(4,.c .nil),(5,.I r_.At),(6,.I x1.1),(31,.O true)]) J 13 (qn (wt Q Q (wq (wg (ws J 2 Q ?_))))))
  obtain ⟨x2,e,h⟩:=ob h
  refine wc (z145_ct N x1.2 r_.At _ e) [(0,.bp 0 0),(1,.sl 2)] [] Q Q Q Q Q Q Q Q (.inl rfl) rfl (wx (zz115 x2 r_.B x2.B [(4,.c .nil)]) J 0 (wn (wq (wg (ws J 1 Q (wn ?_))))))
  cases h
  exact we J Tryz.func144 [(2,.nil),(3,.sl 3)] Q Q Q Q
 refine qy 18 hc Q (qx (zz41 x1.2 r_.B x1.2.B [(0,.B 0 0),(4,.c .nil),(5,.I r_.At),(6,.I x1.1),(31,.O (decide (x1.1 > (w64 ((x1.2.B.length:Int)-x1.2.At)))))]) J 13 (qn ?_))
 rcases oc h with ⟨hc,h⟩ | ⟨hc,h⟩
 ·refine wt hc Q (wq (wg (ws J 2 Q ?_)))
  obtain ⟨x3,f,h⟩:=ob h
  refine wc (z145_ct N x1.2 r_.At _ f) [(0,.bp 0 0),(1,.sl 2)] [] Q Q Q Q Q Q Q Q (.inl rfl) rfl (wx (zz115 x3 r_.B x3.B [(4,.c .nil)]) J 0 (wn (wq (wg (ws J 1 Q (wn ?_))))))
  cases h
  exact we J Tryz.func144 [(2,.nil),(3,.sl 3)] Q Q Q Q
 refine wf hc Q (wi (wq (wg (wx ⟨[(0,.B 0 0),(4,.c .nil),(6,.I x1.1)],[(0,.box [.sl 2,.I (w64 (x1.2.At+x1.1)),.b x1.2.Failed] 130)],[(1,.sl (rI .u8) r_.B),(2,.sl (rI .u8) x1.2.B)],3⟩ J 9 (wn (wq (wN (fun A1 g i=>?_))))))))
 have j:A1 0 ⟨[],[],[],[],3,[(43,.S 3)],[],[(3,.own (rI .u8) ([]:List Int) true)],4⟩:=g _ _ (wO Q Q Q (fun _ _ _ _ _ _ _ k=>WPr.bs (cs:=[]) (oI .u8) J ([]:List Int) Q Q Q Q Q Q (by kernel_rfl) (by exact rfl) rfl (k)) rfl)
 have m:A1 1 (zz27 [(0,.B 0 0)] [(44,.B 0 0)]):=g _ _ (wl J Q Q Q Q Q Q)
 have o:A1 2 (zz27 [(44,.B 0 0)] [(45,.B 0 0)]):=g _ _ (wl J Q Q Q Q Q Q)
 have p:A1 3 (zz27 [(45,.B 0 0)] [(46,.B 0 0)]):=g _ _ (wl J Q Q Q Q Q Q)
 have q:A1 4 (zz150 x1.2.B (w64 (x1.2.At+x1.1)) x1.2.Failed [(46,.B 0 0)] [(47,.S 2)]):=g _ _ (wl J Q Q Q Q Q Q)
 have s:A1 5 (zz27 [(0,.B 0 0)] [(48,.B 0 0)]):=g _ _ (wl J Q Q Q Q Q Q)
 have u:A1 6 (zz27 [(48,.B 0 0)] [(49,.B 0 0)]):=g _ _ (wl J Q Q Q Q Q Q)
 have v:A1 7 (zz27 [(49,.B 0 0)] [(50,.B 0 1)]):=g _ _ (wl J Q Q Q Q Q Q)
 have x:A1 8 (zz150 x1.2.B (w64 (x1.2.At+x1.1)) x1.2.Failed [(50,.B 0 1)] [(51,.I (w64 (x1.2.At+x1.1)))]):=g _ _ (wl J Q Q Q Q Q Q)
 have y:A1 9 (zz27 [(6,.I x1.1)] [(52,.I x1.1)]):=g _ _ (wl J Q Q Q Q Q Q)
 have z:A1 10 (zz27 [(51,.I (w64 (x1.2.At+x1.1))),(52,.I x1.1)] [(53,.I (w64 ((w64 (x1.2.At+x1.1))-x1.1)))]):=g _ _ (wl J Q Q Q Q Q Q)
 have A:A1 11 (zz27 [(0,.B 0 0)] [(54,.B 0 0)]):=g _ _ (wl J Q Q Q Q Q Q)
 have C:A1 12 (zz27 [(54,.B 0 0)] [(55,.B 0 0)]):=g _ _ (wl J Q Q Q Q Q Q)
 have D:A1 13 (zz27 [(55,.B 0 0)] [(56,.B 0 1)]):=g _ _ (wl J Q Q Q Q Q Q)
 have G:A1 14 (zz150 x1.2.B (w64 (x1.2.At+x1.1)) x1.2.Failed [(56,.B 0 1)] [(57,.I (w64 (x1.2.At+x1.1)))]):=g _ _ (wl J Q Q Q Q Q Q)
 obtain ⟨H,K,h⟩:=ob h
 have R:A1 15 ⟨[(47,.S 2),(53,.I (w64 ((w64 (x1.2.At+x1.1))-x1.1))),(57,.I (w64 (x1.2.At+x1.1)))],[(2,.sl (rI .u8) x1.2.B)],[],[],4,[(58,.S 4)],[(4,.sl (rI .u8) H)],[],5⟩:=g _ _ (wO Q Q Q (fun _ _ _ _ _ _ _ k=>WPr.isl J (l:=some (.i64,(w64 ((w64 (x1.2.At+x1.1))-x1.1)))) (h:=some (.i64,(w64 (x1.2.At+x1.1)))) K Q Q Q Q Q Q Q Q Q Q (k)) rfl)
 obtain ⟨T,U,h⟩:=ob h
 have X:A1 16 ⟨[(43,.S 3),(58,.S 4)],[(4,.sl (rI .u8) H)],[(3,.own (rI .u8) ([]:List Int) true)],[],5,[(59,.S 5)],[],[(3,.gone),(5,.own (rI .u8) T true)],6⟩:=g _ _ (wO Q Q Q (fun _ _ _ _ _ _ _ k=>WPr.app J U (by exact (srcI rfl)) Q Q Q Q Q Q Q Q Q Q (k)) rfl)
 have Y:A1 17 (zz3 [(59,.S 5)] [(4,.S 5)]):=g _ _ (wl J Q Q Q Q Q Q)
 refine wD (t:=⟨[(4,.S 5)],[(0,.box [.sl 2,.I (w64 (x1.2.At+x1.1)),.b x1.2.Failed] 130),(5,.own (rI .u8) T true)],[(1,.sl (rI .u8) r_.B),(2,.sl (rI .u8) x1.2.B)],6⟩) [0,0,2,6,14,0,32,96,224,0,992,0,2048,6144,14336,32766,65535,131071] (.cons (i _ _ j) (.cons (i _ _ m) (.cons (i _ _ o) (.cons (i _ _ p) (.cons (i _ _ q) (.cons (i _ _ s) (.cons (i _ _ u) (.cons (i _ _ v) (.cons (i _ _ x) (.cons (i _ _ y) (.cons (i _ _ z) (.cons (i _ _ A) (.cons (i _ _ C) (.cons (i _ _ D) (.cons (i _ _ G) (.cons (i _ _ R) (.cons (i _ _ X) (.cons (i _ _ Y) .nil)))))))))))))))))) (by kernel_rfl) (by kernel_rfl) (by kernel_rfl) (by kernel_rfl) ?_
 cases h
 exact we J Tryz.func144 [(2,.sl 5),(3,.sl 2)] Q Q Q Q
theorem z104_ct (N:Nat) (r_:T11) (max_:Int) (r:ByteArray × T11) (h:z104 N r_ max_=some r) :
 Fn Tryz.prog 104 ⟨2,[.B 0 0,.I max_],[(1,.sl (rI .u8) r_.B)],[(0,.box (cC11 1 r_) 130)],3,.c (.s r.1),[(2,.sl (rI .u8) r.2.B)],[(0,.box (cC11 2 r.2) 130)]⟩:=by
 refine Fn.intro _ _ Tryz.func104 rfl (by kernel_rfl) rfl (fun E F w=>?_)
 unfold z104 at h
 refine wq (wg (ws J 1 Q (wn (wq (wg (xw [2,3,4] (zz15 r_ r_.B [(5,.B 0 0),(6,.I max_)]) J 2 ?_))))))
 obtain ⟨x1,d,h⟩:=ob h
 refine wc (z144_ct N r_ max_ _ d) [(0,.bp 0 0),(1,.sl 1)] [] Q Q Q Q Q Q Q Q (.inl rfl) rfl (xw [3,4] ⟨[(7,.S 2)],[(0,.box (cC11 3 x1.2) 130),(2,.own (rI .u8) x1.1 true)],[(1,.sl (rI .u8) r_.B),(3,.sl (rI .u8) x1.2.B)],4⟩ J 0 (WPr.cvs (el:=5) x1.1 (srcO rfl) Q Q Q Q Q (by kernel_rfl) (by kernel_rfl) (by kernel_rfl) rfl (shO rfl) rfl (ws J 1 Q (wn ?_))))
 cases h
 exact we J Tryz.func104 [(2,.sl 3)] Q Q Q Q
theorem z106_ct (N:Nat) (r_:T11) (r:T0 × T11) (h:z106 N r_=some r) :
 Fn Tryz.prog 106 ⟨2,[.B 0 0],[(1,.sl (rI .u8) r_.B)],[(0,.box (cC11 1 r_) 130)],6,.a (cC0 2 3 4 r.1),(vV0 2 3 4 r.1 [(5,.sl (rI .u8) r.2.B)]),[(0,.box (cC11 5 r.2) 130)]⟩:=by
 refine Fn.intro _ _ Tryz.func106 rfl (by kernel_rfl) rfl (fun E F w=>?_)
 unfold z106 at h
 refine wq (wg (ws J 1 Q (wn (wq (wg (ws J 1 Q ?_))))))
 obtain ⟨x1,c,h⟩:=ob h
 refine wc (z104_ct N r_ 50 _ c) [(0,.bp 0 0),(1,.sl 1)] [] Q Q Q Q Q Q Q Q (.inl rfl) rfl (wx ⟨[(0,.B 0 0),(2,.B 2 0),(3,.B 4 0)],[(0,.box (cC11 3 x1.2) 130),(2,.box [.s (str []),.nil,.I 0,.nil,.nil] 94),(4,.box [.s x1.1,.nil,.I 0,.nil,.nil] 94)],[(1,.sl (rI .u8) r_.B),(3,.sl (rI .u8) x1.2.B)],5⟩ J 3 (wn (wq (wg (ws J 1 Q ?_)))))
 obtain ⟨x2,d,h⟩:=ob h
 refine wc (z105_ct N x1.2 0 4 _ d) [(0,.bp 0 0),(1,.sl 3)] [] Q Q Q Q Q Q Q Q (.inl rfl) rfl (wx ⟨[(0,.B 0 0),(2,.B 2 0),(3,.B 4 0),(4,.I x2.1)],[(0,.box (cC11 5 x2.2) 130),(2,.box [.s (str []),.nil,.I 0,.nil,.nil] 94),(4,.box [.s x1.1,.nil,.I 0,.nil,.nil] 94)],[(1,.sl (rI .u8) r_.B),(5,.sl (rI .u8) x2.2.B)],6⟩ J 1 (wn (wq (wq (wg (ws J 1 Q (wn ?_)))))))
 refine wC (σ:=(List Int) × Int × Bool × (List T3)) (fun st=>(zz87 st.2.1 st.2.2.1 x1.1 st.2.2.2 r_.B st.1 [(0,.B 0 0),(2,.B 2 0),(3,.B 4 0)])) (fun st=>z106_k5 N x1 st.1 st.2.1 st.2.2.1 st.2.2.2=some r) ?_ (fun j1=>?_)
 ·rintro ⟨vbk0_0_0_1,vbk0_0_1_1,vbk0_0_2_1,e⟩ h
  replace h:z106_k5 N x1 vbk0_0_0_1 vbk0_0_1_1 vbk0_0_2_1 e=some r:=h
  unfold z106_k5 at h
  refine wq (wg (ws J 1 Q ?_))
  obtain ⟨f,g,h⟩:=ob h
  refine wc (z107_ct N (⟨vbk0_0_0_1,vbk0_0_1_1,vbk0_0_2_1⟩:T11) _ g) [(0,.bp 0 0),(1,.sl 6)] [] Q Q Q Q Q Q Q Q (.inl rfl) rfl (wx ⟨[(0,.B 0 0),(2,.B 2 0),(3,.B 4 0)],[(0,.box (cC11 8 f.2) 130),(2,.box [.s (str []),.nil,.I 0,.nil,.nil] 94),(4,.box [.s x1.1,.sl 7,.I f.1,.nil,.nil] 94),(7,.own rR3 e true)],[(1,.sl (rI .u8) r_.B),(8,.sl (rI .u8) f.2.B)],9⟩ J 2 (wn (wq (wg (ws J 1 Q ?_)))))
  obtain ⟨i,j,h⟩:=ob h
  refine wc (z105_ct N f.2 0 20 _ j) [(0,.bp 0 0),(1,.sl 8)] [] Q Q Q Q Q Q Q Q (.inl rfl) rfl (wx ⟨[(0,.B 0 0),(2,.B 2 0),(3,.B 4 0),(4,.I i.1)],[(0,.box (cC11 9 i.2) 130),(2,.box [.s (str []),.nil,.I 0,.nil,.nil] 94),(4,.box [.s x1.1,.sl 7,.I f.1,.nil,.nil] 94),(7,.own rR3 e true)],[(1,.sl (rI .u8) r_.B),(9,.sl (rI .u8) i.2.B)],10⟩ J 1 (wn (wq (wq (wg (ws J 1 Q (wn ?_)))))))
  refine wC (σ:=(List Int) × Int × Bool × (List T1)) (fun st=>(zz88 st.2.1 st.2.2.1 x1.1 f.1 e st.2.2.2 r_.B st.1 [(0,.B 0 0),(2,.B 2 0),(3,.B 4 0)])) (fun st=>z106_k3 N x1 e f st.1 st.2.1 st.2.2.1 st.2.2.2=some r) ?_ (fun j3=>?_)
  ·rintro ⟨vbk0_0_0_3,vbk0_0_1_3,vbk0_0_2_3,k⟩ h
   replace h:z106_k3 N x1 e f vbk0_0_0_3 vbk0_0_1_3 vbk0_0_2_3 k=some r:=h
   unfold z106_k3 at h
   refine wq (wg (ws J 1 Q ?_))
   obtain ⟨l,m,h⟩:=ob h
   refine wc (z105_ct N (⟨vbk0_0_0_3,vbk0_0_1_3,vbk0_0_2_3⟩:T11) 0 20 _ m) [(0,.bp 0 0),(1,.sl 10)] [] Q Q Q Q Q Q Q Q (.inl rfl) rfl (wx ⟨[(0,.B 0 0),(2,.B 2 0),(3,.B 4 0),(4,.I l.1)],[(0,.box (cC11 12 l.2) 130),(2,.box [.s (str []),.nil,.I 0,.nil,.nil] 94),(4,.box [.s x1.1,.sl 7,.I f.1,.sl 11,.nil] 94),(7,.own rR3 e true),(11,.own rR1 k true)],[(1,.sl (rI .u8) r_.B),(12,.sl (rI .u8) l.2.B)],13⟩ J 1 (wn (wq (wq (wg (ws J 1 Q (wn ?_)))))))
   refine wC (σ:=(List Int) × Int × Bool × (List (Int × Int))) (fun st=>(zz89 st.2.1 st.2.2.1 x1.1 f.1 e k st.2.2.2 r_.B st.1 [(2,.B 2 0),(3,.B 4 0)])) (fun st=>z106_k1 x1 e f k st.1 st.2.1 st.2.2.1 st.2.2.2=some r) ?_ (fun j5=>?_)
   ·rintro ⟨vbk0_0_0_5,vbk0_0_1_5,vbk0_0_2_5,o⟩ h
    replace h:z106_k1 x1 e f k vbk0_0_0_5 vbk0_0_1_5 vbk0_0_2_5 o=some r:=h
    unfold z106_k1 at h
    refine wq (wg (ws J 2 Q (wn (WP.frz 7 rfl (WP.frz 11 rfl (WP.frz 14 rfl ?_))))))
    cases h
    exact we J Tryz.func106 [(2,.sl 7),(3,.sl 11),(4,.sl 14),(5,.sl 13)] Q Q Q Q
   refine wo ?_
   refine wI (σ:=(List Int) × Int × Bool × (List (Int × Int)) × Int) (fun st=>(zz89 st.2.1 st.2.2.1 x1.1 f.1 e k st.2.2.2.1 r_.B st.1 [(0,.B 0 0),(2,.B 2 0),(3,.B 4 0),(4,.I l.1),(9,.I st.2.2.2.2)])) (fun n st=>z106_l2 N x1 e f k l n st.1 st.2.1 st.2.2.1 st.2.2.2.1 st.2.2.2.2) (r:=r) (fun _=>rfl) ?_ (fun ih=>?_)
   ·intro n4 ih7
    rintro ⟨vbk0_0_0_7,vbk0_0_1_7,vbk0_0_2_7,p,q⟩ h
    replace h:z106_l2 N x1 e f k l (n4+1) vbk0_0_0_7 vbk0_0_1_7 vbk0_0_2_7 p q=some r:=h
    unfold z106_l2 at h
    refine wq (wq (wg (xw (rg 4 6) (zz89 vbk0_0_1_7 vbk0_0_2_7 x1.1 f.1 e k p r_.B vbk0_0_0_7 [(0,.B 0 0),(2,.B 2 0),(3,.B 4 0),(4,.I l.1),(9,.I q),(88,.O (decide (q < l.1)))]) J 4 ?_)))
    rcases oc' h with ⟨hc,h⟩ | ⟨hc,h⟩
    ·exact wy 88 hc Q (wx (zz89 vbk0_0_1_7 vbk0_0_2_7 x1.1 f.1 e k p r_.B vbk0_0_0_7 [(0,.B 0 0),(2,.B 2 0),(3,.B 4 0),(4,.I l.1),(9,.I q),(94,.O false)]) J 6 (wn (wf Q Q (wz rfl (wu [] (j5 (vbk0_0_0_7,vbk0_0_1_7,vbk0_0_2_7,p) h) Q Q Q Q)))))
    refine wy 88 hc Q (wx (zz89 vbk0_0_1_7 vbk0_0_2_7 x1.1 f.1 e k p r_.B vbk0_0_0_7 [(0,.B 0 0),(2,.B 2 0),(3,.B 4 0),(4,.I l.1),(9,.I q),(94,.O (!vbk0_0_2_7))]) J 6 (wn ?_))
    rcases oc' h with ⟨hc,h⟩ | ⟨hc,h⟩
    ·exact wf hc Q (wz rfl (wu [] (j5 (vbk0_0_0_7,vbk0_0_1_7,vbk0_0_2_7,p) h) Q Q Q Q))
    refine wt hc Q (wi (wq (wo (wq (wg (ws J 1 Q ?_))))))
    obtain ⟨t,u,h⟩:=ob h
    refine wc (z107_ct N (⟨vbk0_0_0_7,vbk0_0_1_7,vbk0_0_2_7⟩:T11) _ u) [(0,.bp 0 0),(1,.sl 13)] [] Q Q Q Q Q Q Q Q (.inl rfl) rfl (wx ⟨[(0,.B 0 0),(2,.B 2 0),(3,.B 4 0),(4,.I l.1),(9,.I q),(10,.B 16 0)],[(0,.box (cC11 15 t.2) 130),(2,.box [.s (str []),.nil,.I 0,.nil,.nil] 94),(4,.box [.s x1.1,.sl 7,.I f.1,.sl 11,.sl 14] 94),(7,.own rR3 e true),(11,.own rR1 k true),(14,.own (rP (rI .i64) (rI .i64)) p true),(16,.box [.I t.1,.I 0] 146)],[(1,.sl (rI .u8) r_.B),(15,.sl (rI .u8) t.2.B)],17⟩ J 3 (wn (wq (wg (ws J 1 Q ?_)))))
    obtain ⟨v,x,h⟩:=ob h
    refine wc (z107_ct N t.2 _ x) [(0,.bp 0 0),(1,.sl 15)] [] Q Q Q Q Q Q Q Q (.inl rfl) rfl (xw [2,3] ⟨[(0,.B 0 0),(2,.B 2 0),(3,.B 4 0),(4,.I l.1),(9,.I q),(10,.B 16 0),(101,.I v.1)],[(0,.box (cC11 17 v.2) 130),(2,.box [.s (str []),.nil,.I 0,.nil,.nil] 94),(4,.box [.s x1.1,.sl 7,.I f.1,.sl 11,.sl 14] 94),(7,.own rR3 e true),(11,.own rR1 k true),(14,.own (rP (rI .i64) (rI .i64)) p true),(16,.box [.I t.1,.I 0] 146)],[(1,.sl (rI .u8) r_.B),(17,.sl (rI .u8) v.2.B)],18⟩ J 0 (WPr.axb (len:=2) (el:=3) (es:=1) 1 Q Q Q Q Q (by kernel_rfl) (by kernel_rfl) Q Q Q Q (ws J 1 Q (wn (wg (xw [4,5,6,7,8] ⟨[(0,.B 0 0),(2,.B 2 0),(3,.B 4 0),(4,.I l.1),(9,.I q),(105,.S 14),(106,.a [.I t.1,.I v.1])],[(0,.box (cC11 17 v.2) 130),(2,.box [.s (str []),.nil,.I 0,.nil,.nil] 94),(4,.box [.s x1.1,.sl 7,.I f.1,.sl 11,.sl 14] 94),(7,.own rR3 e true),(11,.own rR1 k true),(14,.own (rP (rI .i64) (rI .i64)) p true)],[(1,.sl (rI .u8) r_.B),(17,.sl (rI .u8) v.2.B)],18⟩ J 4 (WPr.bs (cs:=[.I t.1,.I v.1]) (oP (oI .i64) (oI .i64)) J ([(t.1,v.1)]:List (Int × Int)) Q Q Q Q Q Q (by kernel_rfl) (by exact (an (an Q Q) rfl)) rfl ?_)))))))
    obtain ⟨y,z,h⟩:=ob h
    exact WPr.app J z (by exact (srcO rfl)) Q Q Q Q Q Q Q Q Q Q (wx (zz182 v.2 x1.1 f.1 e k y r_.B v.2.B [(0,.B 0 0),(2,.B 2 0),(3,.B 4 0),(4,.I l.1),(9,.I q)]) J 3 (wn (wb (wg (wx (zz182 v.2 x1.1 f.1 e k y r_.B v.2.B [(0,.B 0 0),(2,.B 2 0),(3,.B 4 0),(4,.I l.1),(9,.I (w64 (q+1)))]) J 3 (wn (wu [(13,.sl 17),(14,.sl 19)] (ih7 (v.2.B,v.2.At,v.2.Failed,y,(w64 (q+1))) h) Q Q Q Q)))))))
   exact wu [(13,.sl 12),(14,.nil)] (ih N (l.2.B,l.2.At,l.2.Failed,([]:List (Int × Int)),0) h) Q Q Q Q
  refine wo ?_
  refine wI (σ:=(List Int) × Int × Bool × (List T1) × Int) (fun st=>(zz88 st.2.1 st.2.2.1 x1.1 f.1 e st.2.2.2.1 r_.B st.1 [(0,.B 0 0),(2,.B 2 0),(3,.B 4 0),(4,.I i.1),(7,.I st.2.2.2.2)])) (fun n st=>z106_l4 N x1 e f i n st.1 st.2.1 st.2.2.1 st.2.2.2.1 st.2.2.2.2) (r:=r) (fun _=>rfl) ?_ (fun ih=>?_)
  ·intro n5 ih8
   rintro ⟨vbk0_0_0_8,vbk0_0_1_8,vbk0_0_2_8,A,C⟩ h
   replace h:z106_l4 N x1 e f i (n5+1) vbk0_0_0_8 vbk0_0_1_8 vbk0_0_2_8 A C=some r:=h
   unfold z106_l4 at h
   refine wq (wq (wg (xw (rg 4 6) (zz88 vbk0_0_1_8 vbk0_0_2_8 x1.1 f.1 e A r_.B vbk0_0_0_8 [(0,.B 0 0),(2,.B 2 0),(3,.B 4 0),(4,.I i.1),(7,.I C),(57,.O (decide (C < i.1)))]) J 4 ?_)))
   rcases oc' h with ⟨hc,h⟩ | ⟨hc,h⟩
   ·exact wy 57 hc Q (wx (zz88 vbk0_0_1_8 vbk0_0_2_8 x1.1 f.1 e A r_.B vbk0_0_0_8 [(0,.B 0 0),(2,.B 2 0),(3,.B 4 0),(4,.I i.1),(7,.I C),(63,.O false)]) J 6 (wn (wf Q Q (wz rfl (wu [] (j3 (vbk0_0_0_8,vbk0_0_1_8,vbk0_0_2_8,A) h) Q Q Q Q)))))
   refine wy 57 hc Q (wx (zz88 vbk0_0_1_8 vbk0_0_2_8 x1.1 f.1 e A r_.B vbk0_0_0_8 [(0,.B 0 0),(2,.B 2 0),(3,.B 4 0),(4,.I i.1),(7,.I C),(63,.O (!vbk0_0_2_8))]) J 6 (wn ?_))
   rcases oc' h with ⟨hc,h⟩ | ⟨hc,h⟩
   ·exact wf hc Q (wz rfl (wu [] (j3 (vbk0_0_0_8,vbk0_0_1_8,vbk0_0_2_8,A) h) Q Q Q Q))
   refine wt hc Q (wi (wq (wo (wq (wg (ws J 1 Q ?_))))))
   obtain ⟨D,G,h⟩:=ob h
   refine wc (z107_ct N (⟨vbk0_0_0_8,vbk0_0_1_8,vbk0_0_2_8⟩:T11) _ G) [(0,.bp 0 0),(1,.sl 10)] [] Q Q Q Q Q Q Q Q (.inl rfl) rfl (wx ⟨[(0,.B 0 0),(2,.B 2 0),(3,.B 4 0),(4,.I i.1),(7,.I C),(8,.B 13 0)],[(0,.box (cC11 12 D.2) 130),(2,.box [.s (str []),.nil,.I 0,.nil,.nil] 94),(4,.box [.s x1.1,.sl 7,.I f.1,.sl 11,.nil] 94),(7,.own rR3 e true),(11,.own rR1 A true),(13,.box [.I D.1,.I 0,.I 0] 144)],[(1,.sl (rI .u8) r_.B),(12,.sl (rI .u8) D.2.B)],14⟩ J 3 (wn (wq (wg (ws J 1 Q ?_)))))
   obtain ⟨H,K,h⟩:=ob h
   refine wc (z107_ct N D.2 _ K) [(0,.bp 0 0),(1,.sl 12)] [] Q Q Q Q Q Q Q Q (.inl rfl) rfl (wx ⟨[(0,.B 0 0),(2,.B 2 0),(3,.B 4 0),(4,.I i.1),(7,.I C),(8,.B 13 0)],[(0,.box (cC11 14 H.2) 130),(2,.box [.s (str []),.nil,.I 0,.nil,.nil] 94),(4,.box [.s x1.1,.sl 7,.I f.1,.sl 11,.nil] 94),(7,.own rR3 e true),(11,.own rR1 A true),(13,.box [.I D.1,.I H.1,.I 0] 144)],[(1,.sl (rI .u8) r_.B),(14,.sl (rI .u8) H.2.B)],15⟩ J 2 (wn (wq (wg (ws J 1 Q ?_)))))
   obtain ⟨R,T,h⟩:=ob h
   refine wc (z107_ct N H.2 _ T) [(0,.bp 0 0),(1,.sl 14)] [] Q Q Q Q Q Q Q Q (.inl rfl) rfl (wx ⟨[(0,.B 0 0),(2,.B 2 0),(3,.B 4 0),(4,.I i.1),(7,.I C),(8,.B 13 0)],[(0,.box (cC11 15 R.2) 130),(2,.box [.s (str []),.nil,.I 0,.nil,.nil] 94),(4,.box [.s x1.1,.sl 7,.I f.1,.sl 11,.nil] 94),(7,.own rR3 e true),(11,.own rR1 A true),(13,.box [.I D.1,.I H.1,.I R.1] 144)],[(1,.sl (rI .u8) r_.B),(15,.sl (rI .u8) R.2.B)],16⟩ J 2 (wn (wg (xw [4,5,6,7,8] ⟨[(0,.B 0 0),(2,.B 2 0),(3,.B 4 0),(4,.I i.1),(7,.I C),(77,.S 11),(78,.a [.I D.1,.I H.1,.I R.1])],[(0,.box (cC11 15 R.2) 130),(2,.box [.s (str []),.nil,.I 0,.nil,.nil] 94),(4,.box [.s x1.1,.sl 7,.I f.1,.sl 11,.nil] 94),(7,.own rR3 e true),(11,.own rR1 A true)],[(1,.sl (rI .u8) r_.B),(15,.sl (rI .u8) R.2.B)],16⟩ J 4 (WPr.bs (cs:=[.I D.1,.I H.1,.I R.1]) oO1 J ([(⟨D.1,H.1,R.1⟩:T1)]:List T1) Q Q Q Q Q Q (by kernel_rfl) (by exact (an (an rfl (an Q Q)) rfl)) rfl ?_)))))
   obtain ⟨U,X,h⟩:=ob h
   exact WPr.app J X (by exact (srcO rfl)) Q Q Q Q Q Q Q Q Q Q (wx (zz183 R.2 x1.1 f.1 e U r_.B R.2.B [(0,.B 0 0),(2,.B 2 0),(3,.B 4 0),(4,.I i.1),(7,.I C)]) J 3 (wn (wb (wg (wx (zz183 R.2 x1.1 f.1 e U r_.B R.2.B [(0,.B 0 0),(2,.B 2 0),(3,.B 4 0),(4,.I i.1),(7,.I (w64 (C+1)))]) J 3 (wn (wu [(10,.sl 15),(11,.sl 17)] (ih8 (R.2.B,R.2.At,R.2.Failed,U,(w64 (C+1))) h) Q Q Q Q)))))))
  exact wu [(10,.sl 9),(11,.nil)] (ih N (i.2.B,i.2.At,i.2.Failed,([]:List T1),0) h) Q Q Q Q
 refine wo ?_
 refine wI (σ:=(List Int) × Int × Bool × (List T3) × Int) (fun st=>(zz87 st.2.1 st.2.2.1 x1.1 st.2.2.2.1 r_.B st.1 [(0,.B 0 0),(2,.B 2 0),(3,.B 4 0),(4,.I x2.1),(5,.I st.2.2.2.2)])) (fun n st=>z106_l6 N x1 x2 n st.1 st.2.1 st.2.2.1 st.2.2.2.1 st.2.2.2.2) (r:=r) (fun _=>rfl) ?_ (fun ih=>?_)
 ·intro n6 ih9
  rintro ⟨vbk0_0_0_9,vbk0_0_1_9,vbk0_0_2_9,Y,Z⟩ h
  replace h:z106_l6 N x1 x2 (n6+1) vbk0_0_0_9 vbk0_0_1_9 vbk0_0_2_9 Y Z=some r:=h
  unfold z106_l6 at h
  refine wq (wq (wg (xw (rg 4 6) (zz87 vbk0_0_1_9 vbk0_0_2_9 x1.1 Y r_.B vbk0_0_0_9 [(0,.B 0 0),(2,.B 2 0),(3,.B 4 0),(4,.I x2.1),(5,.I Z),(19,.O (decide (Z < x2.1)))]) J 4 ?_)))
  rcases oc' h with ⟨hc,h⟩ | ⟨hc,h⟩
  ·exact wy 19 hc Q (wx (zz87 vbk0_0_1_9 vbk0_0_2_9 x1.1 Y r_.B vbk0_0_0_9 [(0,.B 0 0),(2,.B 2 0),(3,.B 4 0),(4,.I x2.1),(5,.I Z),(25,.O false)]) J 6 (wn (wf Q Q (wz rfl (wu [] (j1 (vbk0_0_0_9,vbk0_0_1_9,vbk0_0_2_9,Y) h) Q Q Q Q)))))
  refine wy 19 hc Q (wx (zz87 vbk0_0_1_9 vbk0_0_2_9 x1.1 Y r_.B vbk0_0_0_9 [(0,.B 0 0),(2,.B 2 0),(3,.B 4 0),(4,.I x2.1),(5,.I Z),(25,.O (!vbk0_0_2_9))]) J 6 (wn ?_))
  rcases oc' h with ⟨hc,h⟩ | ⟨hc,h⟩
  ·exact wf hc Q (wz rfl (wu [] (j1 (vbk0_0_0_9,vbk0_0_1_9,vbk0_0_2_9,Y) h) Q Q Q Q))
  refine wt hc Q (wi (wq (wo (wq (wg (ws J 1 Q ?_))))))
  obtain ⟨a0,b0,h⟩:=ob h
  refine wc (z104_ct N (⟨vbk0_0_0_9,vbk0_0_1_9,vbk0_0_2_9⟩:T11) 16 _ b0) [(0,.bp 0 0),(1,.sl 6)] [] Q Q Q Q Q Q Q Q (.inl rfl) rfl (wx ⟨[(0,.B 0 0),(2,.B 2 0),(3,.B 4 0),(4,.I x2.1),(5,.I Z),(6,.B 9 0)],[(0,.box (cC11 8 a0.2) 130),(2,.box [.s (str []),.nil,.I 0,.nil,.nil] 94),(4,.box [.s x1.1,.sl 7,.I 0,.nil,.nil] 94),(7,.own rR3 Y true),(9,.box [.s a0.1,.I 0,.I 0,.I 0] 141)],[(1,.sl (rI .u8) r_.B),(8,.sl (rI .u8) a0.2.B)],10⟩ J 3 (wn (wq (wg (ws J 1 Q ?_)))))
  obtain ⟨c0,d0,h⟩:=ob h
  refine wc (z107_ct N a0.2 _ d0) [(0,.bp 0 0),(1,.sl 8)] [] Q Q Q Q Q Q Q Q (.inl rfl) rfl (wx ⟨[(0,.B 0 0),(2,.B 2 0),(3,.B 4 0),(4,.I x2.1),(5,.I Z),(6,.B 9 0)],[(0,.box (cC11 10 c0.2) 130),(2,.box [.s (str []),.nil,.I 0,.nil,.nil] 94),(4,.box [.s x1.1,.sl 7,.I 0,.nil,.nil] 94),(7,.own rR3 Y true),(9,.box [.s a0.1,.I c0.1,.I 0,.I 0] 141)],[(1,.sl (rI .u8) r_.B),(10,.sl (rI .u8) c0.2.B)],11⟩ J 3 (wn (wq (wg (ws J 1 Q ?_)))))
  obtain ⟨e0,f0,h⟩:=ob h
  refine wc (z107_ct N c0.2 _ f0) [(0,.bp 0 0),(1,.sl 10)] [] Q Q Q Q Q Q Q Q (.inl rfl) rfl (wx ⟨[(0,.B 0 0),(2,.B 2 0),(3,.B 4 0),(4,.I x2.1),(5,.I Z),(6,.B 9 0)],[(0,.box (cC11 11 e0.2) 130),(2,.box [.s (str []),.nil,.I 0,.nil,.nil] 94),(4,.box [.s x1.1,.sl 7,.I 0,.nil,.nil] 94),(7,.own rR3 Y true),(9,.box [.s a0.1,.I c0.1,.I e0.1,.I 0] 141)],[(1,.sl (rI .u8) r_.B),(11,.sl (rI .u8) e0.2.B)],12⟩ J 3 (wn (wq (wg (ws J 1 Q ?_)))))
  obtain ⟨g0,i0,h⟩:=ob h
  refine wc (z107_ct N e0.2 _ i0) [(0,.bp 0 0),(1,.sl 11)] [] Q Q Q Q Q Q Q Q (.inl rfl) rfl (wx ⟨[(0,.B 0 0),(2,.B 2 0),(3,.B 4 0),(4,.I x2.1),(5,.I Z),(6,.B 9 0)],[(0,.box (cC11 12 g0.2) 130),(2,.box [.s (str []),.nil,.I 0,.nil,.nil] 94),(4,.box [.s x1.1,.sl 7,.I 0,.nil,.nil] 94),(7,.own rR3 Y true),(9,.box [.s a0.1,.I c0.1,.I e0.1,.I g0.1] 141)],[(1,.sl (rI .u8) r_.B),(12,.sl (rI .u8) g0.2.B)],13⟩ J 3 (wn (wg (xw [3,4,5,6] ⟨[(0,.B 0 0),(2,.B 2 0),(3,.B 4 0),(4,.I x2.1),(5,.I Z),(44,.S 7),(45,.a [.s a0.1,.I c0.1,.I e0.1,.I g0.1])],[(0,.box (cC11 12 g0.2) 130),(2,.box [.s (str []),.nil,.I 0,.nil,.nil] 94),(4,.box [.s x1.1,.sl 7,.I 0,.nil,.nil] 94),(7,.own rR3 Y true)],[(1,.sl (rI .u8) r_.B),(12,.sl (rI .u8) g0.2.B)],13⟩ J 3 (WPr.bs (cs:=[.s a0.1,.I c0.1,.I e0.1,.I g0.1]) oO3 J ([(⟨a0.1,(⟨c0.1,e0.1,g0.1⟩:T7)⟩:T3)]:List T3) Q Q Q Q Q Q (by kernel_rfl) (by exact (an (an rfl (an rfl (an Q Q))) rfl)) rfl ?_)))))
  obtain ⟨j0,k0,h⟩:=ob h
  exact WPr.app J k0 (by exact (srcO rfl)) Q Q Q Q Q Q Q Q Q Q (wx (zz184 g0.2 x1.1 j0 r_.B g0.2.B [(0,.B 0 0),(2,.B 2 0),(3,.B 4 0),(4,.I x2.1),(5,.I Z)]) J 2 (wn (wb (wg (wx (zz184 g0.2 x1.1 j0 r_.B g0.2.B [(0,.B 0 0),(2,.B 2 0),(3,.B 4 0),(4,.I x2.1),(5,.I (w64 (Z+1)))]) J 3 (wn (wu [(6,.sl 12),(7,.sl 14)] (ih9 (g0.2.B,g0.2.At,g0.2.Failed,j0,(w64 (Z+1))) h) Q Q Q Q)))))))
 exact wu [(6,.sl 5),(7,.nil)] (ih N (x2.2.B,x2.2.At,x2.2.Failed,([]:List T3),0) h) Q Q Q Q
theorem z108_ct (N:Nat) (r_:T11) (r:Bool × T11) (h:z108 N r_=some r) :
 Fn Tryz.prog 108 ⟨2,[.B 0 0],[(1,.sl (rI .u8) r_.B)],[(0,.box (cC11 1 r_) 130)],3,.O r.1,[(2,.sl (rI .u8) r.2.B)],[(0,.box (cC11 2 r.2) 130)]⟩:=by
 refine Fn.intro _ _ Tryz.func108 rfl (by kernel_rfl) rfl (fun E F w=>?_)
 unfold z108 at h
 refine wq (wg (ws J 1 Q (wn (wq (wq (wQ (by kernel_rfl) (by kernel_rfl) (xq (rg 5 24) (zz15 r_ r_.B [(0,.B 0 0),(2,.O false),(7,.O r_.Failed)]) J 5 ?_)))))))
 rcases oc h with ⟨hc,h⟩ | ⟨hc,h⟩
 ·refine qy 7 hc Q (qx (zz15 r_ r_.B [(0,.B 0 0),(2,.O false),(31,.O true)]) J 24 (qn (wt Q Q (wq (wg (wx (zz114 r_.At r_.B [(2,.O false)]) J 4 (wn (wq (wg (ws J 1 Q (wn ?_)))))))))))
  cases h
  exact we J Tryz.func108 [(2,.sl 1)] Q Q Q Q
 refine qy 7 hc Q (xq (rg 17 12) (zz15 r_ r_.B [(0,.B 0 0),(2,.O false),(19,.O (decide (r_.At≥(r_.B.length:Int))))]) J 12 ?_)
 rcases oc h with ⟨hc,h⟩ | ⟨hc,h⟩
 ·refine qy 19 hc Q (qx (zz15 r_ r_.B [(0,.B 0 0),(2,.O false),(31,.O true)]) J 12 (qn (wt Q Q (wq (wg (wx (zz114 r_.At r_.B [(2,.O false)]) J 4 (wn (wq (wg (ws J 1 Q (wn ?_)))))))))))
  cases h
  exact we J Tryz.func108 [(2,.sl 1)] Q Q Q Q
 refine qy 19 hc Q (xq [25,26,27,28] (zz15 r_ r_.B [(0,.B 0 0),(2,.O false),(19,.O false),(23,.S 1),(27,.I r_.At)]) J 8 ?_)
 obtain ⟨x2,c,h⟩:=ob h
 refine WPq.op Q Q (VN.vs (VN.ix (oI .u8) J c Q Q Q Q Q Q Q)) (qx (zz33 r_ r_.B [(0,.B 0 0),(2,.O false),(31,.O (decide (x2 > 1)))]) J 3 (qn ?_))
 rcases oc h with ⟨hc,h⟩ | ⟨hc,h⟩
 ·refine wt hc Q (wq (wg (wx ⟨[(2,.O false)],[(0,.box [.sl 1,.I r_.At,.b true] 130)],[(1,.sl (rI .u8) r_.B)],3⟩ J 4 (wn (wq (wg (ws J 1 Q (wn ?_))))))))
  cases h
  exact we J Tryz.func108 [(2,.sl 1)] Q Q Q Q
 refine wf hc Q (wi (wq (wg (wx ⟨[(0,.B 0 0),(2,.O false)],[(0,.box [.sl 1,.I (w64 (r_.At+1)),.b r_.Failed] 130)],[(1,.sl (rI .u8) r_.B)],3⟩ J 8 (wn (wq (wQ (by kernel_rfl) (by kernel_rfl) (xq [9,10,11,12] ⟨[(45,.S 1),(50,.I (w64 ((w64 (r_.At+1))-1)))],[(0,.box [.sl 1,.I (w64 (r_.At+1)),.b r_.Failed] 130)],[(1,.sl (rI .u8) r_.B)],3⟩ J 9 ?_))))))))
 obtain ⟨x4,d,h⟩:=ob h
 refine WPq.op Q Q (VN.vs (VN.ix (oI .u8) J d Q Q Q Q Q Q Q)) (qx (zz22 (w64 (r_.At+1)) r_.Failed r_.B [(2,.O (x4==1))]) J 3 (qn ?_))
 cases h
 exact we J Tryz.func108 [(2,.sl 1)] Q Q Q Q
theorem z109_ct (N:Nat) (r_:T11) (r:Int) (h:z109 N r_=some r) :
 Fn Tryz.prog 109 ⟨2,[.B 0 0],[(1,.sl (rI .u8) r_.B)],[(0,.box (cC11 1 r_) 130)],2,.I r,[],[(0,.box (cC11 1 r_) 130)]⟩:=by
 refine Fn.intro _ _ Tryz.func109 rfl (by kernel_rfl) rfl (fun E F w=>?_)
 unfold z109 at h
 refine wq (wg (ws J 1 Q (wn (wq (wq (wQ (by kernel_rfl) (by kernel_rfl) (xq (rg 5 11) (zz15 r_ r_.B [(0,.B 0 0),(2,.I 0),(7,.O r_.Failed)]) J 5 ?_)))))))
 rcases oc h with ⟨hc,h⟩ | ⟨hc,h⟩
 ·refine qy 7 hc Q (qx (zz15 r_ r_.B [(2,.I 0),(18,.O true)]) J 11 (qn (wt Q Q (wq (wg (ws J 1 Q (wn ?_)))))))
  cases h
  exact we J Tryz.func109 [] Q Q Q Q
 refine qy 7 hc Q (qx (zz15 r_ r_.B [(2,.I 0),(18,.O (r_.At != (r_.B.length:Int)))]) J 11 (qn ?_))
 rcases oc h with ⟨hc,h⟩ | ⟨hc,h⟩
 ·refine wt hc Q (wq (wg (ws J 1 Q (wn ?_))))
  cases h
  exact we J Tryz.func109 [] Q Q Q Q
 refine wf hc Q (wi (wq (wg (ws J 1 Q (wn ?_)))))
 cases h
 exact we J Tryz.func109 [] Q Q Q Q
theorem z42_ct (N:Nat) (b_:(List Int)) (r:T4 × Int) (h:z42 N b_=some r) :
 Fn Tryz.prog 42 ⟨1,[.S 0],[(0,.sl (rI .u8) b_)],[],5,.t [.inr (cC4 1 2 3 4 r.1),.inl (.I r.2)],(vV4 1 2 3 4 r.1 []),[]⟩:=by
 refine Fn.intro _ _ Tryz.func42 rfl (by kernel_rfl) rfl (fun E F w=>?_)
 unfold z42 at h
 refine wq (wg (ws J 2 Q (wn (wq (wg (wx ⟨[(2,.B 1 0),(3,.I 0),(4,.B 2 0)],[(1,.box [.s (str []),.nil,.nil,.I 0,.I 0,.I 0,.nil,.nil] 27),(2,.box [.sl 0,.I 0,.b false] 130)],[(0,.sl (rI .u8) b_)],3⟩ J 4 (wn (wq (wg (ws J 1 Q ?_))))))))))
 obtain ⟨x1,d,h⟩:=ob h
 refine wc (z104_ct N (⟨b_,0,false⟩:T11) 16 _ d) [(0,.bp 2 0),(1,.sl 0)] [] Q Q Q Q Q Q Q Q (.inl rfl) rfl (wx ⟨[(2,.B 1 0),(3,.I 0),(4,.B 2 0),(5,.B 4 0)],[(1,.box [.s (str []),.nil,.nil,.I 0,.I 0,.I 0,.nil,.nil] 27),(2,.box (cC11 3 x1.2) 130),(4,.box [.s x1.1,.nil,.nil,.I 0,.I 0,.I 0,.nil,.nil] 27)],[(0,.sl (rI .u8) b_),(3,.sl (rI .u8) x1.2.B)],5⟩ J 3 (wn (wq (wg (ws J 1 Q ?_)))))
 obtain ⟨x2,e,h⟩:=ob h
 refine wc (z105_ct N x1.2 0 6 _ e) [(0,.bp 2 0),(1,.sl 3)] [] Q Q Q Q Q Q Q Q (.inl rfl) rfl (wx ⟨[(2,.B 1 0),(3,.I 0),(4,.B 2 0),(5,.B 4 0),(6,.I x2.1)],[(1,.box [.s (str []),.nil,.nil,.I 0,.I 0,.I 0,.nil,.nil] 27),(2,.box (cC11 5 x2.2) 130),(4,.box [.s x1.1,.nil,.nil,.I 0,.I 0,.I 0,.nil,.nil] 27)],[(0,.sl (rI .u8) b_),(5,.sl (rI .u8) x2.2.B)],6⟩ J 1 (wn (wq (wq (wg (ws J 1 Q (wn ?_)))))))
 refine wC (σ:=(List Int) × Int × Bool × (List ByteArray)) (fun st=>(zz90 st.2.1 st.2.2.1 x1.1 st.2.2.2 b_ st.1 [(2,.B 1 0),(4,.B 2 0),(5,.B 4 0)])) (fun st=>z42_k7 N x1 st.1 st.2.1 st.2.2.1 st.2.2.2=some r) ?_ (fun j1=>?_)
 ·rintro ⟨f,g,i,j⟩ h
  replace h:z42_k7 N x1 f g i j=some r:=h
  unfold z42_k7 at h
  refine wq (wg (ws J 1 Q ?_))
  obtain ⟨l,m,h⟩:=ob h
  refine wc (z105_ct N (⟨f,g,i⟩:T11) 0 40 _ m) [(0,.bp 2 0),(1,.sl 6)] [] Q Q Q Q Q Q Q Q (.inl rfl) rfl (wx ⟨[(2,.B 1 0),(4,.B 2 0),(5,.B 4 0),(6,.I l.1)],[(1,.box [.s (str []),.nil,.nil,.I 0,.I 0,.I 0,.nil,.nil] 27),(2,.box (cC11 8 l.2) 130),(4,.box [.s x1.1,.sl 7,.nil,.I 0,.I 0,.I 0,.nil,.nil] 27),(7,.own rS j true)],[(0,.sl (rI .u8) b_),(8,.sl (rI .u8) l.2.B)],9⟩ J 1 (wn (wq (wq (wg (ws J 1 Q (wn ?_)))))))
  refine wC (σ:=(List Int) × Int × Bool × (List T0)) (fun st=>(zz91 st.2.1 st.2.2.1 x1.1 j st.2.2.2 b_ st.1 [(2,.B 1 0),(4,.B 2 0),(5,.B 4 0)])) (fun st=>z42_k5 N x1 j st.1 st.2.1 st.2.2.1 st.2.2.2=some r) ?_ (fun j3=>?_)
  ·rintro ⟨o,p,q,u⟩ h
   replace h:z42_k5 N x1 j o p q u=some r:=h
   unfold z42_k5 at h
   refine wq (wg (ws J 1 Q ?_))
   obtain ⟨v,x,h⟩:=ob h
   refine wc (z107_ct N (⟨o,p,q⟩:T11) _ x) [(0,.bp 2 0),(1,.sl 9)] [] Q Q Q Q Q Q Q Q (.inl rfl) rfl (wx ⟨[(2,.B 1 0),(4,.B 2 0),(5,.B 4 0)],[(1,.box [.s (str []),.nil,.nil,.I 0,.I 0,.I 0,.nil,.nil] 27),(2,.box (cC11 11 v.2) 130),(4,.box [.s x1.1,.sl 7,.sl 10,.I v.1,.I 0,.I 0,.nil,.nil] 27),(7,.own rS j true),(10,.own rR0 u true)],[(0,.sl (rI .u8) b_),(11,.sl (rI .u8) v.2.B)],12⟩ J 2 (wn (wq (wg (ws J 1 Q ?_)))))
   obtain ⟨y,z,h⟩:=ob h
   refine wc (z107_ct N v.2 _ z) [(0,.bp 2 0),(1,.sl 11)] [] Q Q Q Q Q Q Q Q (.inl rfl) rfl (wx ⟨[(2,.B 1 0),(4,.B 2 0),(5,.B 4 0)],[(1,.box [.s (str []),.nil,.nil,.I 0,.I 0,.I 0,.nil,.nil] 27),(2,.box (cC11 12 y.2) 130),(4,.box [.s x1.1,.sl 7,.sl 10,.I v.1,.I y.1,.I 0,.nil,.nil] 27),(7,.own rS j true),(10,.own rR0 u true)],[(0,.sl (rI .u8) b_),(12,.sl (rI .u8) y.2.B)],13⟩ J 2 (wn (wq (wg (ws J 1 Q ?_)))))
   obtain ⟨A,C,h⟩:=ob h
   refine wc (z107_ct N y.2 _ C) [(0,.bp 2 0),(1,.sl 12)] [] Q Q Q Q Q Q Q Q (.inl rfl) rfl (wx ⟨[(2,.B 1 0),(4,.B 2 0),(5,.B 4 0)],[(1,.box [.s (str []),.nil,.nil,.I 0,.I 0,.I 0,.nil,.nil] 27),(2,.box (cC11 13 A.2) 130),(4,.box [.s x1.1,.sl 7,.sl 10,.I v.1,.I y.1,.I A.1,.nil,.nil] 27),(7,.own rS j true),(10,.own rR0 u true)],[(0,.sl (rI .u8) b_),(13,.sl (rI .u8) A.2.B)],14⟩ J 2 (wn (wq (wg (ws J 1 Q ?_)))))
   obtain ⟨D,G,h⟩:=ob h
   refine wc (z105_ct N A.2 0 400 _ G) [(0,.bp 2 0),(1,.sl 13)] [] Q Q Q Q Q Q Q Q (.inl rfl) rfl (wx ⟨[(2,.B 1 0),(4,.B 2 0),(5,.B 4 0),(6,.I D.1)],[(1,.box [.s (str []),.nil,.nil,.I 0,.I 0,.I 0,.nil,.nil] 27),(2,.box (cC11 14 D.2) 130),(4,.box [.s x1.1,.sl 7,.sl 10,.I v.1,.I y.1,.I A.1,.nil,.nil] 27),(7,.own rS j true),(10,.own rR0 u true)],[(0,.sl (rI .u8) b_),(14,.sl (rI .u8) D.2.B)],15⟩ J 1 (wn (wq (wq (wg (ws J 1 Q (wn ?_)))))))
   refine wC (σ:=(List Int) × Int × Bool × (List T2)) (fun st=>(zz92 st.2.1 st.2.2.1 x1.1 v.1 y.1 A.1 j u st.2.2.2 b_ st.1 [(2,.B 1 0),(4,.B 2 0),(5,.B 4 0)])) (fun st=>z42_k3 N x1 j u v y A st.1 st.2.1 st.2.2.1 st.2.2.2=some r) ?_ (fun j5=>?_)
   ·rintro ⟨H,K,R,T⟩ h
    replace h:z42_k3 N x1 j u v y A H K R T=some r:=h
    unfold z42_k3 at h
    refine wq (wg (ws J 1 Q ?_))
    obtain ⟨U,X,h⟩:=ob h
    refine wc (z105_ct N (⟨H,K,R⟩:T11) 0 200 _ X) [(0,.bp 2 0),(1,.sl 15)] [] Q Q Q Q Q Q Q Q (.inl rfl) rfl (wx ⟨[(2,.B 1 0),(4,.B 2 0),(5,.B 4 0),(6,.I U.1)],[(1,.box [.s (str []),.nil,.nil,.I 0,.I 0,.I 0,.nil,.nil] 27),(2,.box (cC11 17 U.2) 130),(4,.box [.s x1.1,.sl 7,.sl 10,.I v.1,.I y.1,.I A.1,.sl 16,.nil] 27),(7,.own rS j true),(10,.own rR0 u true),(16,.own rR2 T true)],[(0,.sl (rI .u8) b_),(17,.sl (rI .u8) U.2.B)],18⟩ J 1 (wn (wq (wq (wg (ws J 1 Q (wn ?_)))))))
    refine wC (σ:=(List Int) × Int × Bool × (List T8)) (fun st=>(zz93 st.2.1 st.2.2.1 x1.1 v.1 y.1 A.1 j u T st.2.2.2 b_ st.1 [(2,.B 1 0),(4,.B 2 0),(5,.B 4 0)])) (fun st=>z42_k1 N x1 j u v y A T st.1 st.2.1 st.2.2.1 st.2.2.2=some r) ?_ (fun j7=>?_)
    ·rintro ⟨Y,Z,a0,b0⟩ h
     replace h:z42_k1 N x1 j u v y A T Y Z a0 b0=some r:=h
     unfold z42_k1 at h
     refine wq (wq (wg (ws J 1 Q ?_)))
     obtain ⟨c0,d0,h⟩:=ob h
     refine wc (z109_ct N (⟨Y,Z,a0⟩:T11) _ d0) [(0,.bp 2 0),(1,.sl 18)] [] Q Q Q Q Q Q Q Q (.inl rfl) rfl (xw [4,5,6,7] (zz151 x1.1 v.1 y.1 A.1 j u T b0 b_ [(2,.B 1 0),(5,.B 4 0),(143,.O (c0 != 0))]) J 2 ?_)
     rcases oc h with ⟨hc,h⟩ | ⟨hc,h⟩
     ·refine wy 143 hc Q (wx (zz151 x1.1 v.1 y.1 A.1 j u T b0 b_ [(2,.B 1 0),(5,.B 4 0),(147,.O true)]) J 4 (wn (wt Q Q (wq (wg (wx (zz185 b_ [(2,.B 1 0),(3,.I 4)]) J 3 (wn ?_)))))))
      cases h
      exact we J Tryz.func42 [(1,.nil),(2,.nil),(3,.nil),(4,.nil)] Q Q Q Q
     refine wy 143 hc Q (ws J 1 Q ?_)
     obtain ⟨e0,f0,h⟩:=ob h
     refine wc (z19_ct N (⟨x1.1,j,u,v.1,y.1,A.1,T,b0⟩:T4) _ f0) [(0,.sl 7),(1,.sl 10),(2,.sl 16),(3,.sl 19)] [7,10,16,19] Q Q Q Q Q Q Q Q (.inr ⟨rfl,trivial⟩) rfl (wx (zz151 x1.1 v.1 y.1 A.1 j u T b0 b_ [(2,.B 1 0),(5,.B 4 0),(147,.O (!e0))]) J 2 (wn ?_))
     rcases oc h with ⟨hc,h⟩ | ⟨hc,h⟩
     ·refine wt hc Q (wq (wg (wx (zz185 b_ [(2,.B 1 0),(3,.I 4)]) J 3 (wn ?_))))
      cases h
      exact we J Tryz.func42 [(1,.nil),(2,.nil),(3,.nil),(4,.nil)] Q Q Q Q
     refine wf hc Q (wi (wq (wg (wx ⟨[(2,.B 1 0),(3,.I 0)],[(1,.box [.s x1.1,.sl 7,.sl 10,.I v.1,.I y.1,.I A.1,.sl 16,.sl 19] 27),(7,.own rS j true),(10,.own rR0 u true),(16,.own rR2 T true),(19,.own rR8 b0 true)],[(0,.sl (rI .u8) b_)],20⟩ J 3 (wn (WP.frz 7 rfl (WP.frz 10 rfl (WP.frz 16 rfl (WP.frz 19 rfl ?_)))))))))
     cases h
     exact we J Tryz.func42 [(1,.sl 7),(2,.sl 10),(3,.sl 16),(4,.sl 19)] Q Q Q Q
    refine wo ?_
    refine wI (σ:=(List Int) × Int × Bool × (List T8) × Int) (fun st=>(zz93 st.2.1 st.2.2.1 x1.1 v.1 y.1 A.1 j u T st.2.2.2.1 b_ st.1 [(2,.B 1 0),(4,.B 2 0),(5,.B 4 0),(6,.I U.1),(11,.I st.2.2.2.2)])) (fun n st=>z42_l2 N x1 j u v y A T U n st.1 st.2.1 st.2.2.1 st.2.2.2.1 st.2.2.2.2) (r:=r) (fun _=>rfl) ?_ (fun ih=>?_)
    ·intro n5 ih9
     rintro ⟨g0,i0,j0,k0,l0⟩ h
     replace h:z42_l2 N x1 j u v y A T U (n5+1) g0 i0 j0 k0 l0=some r:=h
     unfold z42_l2 at h
     refine wq (wq (wg (xw (rg 4 6) (zz93 i0 j0 x1.1 v.1 y.1 A.1 j u T k0 b_ g0 [(2,.B 1 0),(4,.B 2 0),(5,.B 4 0),(6,.I U.1),(11,.I l0),(116,.O (decide (l0 < U.1)))]) J 4 ?_)))
     rcases oc' h with ⟨hc,h⟩ | ⟨hc,h⟩
     ·exact wy 116 hc Q (wx (zz93 i0 j0 x1.1 v.1 y.1 A.1 j u T k0 b_ g0 [(2,.B 1 0),(4,.B 2 0),(5,.B 4 0),(6,.I U.1),(11,.I l0),(122,.O false)]) J 6 (wn (wf Q Q (wz rfl (wu [] (j7 (g0,i0,j0,k0) h) Q Q Q Q)))))
     refine wy 116 hc Q (wx (zz93 i0 j0 x1.1 v.1 y.1 A.1 j u T k0 b_ g0 [(2,.B 1 0),(4,.B 2 0),(5,.B 4 0),(6,.I U.1),(11,.I l0),(122,.O (!j0))]) J 6 (wn ?_))
     rcases oc' h with ⟨hc,h⟩ | ⟨hc,h⟩
     ·exact wf hc Q (wz rfl (wu [] (j7 (g0,i0,j0,k0) h) Q Q Q Q))
     refine wt hc Q (wi (wq (wo (wq (wg (ws J 1 Q ?_))))))
     obtain ⟨m0,o0,h⟩:=ob h
     refine wc (z107_ct N (⟨g0,i0,j0⟩:T11) _ o0) [(0,.bp 2 0),(1,.sl 18)] [] Q Q Q Q Q Q Q Q (.inl rfl) rfl (wx ⟨[(2,.B 1 0),(4,.B 2 0),(5,.B 4 0),(6,.I U.1),(11,.I l0),(12,.B 21 0)],[(1,.box [.s (str []),.nil,.nil,.I 0,.I 0,.I 0,.nil,.nil] 27),(2,.box (cC11 20 m0.2) 130),(4,.box [.s x1.1,.sl 7,.sl 10,.I v.1,.I y.1,.I A.1,.sl 16,.sl 19] 27),(7,.own rS j true),(10,.own rR0 u true),(16,.own rR2 T true),(19,.own rR8 k0 true),(21,.box [.I m0.1,.I 0,.I 0] 79)],[(0,.sl (rI .u8) b_),(20,.sl (rI .u8) m0.2.B)],22⟩ J 3 (wn (wq (wg (ws J 1 Q ?_)))))
     obtain ⟨p0,q0,h⟩:=ob h
     refine wc (z107_ct N m0.2 _ q0) [(0,.bp 2 0),(1,.sl 20)] [] Q Q Q Q Q Q Q Q (.inl rfl) rfl (wx ⟨[(2,.B 1 0),(4,.B 2 0),(5,.B 4 0),(6,.I U.1),(11,.I l0),(12,.B 21 0)],[(1,.box [.s (str []),.nil,.nil,.I 0,.I 0,.I 0,.nil,.nil] 27),(2,.box (cC11 22 p0.2) 130),(4,.box [.s x1.1,.sl 7,.sl 10,.I v.1,.I y.1,.I A.1,.sl 16,.sl 19] 27),(7,.own rS j true),(10,.own rR0 u true),(16,.own rR2 T true),(19,.own rR8 k0 true),(21,.box [.I m0.1,.I p0.1,.I 0] 79)],[(0,.sl (rI .u8) b_),(22,.sl (rI .u8) p0.2.B)],23⟩ J 2 (wn (wq (wg (ws J 1 Q ?_)))))
     obtain ⟨s0,t0,h⟩:=ob h
     refine wc (z107_ct N p0.2 _ t0) [(0,.bp 2 0),(1,.sl 22)] [] Q Q Q Q Q Q Q Q (.inl rfl) rfl (wx ⟨[(2,.B 1 0),(4,.B 2 0),(5,.B 4 0),(6,.I U.1),(11,.I l0),(12,.B 21 0)],[(1,.box [.s (str []),.nil,.nil,.I 0,.I 0,.I 0,.nil,.nil] 27),(2,.box (cC11 23 s0.2) 130),(4,.box [.s x1.1,.sl 7,.sl 10,.I v.1,.I y.1,.I A.1,.sl 16,.sl 19] 27),(7,.own rS j true),(10,.own rR0 u true),(16,.own rR2 T true),(19,.own rR8 k0 true),(21,.box [.I m0.1,.I p0.1,.I s0.1] 79)],[(0,.sl (rI .u8) b_),(23,.sl (rI .u8) s0.2.B)],24⟩ J 2 (wn (wg (xw [3,4,5,6] ⟨[(2,.B 1 0),(4,.B 2 0),(5,.B 4 0),(6,.I U.1),(11,.I l0),(135,.S 19),(136,.a [.I m0.1,.I p0.1,.I s0.1])],[(1,.box [.s (str []),.nil,.nil,.I 0,.I 0,.I 0,.nil,.nil] 27),(2,.box (cC11 23 s0.2) 130),(4,.box [.s x1.1,.sl 7,.sl 10,.I v.1,.I y.1,.I A.1,.sl 16,.sl 19] 27),(7,.own rS j true),(10,.own rR0 u true),(16,.own rR2 T true),(19,.own rR8 k0 true)],[(0,.sl (rI .u8) b_),(23,.sl (rI .u8) s0.2.B)],24⟩ J 3 (WPr.bs (cs:=[.I m0.1,.I p0.1,.I s0.1]) oO8 J ([(⟨m0.1,p0.1,s0.1⟩:T8)]:List T8) Q Q Q Q Q Q (by kernel_rfl) (by exact (an (an rfl (an Q Q)) rfl)) rfl ?_)))))
     obtain ⟨u0,v0,h⟩:=ob h
     exact WPr.app J v0 (by exact (srcO rfl)) Q Q Q Q Q Q Q Q Q Q (wx (zz186 s0.2 x1.1 v.1 y.1 A.1 j u T u0 b_ s0.2.B [(2,.B 1 0),(4,.B 2 0),(5,.B 4 0),(6,.I U.1),(11,.I l0)]) J 2 (wn (wb (wg (wx (zz186 s0.2 x1.1 v.1 y.1 A.1 j u T u0 b_ s0.2.B [(2,.B 1 0),(4,.B 2 0),(5,.B 4 0),(6,.I U.1),(11,.I (w64 (l0+1)))]) J 3 (wn (wu [(18,.sl 23),(19,.sl 25)] (ih9 (s0.2.B,s0.2.At,s0.2.Failed,u0,(w64 (l0+1))) h) Q Q Q Q)))))))
    exact wu [(18,.sl 17),(19,.nil)] (ih N (U.2.B,U.2.At,U.2.Failed,([]:List T8),0) h) Q Q Q Q
   refine wo ?_
   refine wI (σ:=(List Int) × Int × Bool × (List T2) × Int) (fun st=>(zz92 st.2.1 st.2.2.1 x1.1 v.1 y.1 A.1 j u st.2.2.2.1 b_ st.1 [(2,.B 1 0),(4,.B 2 0),(5,.B 4 0),(6,.I D.1),(9,.I st.2.2.2.2)])) (fun n st=>z42_l4 N x1 j u v y A D n st.1 st.2.1 st.2.2.1 st.2.2.2.1 st.2.2.2.2) (r:=r) (fun _=>rfl) ?_ (fun ih=>?_)
   ·intro n6 ih10
    rintro ⟨x0,y0,z0,A0,B0⟩ h
    replace h:z42_l4 N x1 j u v y A D (n6+1) x0 y0 z0 A0 B0=some r:=h
    unfold z42_l4 at h
    refine wq (wq (wg (xw (rg 4 6) (zz92 y0 z0 x1.1 v.1 y.1 A.1 j u A0 b_ x0 [(2,.B 1 0),(4,.B 2 0),(5,.B 4 0),(6,.I D.1),(9,.I B0),(75,.O (decide (B0 < D.1)))]) J 4 ?_)))
    rcases oc' h with ⟨hc,h⟩ | ⟨hc,h⟩
    ·exact wy 75 hc Q (wx (zz92 y0 z0 x1.1 v.1 y.1 A.1 j u A0 b_ x0 [(2,.B 1 0),(4,.B 2 0),(5,.B 4 0),(6,.I D.1),(9,.I B0),(81,.O false)]) J 6 (wn (wf Q Q (wz rfl (wu [] (j5 (x0,y0,z0,A0) h) Q Q Q Q)))))
    refine wy 75 hc Q (wx (zz92 y0 z0 x1.1 v.1 y.1 A.1 j u A0 b_ x0 [(2,.B 1 0),(4,.B 2 0),(5,.B 4 0),(6,.I D.1),(9,.I B0),(81,.O (!z0))]) J 6 (wn ?_))
    rcases oc' h with ⟨hc,h⟩ | ⟨hc,h⟩
    ·exact wf hc Q (wz rfl (wu [] (j5 (x0,y0,z0,A0) h) Q Q Q Q))
    refine wt hc Q (wi (wq (wo (wq (wg (ws J 1 Q ?_))))))
    obtain ⟨C0,D0,h⟩:=ob h
    refine wc (z107_ct N (⟨x0,y0,z0⟩:T11) _ D0) [(0,.bp 2 0),(1,.sl 15)] [] Q Q Q Q Q Q Q Q (.inl rfl) rfl (wx ⟨[(2,.B 1 0),(4,.B 2 0),(5,.B 4 0),(6,.I D.1),(9,.I B0),(10,.B 18 0)],[(1,.box [.s (str []),.nil,.nil,.I 0,.I 0,.I 0,.nil,.nil] 27),(2,.box (cC11 17 C0.2) 130),(4,.box [.s x1.1,.sl 7,.sl 10,.I v.1,.I y.1,.I A.1,.sl 16,.nil] 27),(7,.own rS j true),(10,.own rR0 u true),(16,.own rR2 A0 true),(18,.box [.I C0.1,.I 0,.I 0,.I 0,.I 0,.b false] 43)],[(0,.sl (rI .u8) b_),(17,.sl (rI .u8) C0.2.B)],19⟩ J 3 (wn (wq (wg (ws J 1 Q ?_)))))
    obtain ⟨G0,H0,h⟩:=ob h
    refine wc (z107_ct N C0.2 _ H0) [(0,.bp 2 0),(1,.sl 17)] [] Q Q Q Q Q Q Q Q (.inl rfl) rfl (wx ⟨[(2,.B 1 0),(4,.B 2 0),(5,.B 4 0),(6,.I D.1),(9,.I B0),(10,.B 18 0)],[(1,.box [.s (str []),.nil,.nil,.I 0,.I 0,.I 0,.nil,.nil] 27),(2,.box (cC11 19 G0.2) 130),(4,.box [.s x1.1,.sl 7,.sl 10,.I v.1,.I y.1,.I A.1,.sl 16,.nil] 27),(7,.own rS j true),(10,.own rR0 u true),(16,.own rR2 A0 true),(18,.box [.I C0.1,.I G0.1,.I 0,.I 0,.I 0,.b false] 43)],[(0,.sl (rI .u8) b_),(19,.sl (rI .u8) G0.2.B)],20⟩ J 3 (wn (wq (wg (ws J 1 Q ?_)))))
    obtain ⟨I0,K0,h⟩:=ob h
    refine wc (z107_ct N G0.2 _ K0) [(0,.bp 2 0),(1,.sl 19)] [] Q Q Q Q Q Q Q Q (.inl rfl) rfl (wx ⟨[(2,.B 1 0),(4,.B 2 0),(5,.B 4 0),(6,.I D.1),(9,.I B0),(10,.B 18 0)],[(1,.box [.s (str []),.nil,.nil,.I 0,.I 0,.I 0,.nil,.nil] 27),(2,.box (cC11 20 I0.2) 130),(4,.box [.s x1.1,.sl 7,.sl 10,.I v.1,.I y.1,.I A.1,.sl 16,.nil] 27),(7,.own rS j true),(10,.own rR0 u true),(16,.own rR2 A0 true),(18,.box [.I C0.1,.I G0.1,.I I0.1,.I 0,.I 0,.b false] 43)],[(0,.sl (rI .u8) b_),(20,.sl (rI .u8) I0.2.B)],21⟩ J 3 (wn (wq (wg (ws J 1 Q ?_)))))
    obtain ⟨L0,M0,h⟩:=ob h
    refine wc (z107_ct N I0.2 _ M0) [(0,.bp 2 0),(1,.sl 20)] [] Q Q Q Q Q Q Q Q (.inl rfl) rfl (wx ⟨[(2,.B 1 0),(4,.B 2 0),(5,.B 4 0),(6,.I D.1),(9,.I B0),(10,.B 18 0)],[(1,.box [.s (str []),.nil,.nil,.I 0,.I 0,.I 0,.nil,.nil] 27),(2,.box (cC11 21 L0.2) 130),(4,.box [.s x1.1,.sl 7,.sl 10,.I v.1,.I y.1,.I A.1,.sl 16,.nil] 27),(7,.own rS j true),(10,.own rR0 u true),(16,.own rR2 A0 true),(18,.box [.I C0.1,.I G0.1,.I I0.1,.I L0.1,.I 0,.b false] 43)],[(0,.sl (rI .u8) b_),(21,.sl (rI .u8) L0.2.B)],22⟩ J 3 (wn (wq (wg (ws J 1 Q ?_)))))
    obtain ⟨O0,R0,h⟩:=ob h
    refine wc (z107_ct N L0.2 _ R0) [(0,.bp 2 0),(1,.sl 21)] [] Q Q Q Q Q Q Q Q (.inl rfl) rfl (wx ⟨[(2,.B 1 0),(4,.B 2 0),(5,.B 4 0),(6,.I D.1),(9,.I B0),(10,.B 18 0)],[(1,.box [.s (str []),.nil,.nil,.I 0,.I 0,.I 0,.nil,.nil] 27),(2,.box (cC11 22 O0.2) 130),(4,.box [.s x1.1,.sl 7,.sl 10,.I v.1,.I y.1,.I A.1,.sl 16,.nil] 27),(7,.own rS j true),(10,.own rR0 u true),(16,.own rR2 A0 true),(18,.box [.I C0.1,.I G0.1,.I I0.1,.I L0.1,.I O0.1,.b false] 43)],[(0,.sl (rI .u8) b_),(22,.sl (rI .u8) O0.2.B)],23⟩ J 2 (wn (wq (wg (ws J 1 Q ?_)))))
    obtain ⟨S0,T0,h⟩:=ob h
    refine wc (z108_ct N O0.2 _ T0) [(0,.bp 2 0),(1,.sl 22)] [] Q Q Q Q Q Q Q Q (.inl rfl) rfl (wx ⟨[(2,.B 1 0),(4,.B 2 0),(5,.B 4 0),(6,.I D.1),(9,.I B0),(10,.B 18 0)],[(1,.box [.s (str []),.nil,.nil,.I 0,.I 0,.I 0,.nil,.nil] 27),(2,.box (cC11 23 S0.2) 130),(4,.box [.s x1.1,.sl 7,.sl 10,.I v.1,.I y.1,.I A.1,.sl 16,.nil] 27),(7,.own rS j true),(10,.own rR0 u true),(16,.own rR2 A0 true),(18,.box [.I C0.1,.I G0.1,.I I0.1,.I L0.1,.I O0.1,.b S0.1] 43)],[(0,.sl (rI .u8) b_),(23,.sl (rI .u8) S0.2.B)],24⟩ J 2 (wn (wg (xw [3,4,5,6] ⟨[(2,.B 1 0),(4,.B 2 0),(5,.B 4 0),(6,.I D.1),(9,.I B0),(106,.S 16),(107,.a [.I C0.1,.I G0.1,.I I0.1,.I L0.1,.I O0.1,.b S0.1])],[(1,.box [.s (str []),.nil,.nil,.I 0,.I 0,.I 0,.nil,.nil] 27),(2,.box (cC11 23 S0.2) 130),(4,.box [.s x1.1,.sl 7,.sl 10,.I v.1,.I y.1,.I A.1,.sl 16,.nil] 27),(7,.own rS j true),(10,.own rR0 u true),(16,.own rR2 A0 true)],[(0,.sl (rI .u8) b_),(23,.sl (rI .u8) S0.2.B)],24⟩ J 3 (WPr.bs (cs:=[.I C0.1,.I G0.1,.I I0.1,.I L0.1,.I O0.1,.b S0.1]) oO2 J ([(⟨C0.1,(⟨G0.1,I0.1,L0.1⟩:T6),O0.1,S0.1⟩:T2)]:List T2) Q Q Q Q Q Q (by kernel_rfl) (by exact (an (an rfl (an (an rfl (an Q Q)) (an Q Q))) rfl)) rfl ?_)))))
    obtain ⟨U0,V0,h⟩:=ob h
    exact WPr.app J V0 (by exact (srcO rfl)) Q Q Q Q Q Q Q Q Q Q (wx (zz187 S0.2 x1.1 v.1 y.1 A.1 j u U0 b_ S0.2.B [(2,.B 1 0),(4,.B 2 0),(5,.B 4 0),(6,.I D.1),(9,.I B0)]) J 2 (wn (wb (wg (wx (zz187 S0.2 x1.1 v.1 y.1 A.1 j u U0 b_ S0.2.B [(2,.B 1 0),(4,.B 2 0),(5,.B 4 0),(6,.I D.1),(9,.I (w64 (B0+1)))]) J 3 (wn (wu [(15,.sl 23),(16,.sl 25)] (ih10 (S0.2.B,S0.2.At,S0.2.Failed,U0,(w64 (B0+1))) h) Q Q Q Q)))))))
   exact wu [(15,.sl 14),(16,.nil)] (ih N (D.2.B,D.2.At,D.2.Failed,([]:List T2),0) h) Q Q Q Q
  refine wo ?_
  refine wI (σ:=(List Int) × Int × Bool × (List T0) × Int) (fun st=>(zz91 st.2.1 st.2.2.1 x1.1 j st.2.2.2.1 b_ st.1 [(2,.B 1 0),(4,.B 2 0),(5,.B 4 0),(6,.I l.1),(8,.I st.2.2.2.2)])) (fun n st=>z42_l6 N x1 j l n st.1 st.2.1 st.2.2.1 st.2.2.2.1 st.2.2.2.2) (r:=r) (fun _=>rfl) ?_ (fun ih=>?_)
  ·intro n7 ih11
   rintro ⟨X0,Y0,Z0,a1,b1⟩ h
   replace h:z42_l6 N x1 j l (n7+1) X0 Y0 Z0 a1 b1=some r:=h
   unfold z42_l6 at h
   refine wq (wq (wg (xw (rg 4 6) (zz91 Y0 Z0 x1.1 j a1 b_ X0 [(2,.B 1 0),(4,.B 2 0),(5,.B 4 0),(6,.I l.1),(8,.I b1),(45,.O (decide (b1 < l.1)))]) J 4 ?_)))
   rcases oc' h with ⟨hc,h⟩ | ⟨hc,h⟩
   ·exact wy 45 hc Q (wx (zz91 Y0 Z0 x1.1 j a1 b_ X0 [(2,.B 1 0),(4,.B 2 0),(5,.B 4 0),(6,.I l.1),(8,.I b1),(51,.O false)]) J 6 (wn (wf Q Q (wz rfl (wu [] (j3 (X0,Y0,Z0,a1) h) Q Q Q Q)))))
   refine wy 45 hc Q (wx (zz91 Y0 Z0 x1.1 j a1 b_ X0 [(2,.B 1 0),(4,.B 2 0),(5,.B 4 0),(6,.I l.1),(8,.I b1),(51,.O (!Z0))]) J 6 (wn ?_))
   rcases oc' h with ⟨hc,h⟩ | ⟨hc,h⟩
   ·exact wf hc Q (wz rfl (wu [] (j3 (X0,Y0,Z0,a1) h) Q Q Q Q))
   refine wt hc Q (wi (wq (wo (wN (fun c1 d1 e1=>?_)))))
   have f1:c1 0 (zz30 [(5,.B 4 0)] [(54,.B 4 2)]):=d1 _ _ (wl J Q Q Q Q Q Q)
   have g1:c1 1 ⟨[(54,.B 4 2)],[],[],[(4,.box [.s x1.1,.sl 7,.sl 10,.I 0,.I 0,.I 0,.nil,.nil] 27)],11,[(55,.S 10)],[],[],11⟩:=d1 _ _ (wl J Q Q Q Q Q Q)
   have i1:c1 2 (zz30 [(4,.B 2 0)] [(56,.B 2 0)]):=d1 _ _ (wl J Q Q Q Q Q Q)
   obtain ⟨k1,l1,h⟩:=ob h
   have m1:c1 3 ⟨[(56,.B 2 0)],[(9,.sl (rI .u8) X0)],[(2,.box [.sl 9,.I Y0,.b Z0] 130)],[],11,[(57,.a (cC0 11 12 13 k1.1))],(vV0 11 12 13 k1.1 [(14,.sl (rI .u8) k1.2.B)]),[(2,.box (cC11 14 k1.2) 130)],15⟩:=d1 _ _ (wO Q Q Q (fun _ _ _ _ _ _ _ k=>wc (z106_ct N (⟨X0,Y0,Z0⟩:T11) _ l1) [(0,.bp 2 0),(1,.sl 9)] [] Q Q Q Q Q Q Q Q (.inl rfl) rfl (k)) rfl)
   have o1:c1 4 ⟨[(57,.a (cC0 11 12 13 k1.1))],(vV0 11 12 13 k1.1 []),[],[],15,[(58,.S 15)],[],[(15,.own rR0 ([k1.1]:List T0) true)],16⟩:=d1 _ _ (wO Q Q Q (fun _ _ _ _ _ _ _ k=>WPr.bs (cs:=(cC0 11 12 13 k1.1)) oO0 J ([k1.1]:List T0) Q Q Q Q Q Q (by kernel_rfl) (by exact (an (an rfl (an rfl (an rfl (an Q Q)))) rfl)) rfl (k)) rfl)
   obtain ⟨p1,q1,h⟩:=ob h
   have s1:c1 5 ⟨[(55,.S 10),(58,.S 15)],[],[(10,.own rR0 a1 true)],[(15,.own rR0 ([k1.1]:List T0) true)],16,[(59,.S 16)],[],[(10,.gone),(16,.own rR0 p1 true)],17⟩:=d1 _ _ (wO Q Q Q (fun _ _ _ _ _ _ _ k=>WPr.app J q1 (by exact (srcO rfl)) Q Q Q Q Q Q Q Q Q Q (k)) rfl)
   have t1:c1 6 (zz105 [(5,.B 4 0)] [(60,.B 4 2)]):=d1 _ _ (wl J Q Q Q Q Q Q)
   have u1:c1 7 ⟨[(59,.S 16),(60,.B 4 2)],[],[(4,.box [.s x1.1,.sl 7,.sl 10,.I 0,.I 0,.I 0,.nil,.nil] 27)],[(16,.own rR0 p1 true)],17,[],[],[(4,.box [.s x1.1,.sl 7,.sl 16,.I 0,.I 0,.I 0,.nil,.nil] 27)],17⟩:=d1 _ _ (wl J Q Q Q Q Q Q)
   exact wD (t:=(zz188 k1.2 x1.1 j p1 b_ k1.2.B [(2,.B 1 0),(4,.B 2 0),(5,.B 4 0),(6,.I l.1),(8,.I b1)])) [0,1,0,4,12,31,63,127] (.cons (e1 _ _ f1) (.cons (e1 _ _ g1) (.cons (e1 _ _ i1) (.cons (e1 _ _ m1) (.cons (e1 _ _ o1) (.cons (e1 _ _ s1) (.cons (e1 _ _ t1) (.cons (e1 _ _ u1) .nil)))))))) (by kernel_rfl) (by kernel_rfl) (by kernel_rfl) (by kernel_rfl) (wb (wg (wx (zz188 k1.2 x1.1 j p1 b_ k1.2.B [(2,.B 1 0),(4,.B 2 0),(5,.B 4 0),(6,.I l.1),(8,.I (w64 (b1+1)))]) J 3 (wn (wu [(9,.sl 14),(10,.sl 16)] (ih11 (k1.2.B,k1.2.At,k1.2.Failed,p1,(w64 (b1+1))) h) Q Q Q Q)))))
  exact wu [(9,.sl 8),(10,.nil)] (ih N (l.2.B,l.2.At,l.2.Failed,([]:List T0),0) h) Q Q Q Q
 refine wo ?_
 refine wI (σ:=(List Int) × Int × Bool × (List ByteArray) × Int) (fun st=>(zz90 st.2.1 st.2.2.1 x1.1 st.2.2.2.1 b_ st.1 [(2,.B 1 0),(4,.B 2 0),(5,.B 4 0),(6,.I x2.1),(7,.I st.2.2.2.2)])) (fun n st=>z42_l8 N x1 x2 n st.1 st.2.1 st.2.2.1 st.2.2.2.1 st.2.2.2.2) (r:=r) (fun _=>rfl) ?_ (fun ih=>?_)
 ·intro n8 ih12
  rintro ⟨v1,y1,z1,A1,B1⟩ h
  replace h:z42_l8 N x1 x2 (n8+1) v1 y1 z1 A1 B1=some r:=h
  unfold z42_l8 at h
  refine wq (wq (wg (xw (rg 4 6) (zz90 y1 z1 x1.1 A1 b_ v1 [(2,.B 1 0),(4,.B 2 0),(5,.B 4 0),(6,.I x2.1),(7,.I B1),(24,.O (decide (B1 < x2.1)))]) J 4 ?_)))
  rcases oc' h with ⟨hc,h⟩ | ⟨hc,h⟩
  ·exact wy 24 hc Q (wx (zz90 y1 z1 x1.1 A1 b_ v1 [(2,.B 1 0),(4,.B 2 0),(5,.B 4 0),(6,.I x2.1),(7,.I B1),(30,.O false)]) J 6 (wn (wf Q Q (wz rfl (wu [] (j1 (v1,y1,z1,A1) h) Q Q Q Q)))))
  refine wy 24 hc Q (wx (zz90 y1 z1 x1.1 A1 b_ v1 [(2,.B 1 0),(4,.B 2 0),(5,.B 4 0),(6,.I x2.1),(7,.I B1),(30,.O (!z1))]) J 6 (wn ?_))
  rcases oc' h with ⟨hc,h⟩ | ⟨hc,h⟩
  ·exact wf hc Q (wz rfl (wu [] (j1 (v1,y1,z1,A1) h) Q Q Q Q))
  refine wt hc Q (wi (wq (wo (wN (fun C1 D1 G1=>?_)))))
  have H1:C1 0 (zz11 [(5,.B 4 0)] [(33,.B 4 1)]):=D1 _ _ (wl J Q Q Q Q Q Q)
  have I1:C1 1 ⟨[(33,.B 4 1)],[],[],[(4,.box [.s x1.1,.sl 7,.nil,.I 0,.I 0,.I 0,.nil,.nil] 27)],8,[(34,.S 7)],[],[],8⟩:=D1 _ _ (wl J Q Q Q Q Q Q)
  have K1:C1 2 (zz11 [(4,.B 2 0)] [(35,.B 2 0)]):=D1 _ _ (wl J Q Q Q Q Q Q)
  obtain ⟨L1,M1,h⟩:=ob h
  have O1:C1 3 ⟨[(35,.B 2 0)],[(6,.sl (rI .u8) v1)],[(2,.box [.sl 6,.I y1,.b z1] 130)],[],8,[(36,.c (.s L1.1))],[(8,.sl (rI .u8) L1.2.B)],[(2,.box (cC11 8 L1.2) 130)],9⟩:=D1 _ _ (wO Q Q Q (fun _ _ _ _ _ _ _ k=>wc (z104_ct N (⟨v1,y1,z1⟩:T11) 16 _ M1) [(0,.bp 2 0),(1,.sl 6)] [] Q Q Q Q Q Q Q Q (.inl rfl) rfl (k)) rfl)
  have R1:C1 4 ⟨[(36,.c (.s L1.1))],[],[],[],9,[(37,.S 9)],[],[(9,.own rS ([L1.1]:List ByteArray) true)],10⟩:=D1 _ _ (wO Q Q Q (fun _ _ _ _ _ _ _ k=>WPr.bs (cs:=[.s L1.1]) oS J ([L1.1]:List ByteArray) Q Q Q Q Q Q (by kernel_rfl) (by exact (an Q Q)) rfl (k)) rfl)
  obtain ⟨S1,T1,h⟩:=ob h
  have U1:C1 5 ⟨[(34,.S 7),(37,.S 9)],[],[(7,.own rS A1 true)],[(9,.own rS ([L1.1]:List ByteArray) true)],10,[(38,.S 10)],[],[(7,.gone),(10,.own rS S1 true)],11⟩:=D1 _ _ (wO Q Q Q (fun _ _ _ _ _ _ _ k=>WPr.app J T1 (by exact (srcO rfl)) Q Q Q Q Q Q Q Q Q Q (k)) rfl)
  have V1:C1 6 (zz30 [(5,.B 4 0)] [(39,.B 4 1)]):=D1 _ _ (wl J Q Q Q Q Q Q)
  have X1:C1 7 ⟨[(38,.S 10),(39,.B 4 1)],[],[(4,.box [.s x1.1,.sl 7,.nil,.I 0,.I 0,.I 0,.nil,.nil] 27)],[(10,.own rS S1 true)],11,[],[],[(4,.box [.s x1.1,.sl 10,.nil,.I 0,.I 0,.I 0,.nil,.nil] 27)],11⟩:=D1 _ _ (wl J Q Q Q Q Q Q)
  exact wD (t:=(zz189 L1.2 x1.1 S1 b_ L1.2.B [(2,.B 1 0),(4,.B 2 0),(5,.B 4 0),(6,.I x2.1),(7,.I B1)])) [0,1,0,4,12,31,63,127] (.cons (G1 _ _ H1) (.cons (G1 _ _ I1) (.cons (G1 _ _ K1) (.cons (G1 _ _ O1) (.cons (G1 _ _ R1) (.cons (G1 _ _ U1) (.cons (G1 _ _ V1) (.cons (G1 _ _ X1) .nil)))))))) (by kernel_rfl) (by kernel_rfl) (by kernel_rfl) (by kernel_rfl) (wb (wg (wx (zz189 L1.2 x1.1 S1 b_ L1.2.B [(2,.B 1 0),(4,.B 2 0),(5,.B 4 0),(6,.I x2.1),(7,.I (w64 (B1+1)))]) J 3 (wn (wu [(6,.sl 8),(7,.sl 10)] (ih12 (L1.2.B,L1.2.At,L1.2.Failed,S1,(w64 (B1+1))) h) Q Q Q Q)))))
 exact wu [(6,.sl 5),(7,.nil)] (ih N (x2.2.B,x2.2.At,x2.2.Failed,([]:List ByteArray),0) h) Q Q Q Q
theorem law18_GlobalDecode_ct (N:Nat) (b_:(List Int)) (r:Bool) (h:law18_GlobalDecode N b_=some r) :
 Fn Tryz.prog 10 ⟨1,[.S 0],[(0,.sl (rI .u8) b_)],[],1,.O r,[],[]⟩:=by
 refine Fn.intro _ _ Tryz.func10 rfl (by kernel_rfl) rfl (fun E F w=>?_)
 unfold law18_GlobalDecode at h
 refine wq (wg (ws J 1 Q (wn (wq (wq (wg ?_))))))
 obtain ⟨x1,c,h⟩:=ob h
 refine wc (z12_ct N _ c) [] [] Q Q Q Q Q Q Q Q (.inl rfl) rfl (xw [3,4,5,6] (zz40 b_ [(0,.S 0),(2,.O false),(9,.O (!x1))]) J 2 ?_)
 rcases oc h with ⟨hc,h⟩ | ⟨hc,h⟩
 ·refine wy 9 hc Q (wx (zz40 b_ [(0,.S 0),(2,.O false),(13,.O true)]) J 4 (wn (wt Q Q (wq (wg ?_)))))
  obtain ⟨x2,d,h⟩:=ob h
  refine wc (z12_ct N _ d) [] [] Q Q Q Q Q Q Q Q (.inl rfl) rfl (wx (zz40 b_ [(2,.O x2)]) J 1 (wn ?_))
  cases h
  exact we J Tryz.func10 [] Q Q Q Q
 refine wy 9 hc Q (wx (zz40 b_ [(0,.S 0),(2,.O false),(13,.O (decide ((b_.length:Int) > 1500)))]) J 4 (wn ?_))
 rcases oc h with ⟨hc,h⟩ | ⟨hc,h⟩
 ·refine wt hc Q (wq (wg ?_))
  obtain ⟨x3,e,h⟩:=ob h
  refine wc (z12_ct N _ e) [] [] Q Q Q Q Q Q Q Q (.inl rfl) rfl (wx (zz40 b_ [(2,.O x3)]) J 1 (wn ?_))
  cases h
  exact we J Tryz.func10 [] Q Q Q Q
 refine wf hc Q (wi (wq (wg (ws J 1 Q ?_))))
 obtain ⟨x4,f,h⟩:=ob h
 refine wc (z41_ct N b_ _ f) [(0,.sl 0)] [] Q Q Q Q Q Q Q Q (.inl rfl) rfl (wx ⟨[(0,.S 0),(2,.O false),(3,.B 5 0),(4,.I x4.2)],[(5,.box (cC4 1 2 3 4 x4.1) 27)],((0,.sl (rI .u8) b_)::vV4 1 2 3 4 x4.1 []),6⟩ J 6 (wn (wq (wg (ws J 1 Q ?_)))))
 obtain ⟨x5,g,h⟩:=ob h
 refine wc (z42_ct N b_ _ g) [(0,.sl 0)] [] Q Q Q Q Q Q Q Q (.inl rfl) rfl (wx (zz190 x4.1 x5.1 b_ [(0,.S 0),(2,.O false),(3,.B 5 0),(4,.I x4.2),(5,.B 10 0),(6,.I x5.2)]) J 6 (wn (wq (wg (xw (rg 4 15) (zz190 x4.1 x5.1 b_ [(0,.S 0),(3,.B 5 0),(4,.I x4.2),(5,.B 10 0),(28,.O (x4.2==x5.2))]) J 4 ?_)))))
 rcases oc' h with ⟨hc,h⟩ | ⟨hc,h⟩
 ·refine wy 28 hc Q (wx ⟨[(2,.O false)],[],[(0,.sl (rI .u8) b_)],11⟩ J 15 (wn ?_))
  cases h
  exact we J Tryz.func10 [] Q Q Q Q
 refine wy 28 hc Q (ws J 2 Q ?_)
 obtain ⟨x6,i,h⟩:=ob h
 refine wc (z33_ct N x4.1 x5.1 _ i) [(0,.sl 1),(1,.sl 2),(2,.sl 3),(3,.sl 4),(4,.sl 6),(5,.sl 7),(6,.sl 8),(7,.sl 9)] [] Q Q Q Q Q Q Q Q (.inl rfl) rfl (xw (rg 9 10) (zz191 x4.1 b_ [(0,.S 0),(3,.B 5 0),(4,.I x4.2),(33,.O x6)]) J 2 ?_)
 rcases oc' h with ⟨hc,h⟩ | ⟨hc,h⟩
 ·refine wy 33 hc Q (wx ⟨[(2,.O false)],[],[(0,.sl (rI .u8) b_)],11⟩ J 10 (wn ?_))
  cases h
  exact we J Tryz.func10 [] Q Q Q Q
 refine wy 33 hc Q (xw (rg 12 7) (zz191 x4.1 b_ [(0,.S 0),(3,.B 5 0),(33,.O true),(36,.O (x4.2 != 0))]) J 3 ?_)
 rcases oc h with ⟨hc,h⟩ | ⟨hc,h⟩
 ·refine wy 36 hc Q (wx ⟨[(2,.O true)],[],[(0,.sl (rI .u8) b_)],11⟩ J 7 (wn ?_))
  cases h
  exact we J Tryz.func10 [] Q Q Q Q
 refine wy 36 hc Q (ws J 1 Q ?_)
 obtain ⟨x7,j,h⟩:=ob h
 refine wc (z37_ct N x4.1 _ j) [(0,.sl 1),(1,.sl 2),(2,.sl 3),(3,.sl 4)] [] Q Q Q Q Q Q Q Q (.inl rfl) rfl (xw [15,16,17,18] ⟨[(33,.O true),(36,.O false),(38,.S 11),(39,.S 0)],[(11,.own (rI .u8) x7 true)],[(0,.sl (rI .u8) b_)],12⟩ J 1 ?_)
 obtain ⟨x8,k,h⟩:=ob h
 refine wc (z38_ct N x7 b_ _ k) [(0,.sl 11),(1,.sl 0)] [11] Q Q Q Q Q Q Q Q (.inr ⟨rfl,trivial⟩) rfl (wx ⟨[(2,.O x8)],[],[(0,.sl (rI .u8) b_)],12⟩ J 3 (wn ?_))
 cases h
 exact we J Tryz.func10 [] Q Q Q Q
end Gx
end
