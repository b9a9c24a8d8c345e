/- Each function of the statement computes what its plain definition says, part 3. -/
import Derived.Test.YtenajajnbmfijaaGreatDoorGlobalDecodeWalk2
set_option linter.all false
section
set_option maxRecDepth 10000
set_option maxHeartbeats 4000000
open Go Go.Kx Go.Proofs
namespace Gx
theorem z152_ct (N:Nat) (s_:T7) (r:Bool) (h:z152 N s_=some r) :
 Fn Tryz.prog 152 ⟨0,[.a (cC7 s_)],[],[],0,.O r,[],[]⟩:=by
 refine Fn.intro _ _ Tryz.func152 rfl (by kernel_rfl) rfl (fun E F w=>?_)
 unfold z152 at h
 refine wq (wg (ws J 2 Q (wn (wq (wg (wx (zz25 s_ [(1,.B 0 0),(2,.O false),(3,.I (-1000)),(4,.I 1000)]) J 2 (wn (wq (wq (wg (wx (zz25 s_ [(1,.B 0 0),(2,.O false),(3,.I (-1000)),(4,.I 1000),(7,.O (s_.Kind==2))]) J 3 (wn ?_))))))))))))
 refine wC (σ:=Int × Int) (fun st=>(zz25 s_ [(1,.B 0 0),(3,.I st.1),(4,.I st.2)])) (fun st=>z152_k1 s_ st.1 st.2=some r) ?_ (fun j1=>?_)
 ·rintro ⟨c,d⟩ h
  replace h:z152_k1 s_ c d=some r:=h
  unfold z152_k1 at h
  refine wq (wg (xw (rg 4 24) (zz25 s_ [(1,.B 0 0),(3,.I c),(4,.I d),(11,.O (s_.Kind==1))]) J 4 ?_))
  rcases oc h with ⟨hc,h⟩ | ⟨hc,h⟩
  ·refine wy 11 hc Q (xw (rg 15 13) (zz25 s_ [(1,.B 0 0),(4,.I d),(22,.O (decide (s_.Lo≥c)))]) J 11 ?_)
   rcases oc' h with ⟨hc,h⟩ | ⟨hc,h⟩
   ·refine wy 22 hc Q (wx (zz23 [(2,.O false)]) J 13 (wn ?_))
    cases h
    exact we J Tryz.func152 [] Q Q Q Q
   refine wy 22 hc Q (xw (rg 21 7) (zz25 s_ [(1,.B 0 0),(28,.O (decide (s_.Hi≤d)))]) J 6 ?_)
   rcases oc h with ⟨hc,h⟩ | ⟨hc,h⟩
   ·refine wy 28 hc Q (wx (zz23 [(2,.O (decide (s_.Lo≤s_.Hi)))]) J 7 (wn ?_))
    cases h
    exact we J Tryz.func152 [] Q Q Q Q
   refine wy 28 hc Q (wx (zz23 [(2,.O false)]) J 7 (wn ?_))
   cases h
   exact we J Tryz.func152 [] Q Q Q Q
  refine wy 11 hc Q (xw (rg 9 19) (zz25 s_ [(1,.B 0 0),(3,.I c),(4,.I d),(16,.O (s_.Kind==2))]) J 5 ?_)
  rcases oc' h with ⟨hc,h⟩ | ⟨hc,h⟩
  ·refine wy 16 hc Q (wx (zz23 [(2,.O false)]) J 19 (wn ?_))
   cases h
   exact we J Tryz.func152 [] Q Q Q Q
  refine wy 16 hc Q (xw (rg 15 13) (zz25 s_ [(1,.B 0 0),(4,.I d),(22,.O (decide (s_.Lo≥c)))]) J 6 ?_)
  rcases oc' h with ⟨hc,h⟩ | ⟨hc,h⟩
  ·refine wy 22 hc Q (wx (zz23 [(2,.O false)]) J 13 (wn ?_))
   cases h
   exact we J Tryz.func152 [] Q Q Q Q
  refine wy 22 hc Q (xw (rg 21 7) (zz25 s_ [(1,.B 0 0),(28,.O (decide (s_.Hi≤d)))]) J 6 ?_)
  rcases oc h with ⟨hc,h⟩ | ⟨hc,h⟩
  ·refine wy 28 hc Q (wx (zz23 [(2,.O (decide (s_.Lo≤s_.Hi)))]) J 7 (wn ?_))
   cases h
   exact we J Tryz.func152 [] Q Q Q Q
  refine wy 28 hc Q (wx (zz23 [(2,.O false)]) J 7 (wn ?_))
  cases h
  exact we J Tryz.func152 [] Q Q Q Q
 rcases oc h with ⟨hc,h⟩ | ⟨hc,h⟩
 ·exact wt hc Q (wg (ws J 2 Q (wn (wu [] (j1 (0,40) h) Q Q Q Q))))
 exact wf hc Q (wi (wu [] (j1 ((-1000),1000) h) Q Q Q Q))
theorem z171_ct (N:Nat) (s_:ByteArray) (r:Bool) (h:z171 N s_=some r) :
 Fn Tryz.prog 171 ⟨0,[.c (.s s_)],[],[],0,.O r,[],[]⟩:=by
 refine Fn.intro _ _ Tryz.func171 rfl (by kernel_rfl) rfl (fun E F w=>?_)
 unfold z171 at h
 refine wq (wg (ws J 1 Q (wn (wq (wg (ws J 1 Q ?_))))))
 obtain ⟨x1,d,h⟩:=ob h
 refine wc (z112_ct N s_ _ d) [] [] Q Q Q Q Q Q Q Q (.inl rfl) rfl (wx (zz0 [(2,.O x1)]) J 1 (wn ?_))
 cases h
 exact we J Tryz.func171 [] Q Q Q Q
theorem z153_ct (N:Nat) (s_:ByteArray) (r:Bool) (h:z153 N s_=some r) :
 Fn Tryz.prog 153 ⟨0,[.c (.s s_)],[],[],0,.O r,[],[]⟩:=by
 refine Fn.intro _ _ Tryz.func153 rfl (by kernel_rfl) rfl (fun E F w=>?_)
 unfold z153 at h
 refine wq (wg (ws J 1 Q (wn (wq (wg (ws J 1 Q (wn (wq (wq (wg (wx (zz0 [(0,.c (.s s_)),(2,.O false),(3,.I 0),(4,.I 0)]) J 1 (wn ?_))))))))))))
 refine wC (σ:=Unit) (fun st=>(zz0 [(0,.c (.s s_))])) (fun st=>z153_k1 s_=some r) ?_ (fun j1=>?_)
 ·intro _ h
  replace h:z153_k1 s_=some r:=h
  unfold z153_k1 at h
  refine wq (wg (wx (zz0 [(2,.O (decide ((s_.size:Int)≤50)))]) J 4 (wn ?_)))
  cases h
  exact we J Tryz.func153 [] Q Q Q Q
 refine wo ?_
 refine wI (σ:=Int × Int) (fun st=>(zz0 [(0,.c (.s s_)),(3,.I st.1),(4,.I st.2)])) (fun n st=>z153_l2 N s_ n st.1 st.2) (r:=r) (fun _=>rfl) ?_ (fun ih=>?_)
 ·intro n2 ih6
  rintro ⟨d,e⟩ h
  replace h:z153_l2 N s_ (n2+1) d e=some r:=h
  unfold z153_l2 at h
  refine wq (wq (wg (wx (zz0 [(0,.c (.s s_)),(3,.I d),(4,.I e),(8,.O (decide (e≤(s_.size:Int))))]) J 4 (wn ?_))))
  rcases oc' h with ⟨hc,h⟩ | ⟨hc,h⟩
  ·exact wf hc Q (wz rfl (wu [] (j1 () h) Q Q Q Q))
  refine wt hc Q (wi (wq (wo (wq (wg (xw [5,6,7,8,9] (zz0 [(0,.c (.s s_)),(3,.I d),(4,.I e),(15,.O (e==(s_.size:Int)))]) J 5 ?_))))))
  refine WP.cutr (σ:=Bool) (fun st=>(zz0 [(0,.c (.s s_)),(3,.I d),(4,.I e),(20,.O st)])) (fun st=>z153_k3 N s_ d e (z153_l2 N s_ n2) st=some r) ?_ (fun j9=>?_)
  ·intro f h
   replace h:z153_k3 N s_ d e (z153_l2 N s_ n2) f=some r:=h
   unfold z153_k3 at h
   rcases oc' h with ⟨hc,h⟩ | ⟨hc,h⟩
   ·exact wf hc Q (wi (wb (wg (wx (zz0 [(0,.c (.s s_)),(3,.I d),(4,.I (w64 (e+1)))]) J 3 (wn (wu [] (ih6 (d,(w64 (e+1))) h) Q Q Q Q))))))
   refine wt hc Q (wq (wq (wg (xw [3,4,5] (zz0 [(0,.c (.s s_)),(4,.I e),(21,.c (.s s_)),(22,.I d),(23,.I e)]) J 3 ?_))))
   obtain ⟨g,i,h⟩:=ob h
   refine WPr.ssl J (l:=some (.i64,d)) (h:=some (.i64,e)) i Q Q Q Q Q Q Q Q Q Q ?_
   obtain ⟨j,k,h⟩:=ob h
   refine wc (z171_ct N g _ k) [] [] Q Q Q Q Q Q Q Q (.inl rfl) rfl (wx (zz0 [(0,.c (.s s_)),(4,.I e),(26,.O (!j))]) J 1 (wn ?_))
   rcases oc h with ⟨hc,h⟩ | ⟨hc,h⟩
   ·refine wt hc Q (wq (wg (ws J 1 Q (wn ?_))))
    cases h
    exact we J Tryz.func153 [] Q Q Q Q
   exact wf hc Q (wi (wg (wx (zz0 [(0,.c (.s s_)),(3,.I (w64 (e+1))),(4,.I e)]) J 3 (wn (wb (wg (wx (zz0 [(0,.c (.s s_)),(3,.I (w64 (e+1))),(4,.I (w64 (e+1)))]) J 3 (wn (wu [] (ih6 ((w64 (e+1)),(w64 (e+1))) h) Q Q Q Q)))))))))
  rcases oc h with ⟨hc,h⟩ | ⟨hc,h⟩
  ·exact wy 15 hc Q (wx (zz0 [(0,.c (.s s_)),(3,.I d),(4,.I e),(20,.O true)]) J 5 (wn (wu [] (j9 true h) Q Q Q Q)))
  refine wy 15 hc Q (ws J 2 Q ?_)
  obtain ⟨m,o,h⟩:=ob h
  exact WPr.sx J o Q Q Q Q Q Q Q Q Q (wx (zz0 [(0,.c (.s s_)),(3,.I d),(4,.I e),(20,.O (m==46))]) J 2 (wn (wu [] (j9 (m==46) h) Q Q Q Q)))
 exact wu [] (ih N (0,0) h) Q Q Q Q
theorem z185_ct (N:Nat) (decls_:(List T0)) (x_:Int) (r:T3) (h:z185 N decls_ x_=some r) :
 Fn Tryz.prog 185 ⟨1,[.S 0,.I x_],[(0,.sl rR0 decls_)],[],1,.a (cC3 r),[],[]⟩:=by
 refine Fn.intro _ _ Tryz.func185 rfl (by kernel_rfl) rfl (fun E F w=>?_)
 unfold z185 at h
 refine wq (wg (ws J 1 Q (wn (wq (wq (wg (ws J 1 Q (wn ?_))))))))
 refine wC (σ:=Unit) (fun st=>(zz108 decls_ [(4,.B 1 0)])) (fun st=>z185_k1=some r) ?_ (fun j1=>?_)
 ·intro _ h
  replace h:z185_k1=some r:=h
  unfold z185_k1 at h
  refine wq (wg (ws J 2 Q (wn ?_)))
  cases h
  exact we J Tryz.func185 [] Q Q Q Q
 refine wo ?_
 refine wI (σ:=Int × Int) (fun st=>(zz108 decls_ [(0,.S 0),(1,.I st.1),(4,.B 1 0),(5,.I st.2)])) (fun n st=>z185_l2 decls_ n st.1 st.2) (r:=r) (fun _=>rfl) ?_ (fun ih=>?_)
 ·intro n2 ih3
  rintro ⟨c,d⟩ h
  replace h:z185_l2 decls_ (n2+1) c d=some r:=h
  unfold z185_l2 at h
  refine wq (wq (wg (wx (zz108 decls_ [(0,.S 0),(1,.I c),(4,.B 1 0),(5,.I d),(9,.O (decide (d < (decls_.length:Int))))]) J 4 (wn ?_))))
  rcases oc' h with ⟨hc,h⟩ | ⟨hc,h⟩
  ·exact wf hc Q (wz rfl (wu [] (j1 () h) Q Q Q Q))
  refine wt hc Q (wi (wq (wo (wq (wq (wg (xw [3,4,5,6,7] (zz108 decls_ [(0,.S 0),(1,.I c),(4,.B 1 0),(5,.I d),(12,.I c),(13,.S 0),(14,.I d)]) J 3 ?_)))))))
  obtain ⟨e,f,h⟩:=ob h
  refine wj oO0 J f Q Q Q Q Q Q Q Q Q (wx ⟨[(0,.S 0),(1,.I c),(4,.B 1 0),(5,.I d),(19,.O (decide (c < (e.Fields.length:Int))))],[(1,.box [.s (str []),.I 0,.I 0,.I 0] 141)],[(0,.sl rR0 decls_)],6⟩ J 4 (wn ?_))
  rcases oc' h with ⟨hc,h⟩ | ⟨hc,h⟩
  ·refine wf hc Q (wi (wg (xw (rg 3 6) ⟨[(0,.S 0),(4,.B 1 0),(5,.I d),(28,.I c),(29,.S 0),(30,.I d)],[(1,.box [.s (str []),.I 0,.I 0,.I 0] 141)],[(0,.sl rR0 decls_)],6⟩ J 3 ?_)))
   obtain ⟨g,i,h⟩:=ob h
   exact wj oO0 J i Q Q Q Q Q Q Q Q Q (wx ⟨[(0,.S 0),(1,.I (w64 (c-(g.Fields.length:Int)))),(4,.B 1 0),(5,.I d)],[(1,.box [.s (str []),.I 0,.I 0,.I 0] 141)],[(0,.sl rR0 decls_)],10⟩ J 5 (wn (wb (wg (wx ⟨[(0,.S 0),(1,.I (w64 (c-(g.Fields.length:Int)))),(4,.B 1 0),(5,.I (w64 (d+1)))],[(1,.box [.s (str []),.I 0,.I 0,.I 0] 141)],[(0,.sl rR0 decls_)],10⟩ J 3 (wn (wu [] (ih3 ((w64 (c-(g.Fields.length:Int))),(w64 (d+1))) h) Q Q Q Q)))))))
  refine wt hc Q (wq (wg (ws J 2 Q ?_)))
  obtain ⟨j,k,h⟩:=ob h
  refine wj oO0 J k Q Q Q Q Q Q Q Q Q (xw [6,7,8] ⟨[(4,.B 1 0),(24,.S 7),(25,.I c)],[(1,.box [.s (str []),.I 0,.I 0,.I 0] 141)],[(0,.sl rR0 decls_),(7,.sl rR3 j.Fields)],10⟩ J 3 ?_)
  obtain ⟨l,m,h⟩:=ob h
  refine wj oO3 J m Q Q Q Q Q Q Q Q Q (wx ⟨[(4,.B 1 0)],[(1,.box (cC3 l) 141)],[(0,.sl rR0 decls_)],11⟩ J 2 (wn ?_))
  cases h
  exact we J Tryz.func185 [] Q Q Q Q
 exact wu [] (ih N (x_,0) h) Q Q Q Q
theorem z172_ct (N:Nat) (decls_:(List T0)) (x_:Int) (r:Bool) (h:z172 N decls_ x_=some r) :
 Fn Tryz.prog 172 ⟨1,[.S 0,.I x_],[(0,.sl rR0 decls_)],[],1,.O r,[],[]⟩:=by
 refine Fn.intro _ _ Tryz.func172 rfl (by kernel_rfl) rfl (fun E F w=>?_)
 unfold z172 at h
 refine wq (wg (ws J 1 Q (wn (wq (wg (xw (rg 3 14) (zz10 decls_ [(0,.S 0),(1,.I x_),(7,.O (decide (x_≥0)))]) J 3 ?_))))))
 rcases oc' h with ⟨hc,h⟩ | ⟨hc,h⟩
 ·refine wy 7 hc Q (wx (zz10 decls_ [(4,.O false)]) J 14 (wn ?_))
  cases h
  exact we J Tryz.func172 [] Q Q Q Q
 refine wy 7 hc Q (ws J 2 Q ?_)
 obtain ⟨x1,c,h⟩:=ob h
 refine wc (z151_ct N decls_ _ c) [(0,.sl 0)] [] Q Q Q Q Q Q Q Q (.inl rfl) rfl (xw (rg 9 8) (zz10 decls_ [(0,.S 0),(1,.I x_),(13,.O (decide (x_ < x1)))]) J 3 ?_)
 rcases oc' h with ⟨hc,h⟩ | ⟨hc,h⟩
 ·refine wy 13 hc Q (wx (zz10 decls_ [(4,.O false)]) J 8 (wn ?_))
  cases h
  exact we J Tryz.func172 [] Q Q Q Q
 refine wy 13 hc Q (ws J 2 Q ?_)
 obtain ⟨x2,d,h⟩:=ob h
 refine wc (z185_ct N decls_ x_ _ d) [(0,.sl 0)] [] Q Q Q Q Q Q Q Q (.inl rfl) rfl (wx (zz10 decls_ [(4,.O (x2.Sort'.Kind==2))]) J 5 (wn ?_))
 cases h
 exact we J Tryz.func172 [] Q Q Q Q
theorem z154_ct (N:Nat) (decls_:(List T0)) (g_:T5) (r:Bool) (h:z154 N decls_ g_=some r) :
 Fn Tryz.prog 154 ⟨3,[.S 0,.a [.sl 1,.sl 2]],[(0,.sl rR0 decls_),(1,.sl rR1 g_.Diffs),(2,.sl (rP (rI .i64) (rI .i64)) g_.Equals)],[],3,.O r,[],[]⟩:=by
 refine Fn.intro _ _ Tryz.func154 rfl (by kernel_rfl) rfl (fun E F w=>?_)
 unfold z154 at h
 refine wq (wg (ws J 2 Q (wn (wq (wg (xw [1,2] (zz32 decls_ g_.Diffs g_.Equals [(0,.S 0),(3,.B 3 0),(4,.O false),(9,.S 0)]) J 1 ?_))))))
 obtain ⟨x1,c,h⟩:=ob h
 refine wc (z151_ct N decls_ _ c) [(0,.sl 0)] [] Q Q Q Q Q Q Q Q (.inl rfl) rfl (wx (zz32 decls_ g_.Diffs g_.Equals [(0,.S 0),(3,.B 3 0),(4,.O false),(5,.I x1)]) J 1 (wn (wq (wq (wg (ws J 1 Q (wn ?_)))))))
 refine wC (σ:=Unit) (fun st=>(zz32 decls_ g_.Diffs g_.Equals [(0,.S 0),(3,.B 3 0)])) (fun st=>z154_k3 N decls_ g_=some r) ?_ (fun j1=>?_)
 ·intro _ h
  replace h:z154_k3 N decls_ g_=some r:=h
  unfold z154_k3 at h
  refine wq (wq (wg (ws J 1 Q (wn ?_))))
  refine wC (σ:=Unit) (fun st=>(zz32 decls_ g_.Diffs g_.Equals [(3,.B 3 0)])) (fun st=>z154_k1 g_=some r) ?_ (fun j3=>?_)
  ·intro _ h
   replace h:z154_k1 g_=some r:=h
   unfold z154_k1 at h
   refine wq (wg (xw (rg 5 6) (zz32 decls_ g_.Diffs g_.Equals [(3,.B 3 0),(84,.O (decide ((g_.Diffs.length:Int)≤20)))]) J 5 ?_))
   rcases oc h with ⟨hc,h⟩ | ⟨hc,h⟩
   ·refine wy 84 hc Q (wx ⟨[(4,.O (decide ((g_.Equals.length:Int)≤20)))],[],[(0,.sl rR0 decls_),(1,.sl rR1 g_.Diffs),(2,.sl (rP (rI .i64) (rI .i64)) g_.Equals)],4⟩ J 6 (wn ?_))
    cases h
    exact we J Tryz.func154 [] Q Q Q Q
   refine wy 84 hc Q (wx ⟨[(4,.O false)],[],[(0,.sl rR0 decls_),(1,.sl rR1 g_.Diffs),(2,.sl (rP (rI .i64) (rI .i64)) g_.Equals)],4⟩ J 6 (wn ?_))
   cases h
   exact we J Tryz.func154 [] Q Q Q Q
  refine wo ?_
  refine wI (σ:=Int) (fun st=>(zz32 decls_ g_.Diffs g_.Equals [(0,.S 0),(3,.B 3 0),(8,.I st)])) (fun n st=>z154_l2 N decls_ g_ n st) (r:=r) (fun _=>rfl) ?_ (fun ih=>?_)
  ·intro n3 ih5
   intro d h
   replace h:z154_l2 N decls_ g_ (n3+1) d=some r:=h
   unfold z154_l2 at h
   refine wq (wq (wg (wx (zz32 decls_ g_.Diffs g_.Equals [(0,.S 0),(3,.B 3 0),(8,.I d),(57,.O (decide (d < (g_.Equals.length:Int))))]) J 5 (wn ?_))))
   rcases oc' h with ⟨hc,h⟩ | ⟨hc,h⟩
   ·exact wf hc Q (wz rfl (wu [] (j3 () h) Q Q Q Q))
   refine wt hc Q (wi (wq (wo (wq (wg (xw (rg 4 16) (zz32 decls_ g_.Diffs g_.Equals [(0,.S 0),(3,.B 3 0),(8,.I d),(60,.S 0),(62,.S 2),(63,.I d)]) J 4 ?_))))))
   obtain ⟨e,f,h⟩:=ob h
   refine wj (oP (oI .i64) (oI .i64)) J f Q Q Q Q Q Q Q Q Q (WPr.axp (len:=2) (el:=3) (es:=1) 0 Q Q Q Q Q (by kernel_rfl) (by kernel_rfl) Q Q (Or.inl ⟨_,rfl⟩) Q Q (xw (rg 7 13) (zz109 decls_ g_.Diffs g_.Equals [(0,.S 0),(3,.B 3 0),(8,.I d),(60,.S 0),(66,.I e.1)]) J 1 ?_))
   obtain ⟨g,i,h⟩:=ob h
   refine wc (z172_ct N decls_ e.1 _ i) [(0,.sl 0)] [] Q Q Q Q Q Q Q Q (.inl rfl) rfl (xw (rg 10 10) (zz109 decls_ g_.Diffs g_.Equals [(0,.S 0),(3,.B 3 0),(8,.I d),(69,.O (!g))]) J 2 ?_)
   rcases oc h with ⟨hc,h⟩ | ⟨hc,h⟩
   ·refine wy 69 hc Q (wx (zz109 decls_ g_.Diffs g_.Equals [(0,.S 0),(3,.B 3 0),(8,.I d),(79,.O true)]) J 10 (wn (wt Q Q (wq (wg (ws J 1 Q (wn ?_)))))))
    cases h
    exact we J Tryz.func154 [] Q Q Q Q
   refine wy 69 hc Q (xw (rg 14 6) (zz109 decls_ g_.Diffs g_.Equals [(0,.S 0),(3,.B 3 0),(8,.I d),(69,.O false),(70,.S 0),(72,.S 2),(73,.I d)]) J 4 ?_)
   obtain ⟨j,k,h⟩:=ob h
   refine wj (oP (oI .i64) (oI .i64)) J k Q Q Q Q Q Q Q Q Q (WPr.axp (len:=2) (el:=3) (es:=1) 1 Q Q Q Q Q (by kernel_rfl) (by kernel_rfl) Q Q (Or.inl ⟨_,rfl⟩) Q Q (xw [17,18,19] (zz37 decls_ g_.Diffs g_.Equals [(0,.S 0),(3,.B 3 0),(8,.I d),(69,.O false),(70,.S 0),(76,.I j.2)]) J 1 ?_))
   obtain ⟨l,m,h⟩:=ob h
   refine wc (z172_ct N decls_ j.2 _ m) [(0,.sl 0)] [] Q Q Q Q Q Q Q Q (.inl rfl) rfl (wx (zz37 decls_ g_.Diffs g_.Equals [(0,.S 0),(3,.B 3 0),(8,.I d),(79,.O (!l))]) J 2 (wn ?_))
   rcases oc h with ⟨hc,h⟩ | ⟨hc,h⟩
   ·refine wt hc Q (wq (wg (ws J 1 Q (wn ?_))))
    cases h
    exact we J Tryz.func154 [] Q Q Q Q
   exact wf hc Q (wi (wb (wg (wx (zz37 decls_ g_.Diffs g_.Equals [(0,.S 0),(3,.B 3 0),(8,.I (w64 (d+1)))]) J 3 (wn (wu [] (ih5 (w64 (d+1)) h) Q Q Q Q))))))
  exact wu [] (ih N 0 h) Q Q Q Q
 refine wo ?_
 refine wI (σ:=Int) (fun st=>(zz32 decls_ g_.Diffs g_.Equals [(0,.S 0),(3,.B 3 0),(5,.I x1),(6,.I st)])) (fun n st=>z154_l4 N decls_ g_ x1 n st) (r:=r) (fun _=>rfl) ?_ (fun ih=>?_)
 ·intro n4 ih6
  intro o h
  replace h:z154_l4 N decls_ g_ x1 (n4+1) o=some r:=h
  unfold z154_l4 at h
  refine wq (wq (wg (wx (zz32 decls_ g_.Diffs g_.Equals [(0,.S 0),(3,.B 3 0),(5,.I x1),(6,.I o),(15,.O (decide (o < (g_.Diffs.length:Int))))]) J 5 (wn ?_))))
  rcases oc' h with ⟨hc,h⟩ | ⟨hc,h⟩
  ·exact wf hc Q (wz rfl (wu [] (j1 () h) Q Q Q Q))
  refine wt hc Q (wi (wq (wo (wq (wg (xw [3,4,5,6] (zz32 decls_ g_.Diffs g_.Equals [(0,.S 0),(3,.B 3 0),(5,.I x1),(6,.I o),(19,.S 1),(20,.I o)]) J 3 ?_))))))
  obtain ⟨p,q,h⟩:=ob h
  refine wj oO1 J q Q Q Q Q Q Q Q Q Q (wx (zz64 p decls_ g_.Diffs g_.Equals [(0,.S 0),(3,.B 3 0),(5,.I x1),(6,.I o),(7,.B 5 0)]) J 3 (wn (wq (wg (xw (rg 4 26) (zz64 p decls_ g_.Diffs g_.Equals [(0,.S 0),(3,.B 3 0),(5,.I x1),(6,.I o),(7,.B 5 0),(26,.O (decide (p.X < (-1))))]) J 4 ?_)))))
  rcases oc h with ⟨hc,h⟩ | ⟨hc,h⟩
  ·refine wy 26 hc Q (wx (zz37 decls_ g_.Diffs g_.Equals [(0,.S 0),(3,.B 3 0),(5,.I x1),(6,.I o),(52,.O true)]) J 26 (wn (wt Q Q (wq (wg (ws J 1 Q (wn ?_)))))))
   cases h
   exact we J Tryz.func154 [] Q Q Q Q
  refine wy 26 hc Q (xw (rg 10 20) (zz64 p decls_ g_.Diffs g_.Equals [(0,.S 0),(3,.B 3 0),(5,.I x1),(6,.I o),(7,.B 5 0),(32,.O (decide (p.X≥x1)))]) J 6 ?_)
  rcases oc h with ⟨hc,h⟩ | ⟨hc,h⟩
  ·refine wy 32 hc Q (wx (zz37 decls_ g_.Diffs g_.Equals [(0,.S 0),(3,.B 3 0),(5,.I x1),(6,.I o),(52,.O true)]) J 20 (wn (wt Q Q (wq (wg (ws J 1 Q (wn ?_)))))))
   cases h
   exact we J Tryz.func154 [] Q Q Q Q
  refine wy 32 hc Q (xw (rg 15 15) (zz64 p decls_ g_.Diffs g_.Equals [(0,.S 0),(3,.B 3 0),(5,.I x1),(6,.I o),(7,.B 5 0),(37,.O (decide (p.Y < (-1))))]) J 5 ?_)
  rcases oc h with ⟨hc,h⟩ | ⟨hc,h⟩
  ·refine wy 37 hc Q (wx (zz37 decls_ g_.Diffs g_.Equals [(0,.S 0),(3,.B 3 0),(5,.I x1),(6,.I o),(52,.O true)]) J 15 (wn (wt Q Q (wq (wg (ws J 1 Q (wn ?_)))))))
   cases h
   exact we J Tryz.func154 [] Q Q Q Q
  refine wy 37 hc Q (xw (rg 21 9) (zz64 p decls_ g_.Diffs g_.Equals [(0,.S 0),(3,.B 3 0),(5,.I x1),(6,.I o),(7,.B 5 0),(43,.O (decide (p.Y≥x1)))]) J 6 ?_)
  rcases oc h with ⟨hc,h⟩ | ⟨hc,h⟩
  ·refine wy 43 hc Q (wx (zz37 decls_ g_.Diffs g_.Equals [(0,.S 0),(3,.B 3 0),(5,.I x1),(6,.I o),(52,.O true)]) J 9 (wn (wt Q Q (wq (wg (ws J 1 Q (wn ?_)))))))
   cases h
   exact we J Tryz.func154 [] Q Q Q Q
  refine wy 43 hc Q (xw [26,27,28,29] (zz64 p decls_ g_.Diffs g_.Equals [(0,.S 0),(3,.B 3 0),(5,.I x1),(6,.I o),(7,.B 5 0),(48,.O (decide (p.C < (-20000))))]) J 5 ?_)
  rcases oc h with ⟨hc,h⟩ | ⟨hc,h⟩
  ·refine wy 48 hc Q (wx (zz37 decls_ g_.Diffs g_.Equals [(0,.S 0),(3,.B 3 0),(5,.I x1),(6,.I o),(52,.O true)]) J 4 (wn (wt Q Q (wq (wg (ws J 1 Q (wn ?_)))))))
   cases h
   exact we J Tryz.func154 [] Q Q Q Q
  refine wy 48 hc Q (wx (zz37 decls_ g_.Diffs g_.Equals [(0,.S 0),(3,.B 3 0),(5,.I x1),(6,.I o),(52,.O (decide (p.C > 20000)))]) J 4 (wn ?_))
  rcases oc h with ⟨hc,h⟩ | ⟨hc,h⟩
  ·refine wt hc Q (wq (wg (ws J 1 Q (wn ?_))))
   cases h
   exact we J Tryz.func154 [] Q Q Q Q
  exact wf hc Q (wi (wb (wg (wx (zz37 decls_ g_.Diffs g_.Equals [(0,.S 0),(3,.B 3 0),(5,.I x1),(6,.I (w64 (o+1)))]) J 3 (wn (wu [] (ih6 (w64 (o+1)) h) Q Q Q Q))))))
 exact wu [] (ih N 0 h) Q Q Q Q
theorem z113_ct (N:Nat) (decls_:(List T0)) (r:Bool) (h:z113 N decls_=some r) :
 Fn Tryz.prog 113 ⟨1,[.S 0],[(0,.sl rR0 decls_)],[],1,.O r,[],[]⟩:=by
 refine Fn.intro _ _ Tryz.func113 rfl (by kernel_rfl) rfl (fun E F w=>?_)
 unfold z113 at h
 refine wq (wg (ws J 1 Q (wn (wq (wq (wg (xw [4,5,6,7] (zz10 decls_ [(0,.S 0),(2,.O false),(12,.O (decide ((decls_.length:Int) > 40)))]) J 4 ?_)))))))
 rcases oc h with ⟨hc,h⟩ | ⟨hc,h⟩
 ·refine wy 12 hc Q (wx (zz10 decls_ [(0,.S 0),(2,.O false),(16,.O true)]) J 4 (wn (wt Q Q (wq (wg (ws J 1 Q (wn ?_)))))))
  cases h
  exact we J Tryz.func113 [] Q Q Q Q
 refine wy 12 hc Q (ws J 1 Q ?_)
 obtain ⟨x1,d,h⟩:=ob h
 refine wc (z151_ct N decls_ _ d) [(0,.sl 0)] [] Q Q Q Q Q Q Q Q (.inl rfl) rfl (wx (zz10 decls_ [(0,.S 0),(2,.O false),(16,.O (decide (x1 > 24)))]) J 2 (wn ?_))
 rcases oc h with ⟨hc,h⟩ | ⟨hc,h⟩
 ·refine wt hc Q (wq (wg (ws J 1 Q (wn ?_))))
  cases h
  exact we J Tryz.func113 [] Q Q Q Q
 refine wf hc Q (wi (wq (wg (ws J 1 Q (wn (wq (wq (wg (ws J 1 Q (wn ?_))))))))))
 refine wC (σ:=Unit) (fun st=>(zz10 decls_ [])) (fun st=>z113_k1=some r) ?_ (fun j1=>?_)
 ·intro _ h
  replace h:z113_k1=some r:=h
  unfold z113_k1 at h
  refine wq (wg (ws J 1 Q (wn ?_)))
  cases h
  exact we J Tryz.func113 [] Q Q Q Q
 refine wo ?_
 refine wI (σ:=Int × Int) (fun st=>(zz10 decls_ [(0,.S 0),(3,.I st.1),(4,.I st.2)])) (fun n st=>z113_l2 N decls_ n st.1 st.2) (r:=r) (fun _=>rfl) ?_ (fun ih=>?_)
 ·intro n82 ih75
  rintro ⟨e,f⟩ h
  replace h:z113_l2 N decls_ (n82+1) e f=some r:=h
  unfold z113_l2 at h
  refine wq (wq (wg (wx (zz10 decls_ [(0,.S 0),(3,.I e),(4,.I f),(20,.O (decide (f < (decls_.length:Int))))]) J 4 (wn ?_))))
  rcases oc' h with ⟨hc,h⟩ | ⟨hc,h⟩
  ·exact wf hc Q (wz rfl (wu [] (j1 () h) Q Q Q Q))
  refine wt hc Q (wi (wq (wo (wq (wg (ws J 2 Q ?_))))))
  obtain ⟨g,i,h⟩:=ob h
  refine wj oO0 J i Q Q Q Q Q Q Q Q Q (wx (zz24 g decls_ [(0,.S 0),(3,.I e),(4,.I f),(5,.B 5 0)]) J 3 (wn (wq (wq (wg (ws J 1 Q (wn ?_)))))))
  refine wC (σ:=Unit) (fun st=>(zz24 g decls_ [(0,.S 0),(3,.I e),(4,.I f),(5,.B 5 0)])) (fun st=>z113_k7 N decls_ e f (z113_l2 N decls_ n82) g=some r) ?_ (fun j124=>?_)
  ·intro _ h
   replace h:z113_k7 N decls_ e f (z113_l2 N decls_ n82) g=some r:=h
   unfold z113_k7 at h
   refine wq (wq (wg (ws J 1 Q (wn ?_))))
   refine wC (σ:=Unit) (fun st=>(zz24 g decls_ [(0,.S 0),(3,.I e),(4,.I f),(5,.B 5 0)])) (fun st=>z113_k3 N decls_ e f (z113_l2 N decls_ n82) g=some r) ?_ (fun j126=>?_)
   ·intro _ h
    replace h:z113_k3 N decls_ e f (z113_l2 N decls_ n82) g=some r:=h
    unfold z113_k3 at h
    refine wq (wq (wg (ws J 2 Q ?_)))
    obtain ⟨j,k,h⟩:=ob h
    refine wc (z153_ct N g.Name _ k) [] [] Q Q Q Q Q Q Q Q (.inl rfl) rfl (xw (rg 5 18) (zz24 g decls_ [(0,.S 0),(3,.I e),(4,.I f),(5,.B 5 0),(87,.O (!j))]) J 2 ?_)
    rcases oc h with ⟨hc,h⟩ | ⟨hc,h⟩
    ·refine wy 87 hc Q (wx (zz24 g decls_ [(0,.S 0),(3,.I e),(4,.I f),(5,.B 5 0),(105,.O true)]) J 18 (wn (wt Q Q (wq (wg (ws J 1 Q (wn ?_)))))))
     cases h
     exact we J Tryz.func113 [] Q Q Q Q
    refine wy 87 hc Q (xw (rg 11 12) (zz24 g decls_ [(0,.S 0),(3,.I e),(4,.I f),(5,.B 5 0),(93,.O (decide ((g.Fields.length:Int) > 4)))]) J 6 ?_)
    rcases oc h with ⟨hc,h⟩ | ⟨hc,h⟩
    ·refine wy 93 hc Q (wx (zz24 g decls_ [(0,.S 0),(3,.I e),(4,.I f),(5,.B 5 0),(105,.O true)]) J 12 (wn (wt Q Q (wq (wg (ws J 1 Q (wn ?_)))))))
     cases h
     exact we J Tryz.func113 [] Q Q Q Q
    refine wy 93 hc Q (xw (rg 17 6) (zz24 g decls_ [(0,.S 0),(3,.I e),(4,.I f),(5,.B 5 0),(99,.O (g.First != e))]) J 6 ?_)
    rcases oc h with ⟨hc,h⟩ | ⟨hc,h⟩
    ·refine wy 99 hc Q (wx (zz24 g decls_ [(0,.S 0),(3,.I e),(4,.I f),(5,.B 5 0),(105,.O true)]) J 6 (wn (wt Q Q (wq (wg (ws J 1 Q (wn ?_)))))))
     cases h
     exact we J Tryz.func113 [] Q Q Q Q
    refine wy 99 hc Q (xw [20,21,22] (zz24 g decls_ [(0,.S 0),(3,.I e),(4,.I f),(5,.B 5 0),(99,.O false),(100,.S 0),(102,.a [.sl 3,.sl 4])]) J 3 ?_)
    obtain ⟨l,m,h⟩:=ob h
    refine wc (z154_ct N decls_ g.Guard _ m) [(0,.sl 0),(1,.sl 3),(2,.sl 4)] [] Q Q Q Q Q Q Q Q (.inl rfl) rfl (wx (zz24 g decls_ [(0,.S 0),(3,.I e),(4,.I f),(5,.B 5 0),(105,.O (!l))]) J 2 (wn ?_))
    rcases oc h with ⟨hc,h⟩ | ⟨hc,h⟩
    ·refine wt hc Q (wq (wg (ws J 1 Q (wn ?_))))
     cases h
     exact we J Tryz.func113 [] Q Q Q Q
    exact wf hc Q (wi (wg (wx ⟨[(0,.S 0),(3,.I (w64 (e+(g.Fields.length:Int)))),(4,.I f)],[],[(0,.sl rR0 decls_)],6⟩ J 6 (wn (wb (wg (wx ⟨[(0,.S 0),(3,.I (w64 (e+(g.Fields.length:Int)))),(4,.I (w64 (f+1)))],[],[(0,.sl rR0 decls_)],6⟩ J 3 (wn (wu [] (ih75 ((w64 (e+(g.Fields.length:Int))),(w64 (f+1))) h) Q Q Q Q)))))))))
   refine wo ?_
   refine wI (σ:=Int) (fun st=>(zz24 g decls_ [(0,.S 0),(3,.I e),(4,.I f),(5,.B 5 0),(7,.I st)])) (fun n st=>z113_l4 N decls_ e f (z113_l2 N decls_ n82) g n st) (r:=r) (fun _=>rfl) ?_ (fun ih=>?_)
   ·intro n95 ih137
    intro o h
    replace h:z113_l4 N decls_ e f (z113_l2 N decls_ n82) g (n95+1) o=some r:=h
    unfold z113_l4 at h
    refine wq (wq (wg (wx (zz24 g decls_ [(0,.S 0),(3,.I e),(4,.I f),(5,.B 5 0),(7,.I o),(44,.O (decide (o < (g.Fields.length:Int))))]) J 5 (wn ?_))))
    rcases oc' h with ⟨hc,h⟩ | ⟨hc,h⟩
    ·exact wf hc Q (wz rfl (wu [] (j126 () h) Q Q Q Q))
    refine wt hc Q (wi (wq (wo (wq (wq (wg (xw (rg 3 15) (zz24 g decls_ [(0,.S 0),(3,.I e),(4,.I f),(5,.B 5 0),(7,.I o),(48,.S 2),(49,.I o)]) J 3 ?_)))))))
    obtain ⟨p,q,h⟩:=ob h
    refine wj oO3 J q Q Q Q Q Q Q Q Q Q (xw (rg 6 12) (zz110 g decls_ [(0,.S 0),(3,.I e),(4,.I f),(5,.B 5 0),(7,.I o),(52,.a (cC7 p.Sort'))]) J 2 ?_)
    obtain ⟨t,u,h⟩:=ob h
    refine wc (z152_ct N p.Sort' _ u) [] [] Q Q Q Q Q Q Q Q (.inl rfl) rfl (xw (rg 9 9) (zz110 g decls_ [(0,.S 0),(3,.I e),(4,.I f),(5,.B 5 0),(7,.I o),(55,.O (!t))]) J 2 ?_)
    rcases oc h with ⟨hc,h⟩ | ⟨hc,h⟩
    ·refine wy 55 hc Q (wx (zz110 g decls_ [(0,.S 0),(3,.I e),(4,.I f),(5,.B 5 0),(7,.I o),(64,.O true)]) J 9 (wn (wt Q Q (wq (wg (ws J 1 Q (wn ?_)))))))
     cases h
     exact we J Tryz.func113 [] Q Q Q Q
    refine wy 55 hc Q (xw (rg 12 6) (zz110 g decls_ [(0,.S 0),(3,.I e),(4,.I f),(5,.B 5 0),(7,.I o),(55,.O false),(57,.S 2),(58,.I o)]) J 3 ?_)
    obtain ⟨v,x,h⟩:=ob h
    refine wj oO3 J x Q Q Q Q Q Q Q Q Q (xw [15,16,17] (zz58 g decls_ [(0,.S 0),(3,.I e),(4,.I f),(5,.B 5 0),(7,.I o),(55,.O false),(61,.c (.s v.Name))]) J 2 ?_)
    obtain ⟨y,z,h⟩:=ob h
    refine wc (z112_ct N v.Name _ z) [] [] Q Q Q Q Q Q Q Q (.inl rfl) rfl (wx (zz58 g decls_ [(0,.S 0),(3,.I e),(4,.I f),(5,.B 5 0),(7,.I o),(64,.O (!y))]) J 2 (wn ?_))
    rcases oc h with ⟨hc,h⟩ | ⟨hc,h⟩
    ·refine wt hc Q (wq (wg (ws J 1 Q (wn ?_))))
     cases h
     exact we J Tryz.func113 [] Q Q Q Q
    refine wf hc Q (wi (wq (wg (ws J 1 Q (wn ?_)))))
    refine wC (σ:=Unit) (fun st=>(zz58 g decls_ [(0,.S 0),(3,.I e),(4,.I f),(5,.B 5 0),(7,.I o)])) (fun st=>z113_k5 o (z113_l4 N decls_ e f (z113_l2 N decls_ n82) g n95)=some r) ?_ (fun j144=>?_)
    ·intro _ h
     replace h:z113_k5 o (z113_l4 N decls_ e f (z113_l2 N decls_ n82) g n95)=some r:=h
     unfold z113_k5 at h
     exact wb (wg (wx (zz58 g decls_ [(0,.S 0),(3,.I e),(4,.I f),(5,.B 5 0),(7,.I (w64 (o+1)))]) J 3 (wn (wu [] (ih137 (w64 (o+1)) h) Q Q Q Q))))
    refine wo ?_
    refine wI (σ:=Int) (fun st=>(zz58 g decls_ [(0,.S 0),(3,.I e),(4,.I f),(5,.B 5 0),(7,.I o),(8,.I st)])) (fun n st=>z113_l6 g o (z113_l4 N decls_ e f (z113_l2 N decls_ n82) g n95) n st) (r:=r) (fun _=>rfl) ?_ (fun ih=>?_)
    ·intro n97 ih146
     intro A h
     replace h:z113_l6 g o (z113_l4 N decls_ e f (z113_l2 N decls_ n82) g n95) (n97+1) A=some r:=h
     unfold z113_l6 at h
     refine wq (wq (wg (wx (zz58 g decls_ [(0,.S 0),(3,.I e),(4,.I f),(5,.B 5 0),(7,.I o),(8,.I A),(67,.O (decide (A < o)))]) J 3 (wn ?_))))
     rcases oc' h with ⟨hc,h⟩ | ⟨hc,h⟩
     ·exact wf hc Q (wz rfl (wu [] (j144 () h) Q Q Q Q))
     refine wt hc Q (wi (wq (wo (wq (wQ (by kernel_rfl) (by kernel_rfl) (xq (rg 3 10) (zz58 g decls_ [(0,.S 0),(3,.I e),(4,.I f),(5,.B 5 0),(7,.I o),(8,.I A),(71,.S 2),(72,.I A)]) J 3 ?_))))))
     obtain ⟨C,D,h⟩:=ob h
     refine WPq.op Q Q (VN.vs (VN.ix oO3 J D Q Q Q Q Q Q Q)) (xq [9,10,11,12] ⟨[(0,.S 0),(3,.I e),(4,.I f),(5,.B 5 0),(7,.I o),(8,.I A),(75,.c (.s C.Name)),(77,.S 2),(78,.I o)],[(5,.box (cC0 2 3 4 g) 94)],((0,.sl rR0 decls_)::vV0 2 3 4 g []),9⟩ J 5 ?_)
     obtain ⟨G,H,h⟩:=ob h
     refine WPq.op Q Q (VN.vs (VN.ix oO3 J H Q Q Q Q Q Q Q)) (qx (zz111 g decls_ [(0,.S 0),(3,.I e),(4,.I f),(5,.B 5 0),(7,.I o),(8,.I A),(82,.O (C.Name.toList==G.Name.toList))]) J 3 (qn ?_))
     rcases oc h with ⟨hc,h⟩ | ⟨hc,h⟩
     ·refine wt hc Q (wq (wg (ws J 1 Q (wn ?_))))
      cases h
      exact we J Tryz.func113 [] Q Q Q Q
     exact wf hc Q (wi (wb (wg (wx (zz111 g decls_ [(0,.S 0),(3,.I e),(4,.I f),(5,.B 5 0),(7,.I o),(8,.I (w64 (A+1)))]) J 3 (wn (wu [] (ih146 (w64 (A+1)) h) Q Q Q Q))))))
    exact wu [] (ih N 0 h) Q Q Q Q
   exact wu [] (ih N 0 h) Q Q Q Q
  refine wo ?_
  refine wI (σ:=Int) (fun st=>(zz24 g decls_ [(0,.S 0),(3,.I e),(4,.I f),(5,.B 5 0),(6,.I st)])) (fun n st=>z113_l8 N decls_ e f (z113_l2 N decls_ n82) g n st) (r:=r) (fun _=>rfl) ?_ (fun ih=>?_)
  ·intro n98 ih147
   intro K h
   replace h:z113_l8 N decls_ e f (z113_l2 N decls_ n82) g (n98+1) K=some r:=h
   unfold z113_l8 at h
   refine wq (wq (wg (wx (zz24 g decls_ [(0,.S 0),(3,.I e),(4,.I f),(5,.B 5 0),(6,.I K),(29,.O (decide (K < f)))]) J 3 (wn ?_))))
   rcases oc' h with ⟨hc,h⟩ | ⟨hc,h⟩
   ·exact wf hc Q (wz rfl (wu [] (j124 () h) Q Q Q Q))
   refine wt hc Q (wi (wq (wo (wq (wQ (by kernel_rfl) (by kernel_rfl) (WPq.sil J 2 rfl ?_))))))
   obtain ⟨R,T,h⟩:=ob h
   refine WPq.op Q Q (VN.vs (VN.ix oO0 J T Q Q Q Q Q Q Q)) (qx (zz111 g decls_ [(0,.S 0),(3,.I e),(4,.I f),(5,.B 5 0),(6,.I K),(39,.O (R.Name.toList==g.Name.toList))]) J 5 (qn ?_))
   rcases oc h with ⟨hc,h⟩ | ⟨hc,h⟩
   ·refine wt hc Q (wq (wg (ws J 1 Q (wn ?_))))
    cases h
    exact we J Tryz.func113 [] Q Q Q Q
   exact wf hc Q (wi (wb (wg (wx (zz111 g decls_ [(0,.S 0),(3,.I e),(4,.I f),(5,.B 5 0),(6,.I (w64 (K+1)))]) J 3 (wn (wu [] (ih147 (w64 (K+1)) h) Q Q Q Q))))))
  exact wu [] (ih N 0 h) Q Q Q Q
 exact wu [] (ih N (0,0) h) Q Q Q Q
theorem z51_ct (N:Nat) (g_:T4) (r:Bool) (h:z51 N g_=some r) :
 Fn Tryz.prog 51 ⟨4,[.a (cC4 0 1 2 3 g_)],(vV4 0 1 2 3 g_ []),[],4,.O r,[],[]⟩:=by
 refine Fn.intro _ _ Tryz.func51 rfl (by kernel_rfl) rfl (fun E F w=>?_)
 unfold z51 at h
 refine wq (wg (ws J 2 Q (wn (wq (wq (wg (wx (zz2 g_ [(1,.B 4 0),(2,.O false),(3,.I 0)]) J 1 (wn ?_))))))))
 refine wC (σ:=Unit) (fun st=>(zz2 g_ [(1,.B 4 0)])) (fun st=>z51_k1 N g_=some r) ?_ (fun j1=>?_)
 ·intro _ h
  replace h:z51_k1 N g_=some r:=h
  unfold z51_k1 at h
  refine wq (wg (ws J 2 Q ?_))
  obtain ⟨c,d,h⟩:=ob h
  refine wc (z112_ct N g_.Name _ d) [] [] Q Q Q Q Q Q Q Q (.inl rfl) rfl (xw (rg 4 17) (zz2 g_ [(1,.B 4 0),(33,.O c)]) J 1 ?_)
  rcases oc' h with ⟨hc,h⟩ | ⟨hc,h⟩
  ·refine wy 33 hc Q (wx (zz7 g_ [(2,.O false)]) J 17 (wn ?_))
   cases h
   exact we J Tryz.func51 [] Q Q Q Q
  refine wy 33 hc Q (xw (rg 10 11) (zz2 g_ [(1,.B 4 0),(39,.O (decide ((g_.Roles.length:Int)≥1)))]) J 6 ?_)
  rcases oc' h with ⟨hc,h⟩ | ⟨hc,h⟩
  ·refine wy 39 hc Q (wx (zz7 g_ [(2,.O false)]) J 11 (wn ?_))
   cases h
   exact we J Tryz.func51 [] Q Q Q Q
  refine wy 39 hc Q (xw [16,17,18,19,20] (zz2 g_ [(1,.B 4 0),(45,.O (decide ((g_.Roles.length:Int)≤6)))]) J 6 ?_)
  rcases oc' h with ⟨hc,h⟩ | ⟨hc,h⟩
  ·refine wy 45 hc Q (wx (zz7 g_ [(2,.O false)]) J 5 (wn ?_))
   cases h
   exact we J Tryz.func51 [] Q Q Q Q
  refine wy 45 hc Q (ws J 2 Q ?_)
  obtain ⟨e,f,h⟩:=ob h
  refine wc (z113_ct N g_.Decls _ f) [(0,.sl 1)] [] Q Q Q Q Q Q Q Q (.inl rfl) rfl (wx (zz7 g_ [(2,.O e)]) J 2 (wn ?_))
  cases h
  exact we J Tryz.func51 [] Q Q Q Q
 refine wo ?_
 refine wI (σ:=Int) (fun st=>(zz2 g_ [(1,.B 4 0),(3,.I st)])) (fun n st=>z51_l2 N g_ n st) (r:=r) (fun _=>rfl) ?_ (fun ih=>?_)
 ·intro n2 ih3
  intro g h
  replace h:z51_l2 N g_ (n2+1) g=some r:=h
  unfold z51_l2 at h
  refine wq (wq (wg (wx (zz2 g_ [(1,.B 4 0),(3,.I g),(8,.O (decide (g < (g_.Roles.length:Int))))]) J 5 (wn ?_))))
  rcases oc' h with ⟨hc,h⟩ | ⟨hc,h⟩
  ·exact wf hc Q (wz rfl (wu [] (j1 () h) Q Q Q Q))
  refine wt hc Q (wi (wq (wo (wq (wQ (by kernel_rfl) (by kernel_rfl) (xq (rg 3 16) (zz2 g_ [(1,.B 4 0),(3,.I g),(12,.S 0),(13,.I g)]) J 3 ?_))))))
  obtain ⟨i,j,h⟩:=ob h
  refine WPq.op Q Q (VN.vs (VN.ix oS J j Q Q Q Q Q Q Q)) (WPq.sil J 1 rfl ?_)
  obtain ⟨k,l,h⟩:=ob h
  refine qc (z112_ct N i _ l) [] [] Q Q Q Q Q Q Q Q Q Q Q Q (xq (rg 8 11) (zz42 g_ [(1,.B 4 0),(3,.I g),(18,.O (!k))]) J 2 ?_)
  rcases oc h with ⟨hc,h⟩ | ⟨hc,h⟩
  ·refine qy 18 hc Q (qx (zz42 g_ [(1,.B 4 0),(3,.I g),(29,.O true)]) J 11 (qn (wt Q Q (wq (wg (ws J 1 Q (wn ?_)))))))
   cases h
   exact we J Tryz.func51 [] Q Q Q Q
  refine qy 18 hc Q (xq (rg 13 6) (zz42 g_ [(1,.B 4 0),(3,.I g),(18,.O false),(20,.S 0),(22,.S 0),(23,.I g)]) J 5 ?_)
  obtain ⟨m,o,h⟩:=ob h
  refine WPq.op Q Q (VN.vs (VN.ix oS J o Q Q Q Q Q Q Q)) (WPq.sil J 1 rfl ?_)
  obtain ⟨p,q,h⟩:=ob h
  refine qc (z76_ct N g_.Roles m _ q) [(0,.sl 0)] [] Q Q Q Q Q Q Q Q Q Q Q Q (qx (zz14 g_ [(1,.B 4 0),(3,.I g),(29,.O (decide (p < g)))]) J 3 (qn ?_))
  rcases oc h with ⟨hc,h⟩ | ⟨hc,h⟩
  ·refine wt hc Q (wq (wg (ws J 1 Q (wn ?_))))
   cases h
   exact we J Tryz.func51 [] Q Q Q Q
  exact wf hc Q (wi (wb (wg (wx (zz14 g_ [(1,.B 4 0),(3,.I (w64 (g+1)))]) J 3 (wn (wu [] (ih3 (w64 (g+1)) h) Q Q Q Q))))))
 exact wu [] (ih N 0 h) Q Q Q Q
theorem z114_ct (N:Nat) (g_:T4) (s_:Int) (r:Bool) (h:z114 N g_ s_=some r) :
 Fn Tryz.prog 114 ⟨4,[.a (cC4 0 1 2 3 g_),.I s_],(vV4 0 1 2 3 g_ []),[],4,.O r,[],[]⟩:=by
 refine Fn.intro _ _ Tryz.func114 rfl (by kernel_rfl) rfl (fun E F w=>?_)
 unfold z114 at h
 refine wq (wg (ws J 2 Q (wn (wq (wg (xw (rg 3 6) (zz2 g_ [(1,.I s_),(2,.B 4 0),(7,.O (decide (s_≥0)))]) J 3 ?_))))))
 rcases oc h with ⟨hc,h⟩ | ⟨hc,h⟩
 ·refine wy 7 hc Q (wx (zz7 g_ [(4,.O (decide (s_ < g_.States)))]) J 6 (wn ?_))
  cases h
  exact we J Tryz.func114 [] Q Q Q Q
 refine wy 7 hc Q (wx (zz7 g_ [(4,.O false)]) J 6 (wn ?_))
 cases h
 exact we J Tryz.func114 [] Q Q Q Q
theorem z52_ct (N:Nat) (g_:T4) (r:Bool) (h:z52 N g_=some r) :
 Fn Tryz.prog 52 ⟨4,[.a (cC4 0 1 2 3 g_)],(vV4 0 1 2 3 g_ []),[],4,.O r,[],[]⟩:=by
 refine Fn.intro _ _ Tryz.func52 rfl (by kernel_rfl) rfl (fun E F w=>?_)
 unfold z52 at h
 refine wq (wg (ws J 2 Q (wn (wq (wq (wg (wx (zz2 g_ [(1,.B 4 0),(2,.O false),(3,.I 0)]) J 1 (wn ?_))))))))
 refine wC (σ:=Unit) (fun st=>(zz2 g_ [(1,.B 4 0)])) (fun st=>z52_k1 N g_=some r) ?_ (fun j1=>?_)
 ·intro _ h
  replace h:z52_k1 N g_=some r:=h
  unfold z52_k1 at h
  refine wq (wg (xw (rg 4 23) (zz2 g_ [(1,.B 4 0),(86,.O (decide (g_.States≥1)))]) J 4 ?_))
  rcases oc' h with ⟨hc,h⟩ | ⟨hc,h⟩
  ·refine wy 86 hc Q (wx (zz7 g_ [(2,.O false)]) J 23 (wn ?_))
   cases h
   exact we J Tryz.func52 [] Q Q Q Q
  refine wy 86 hc Q (xw (rg 9 18) (zz2 g_ [(1,.B 4 0),(91,.O (decide (g_.States≤200)))]) J 5 ?_)
  rcases oc' h with ⟨hc,h⟩ | ⟨hc,h⟩
  ·refine wy 91 hc Q (wx (zz7 g_ [(2,.O false)]) J 18 (wn ?_))
   cases h
   exact we J Tryz.func52 [] Q Q Q Q
  refine wy 91 hc Q (xw (rg 12 15) (zz2 g_ [(1,.B 4 0),(91,.O true),(92,.a (cC4 0 1 2 3 g_)),(94,.I g_.Start)]) J 3 ?_)
  obtain ⟨c,d,h⟩:=ob h
  refine wc (z114_ct N g_ g_.Start _ d) [(0,.sl 0),(1,.sl 1),(2,.sl 2),(3,.sl 3)] [] Q Q Q Q Q Q Q Q (.inl rfl) rfl (xw (rg 15 12) (zz2 g_ [(1,.B 4 0),(97,.O c)]) J 2 ?_)
  rcases oc' h with ⟨hc,h⟩ | ⟨hc,h⟩
  ·refine wy 97 hc Q (wx (zz7 g_ [(2,.O false)]) J 12 (wn ?_))
   cases h
   exact we J Tryz.func52 [] Q Q Q Q
  refine wy 97 hc Q (xw (rg 18 9) (zz2 g_ [(1,.B 4 0),(97,.O true),(98,.a (cC4 0 1 2 3 g_)),(100,.I g_.End)]) J 3 ?_)
  obtain ⟨e,f,h⟩:=ob h
  refine wc (z114_ct N g_ g_.End _ f) [(0,.sl 0),(1,.sl 1),(2,.sl 2),(3,.sl 3)] [] Q Q Q Q Q Q Q Q (.inl rfl) rfl (xw (rg 21 6) (zz2 g_ [(1,.B 4 0),(103,.O e)]) J 2 ?_)
  rcases oc h with ⟨hc,h⟩ | ⟨hc,h⟩
  ·refine wy 103 hc Q (wx (zz7 g_ [(2,.O (decide ((g_.Edges.length:Int)≤400)))]) J 6 (wn ?_))
   cases h
   exact we J Tryz.func52 [] Q Q Q Q
  refine wy 103 hc Q (wx (zz7 g_ [(2,.O false)]) J 6 (wn ?_))
  cases h
  exact we J Tryz.func52 [] Q Q Q Q
 refine wo ?_
 refine wI (σ:=Int) (fun st=>(zz2 g_ [(1,.B 4 0),(3,.I st)])) (fun n st=>z52_l2 N g_ n st) (r:=r) (fun _=>rfl) ?_ (fun ih=>?_)
 ·intro n2 ih3
  intro g h
  replace h:z52_l2 N g_ (n2+1) g=some r:=h
  unfold z52_l2 at h
  refine wq (wq (wg (wx (zz2 g_ [(1,.B 4 0),(3,.I g),(9,.O (decide (g < (g_.Edges.length:Int))))]) J 5 (wn ?_))))
  rcases oc' h with ⟨hc,h⟩ | ⟨hc,h⟩
  ·exact wf hc Q (wz rfl (wu [] (j1 () h) Q Q Q Q))
  refine wt hc Q (wi (wq (wo (wq (wg (xw [3,4,5,6] (zz2 g_ [(1,.B 4 0),(3,.I g),(13,.S 2),(14,.I g)]) J 3 ?_))))))
  obtain ⟨i,j,h⟩:=ob h
  refine wj oO2 J j Q Q Q Q Q Q Q Q Q (wx (zz6 g_ i [(1,.B 4 0),(3,.I g),(4,.B 6 0)]) J 3 (wn (wq (wg (xw (rg 3 63) (zz6 g_ i [(1,.B 4 0),(3,.I g),(4,.B 6 0),(17,.a (cC4 0 1 2 3 g_)),(19,.I i.From)]) J 3 ?_)))))
  obtain ⟨k,l,h⟩:=ob h
  refine wc (z114_ct N g_ i.From _ l) [(0,.sl 0),(1,.sl 1),(2,.sl 2),(3,.sl 3)] [] Q Q Q Q Q Q Q Q (.inl rfl) rfl (xw (rg 6 60) (zz6 g_ i [(1,.B 4 0),(3,.I g),(4,.B 6 0),(22,.O (!k))]) J 2 ?_)
  rcases oc h with ⟨hc,h⟩ | ⟨hc,h⟩
  ·refine wy 22 hc Q (wx (zz14 g_ [(1,.B 4 0),(3,.I g),(82,.O true)]) J 60 (wn (wt Q Q (wq (wg (ws J 1 Q (wn ?_)))))))
   cases h
   exact we J Tryz.func52 [] Q Q Q Q
  refine wy 22 hc Q (xw (rg 9 57) (zz6 g_ i [(1,.B 4 0),(3,.I g),(4,.B 6 0),(22,.O false),(23,.a (cC4 0 1 2 3 g_)),(25,.I i.To)]) J 3 ?_)
  obtain ⟨m,o,h⟩:=ob h
  refine wc (z114_ct N g_ i.To _ o) [(0,.sl 0),(1,.sl 1),(2,.sl 2),(3,.sl 3)] [] Q Q Q Q Q Q Q Q (.inl rfl) rfl (xw (rg 13 53) (zz6 g_ i [(1,.B 4 0),(3,.I g),(4,.B 6 0),(29,.O (!m))]) J 3 ?_)
  rcases oc h with ⟨hc,h⟩ | ⟨hc,h⟩
  ·refine wy 29 hc Q (wx (zz14 g_ [(1,.B 4 0),(3,.I g),(82,.O true)]) J 53 (wn (wt Q Q (wq (wg (ws J 1 Q (wn ?_)))))))
   cases h
   exact we J Tryz.func52 [] Q Q Q Q
  refine wy 29 hc Q (xw (rg 19 47) (zz6 g_ i [(1,.B 4 0),(3,.I g),(4,.B 6 0),(35,.O (decide (i.Act.From < 0)))]) J 6 ?_)
  rcases oc h with ⟨hc,h⟩ | ⟨hc,h⟩
  ·refine wy 35 hc Q (wx (zz14 g_ [(1,.B 4 0),(3,.I g),(82,.O true)]) J 47 (wn (wt Q Q (wq (wg (ws J 1 Q (wn ?_)))))))
   cases h
   exact we J Tryz.func52 [] Q Q Q Q
  refine wy 35 hc Q (xw (rg 28 38) (zz6 g_ i [(1,.B 4 0),(3,.I g),(4,.B 6 0),(44,.O (decide (i.Act.From≥(g_.Roles.length:Int))))]) J 9 ?_)
  rcases oc h with ⟨hc,h⟩ | ⟨hc,h⟩
  ·refine wy 44 hc Q (wx (zz14 g_ [(1,.B 4 0),(3,.I g),(82,.O true)]) J 38 (wn (wt Q Q (wq (wg (ws J 1 Q (wn ?_)))))))
   cases h
   exact we J Tryz.func52 [] Q Q Q Q
  refine wy 44 hc Q (xw (rg 34 32) (zz6 g_ i [(1,.B 4 0),(3,.I g),(4,.B 6 0),(50,.O (decide (i.Act.To < 0)))]) J 6 ?_)
  rcases oc h with ⟨hc,h⟩ | ⟨hc,h⟩
  ·refine wy 50 hc Q (wx (zz14 g_ [(1,.B 4 0),(3,.I g),(82,.O true)]) J 32 (wn (wt Q Q (wq (wg (ws J 1 Q (wn ?_)))))))
   cases h
   exact we J Tryz.func52 [] Q Q Q Q
  refine wy 50 hc Q (xw (rg 43 23) (zz6 g_ i [(1,.B 4 0),(3,.I g),(4,.B 6 0),(59,.O (decide (i.Act.To≥(g_.Roles.length:Int))))]) J 9 ?_)
  rcases oc h with ⟨hc,h⟩ | ⟨hc,h⟩
  ·refine wy 59 hc Q (wx (zz14 g_ [(1,.B 4 0),(3,.I g),(82,.O true)]) J 23 (wn (wt Q Q (wq (wg (ws J 1 Q (wn ?_)))))))
   cases h
   exact we J Tryz.func52 [] Q Q Q Q
  refine wy 59 hc Q (xw (rg 52 14) (zz6 g_ i [(1,.B 4 0),(3,.I g),(4,.B 6 0),(68,.O (i.Act.From==i.Act.To))]) J 9 ?_)
  rcases oc h with ⟨hc,h⟩ | ⟨hc,h⟩
  ·refine wy 68 hc Q (wx (zz14 g_ [(1,.B 4 0),(3,.I g),(82,.O true)]) J 14 (wn (wt Q Q (wq (wg (ws J 1 Q (wn ?_)))))))
   cases h
   exact we J Tryz.func52 [] Q Q Q Q
  refine wy 68 hc Q (xw (rg 58 8) (zz6 g_ i [(1,.B 4 0),(3,.I g),(4,.B 6 0),(74,.O (decide (i.Act.Label < 0)))]) J 6 ?_)
  rcases oc h with ⟨hc,h⟩ | ⟨hc,h⟩
  ·refine wy 74 hc Q (wx (zz14 g_ [(1,.B 4 0),(3,.I g),(82,.O true)]) J 8 (wn (wt Q Q (wq (wg (ws J 1 Q (wn ?_)))))))
   cases h
   exact we J Tryz.func52 [] Q Q Q Q
  refine wy 74 hc Q (wx (zz14 g_ [(1,.B 4 0),(3,.I g),(82,.O (decide (i.Act.Label≥(g_.Decls.length:Int))))]) J 8 (wn ?_))
  rcases oc h with ⟨hc,h⟩ | ⟨hc,h⟩
  ·refine wt hc Q (wq (wg (ws J 1 Q (wn ?_))))
   cases h
   exact we J Tryz.func52 [] Q Q Q Q
  exact wf hc Q (wi (wb (wg (wx (zz14 g_ [(1,.B 4 0),(3,.I (w64 (g+1)))]) J 3 (wn (wu [] (ih3 (w64 (g+1)) h) Q Q Q Q))))))
 exact wu [] (ih N 0 h) Q Q Q Q
theorem z53_ct (N:Nat) (g_:T4) (r:Bool) (h:z53 N g_=some r) :
 Fn Tryz.prog 53 ⟨4,[.a (cC4 0 1 2 3 g_)],(vV4 0 1 2 3 g_ []),[],4,.O r,[],[]⟩:=by
 refine Fn.intro _ _ Tryz.func53 rfl (by kernel_rfl) rfl (fun E F w=>?_)
 unfold z53 at h
 refine wq (wg (ws J 2 Q (wn (wq (wq (wg (wx (zz2 g_ [(1,.B 4 0),(2,.O false),(3,.I 0)]) J 1 (wn ?_))))))))
 refine wC (σ:=Unit) (fun st=>(zz7 g_ [])) (fun st=>z53_k1=some r) ?_ (fun j1=>?_)
 ·intro _ h
  replace h:z53_k1=some r:=h
  unfold z53_k1 at h
  refine wq (wg (ws J 1 Q (wn ?_)))
  cases h
  exact we J Tryz.func53 [] Q Q Q Q
 refine wo ?_
 refine wI (σ:=Int) (fun st=>(zz2 g_ [(1,.B 4 0),(3,.I st)])) (fun n st=>z53_l2 N g_ n st) (r:=r) (fun _=>rfl) ?_ (fun ih=>?_)
 ·intro n12 ih33
  intro c h
  replace h:z53_l2 N g_ (n12+1) c=some r:=h
  unfold z53_l2 at h
  refine wq (wq (wg (wx (zz2 g_ [(1,.B 4 0),(3,.I c),(11,.O (decide (c < (g_.Edges.length:Int))))]) J 5 (wn ?_))))
  rcases oc' h with ⟨hc,h⟩ | ⟨hc,h⟩
  ·exact wf hc Q (wz rfl (wu [] (j1 () h) Q Q Q Q))
  refine wt hc Q (wi (wq (wo (wq (wg (xw [3,4,5,6] (zz2 g_ [(1,.B 4 0),(3,.I c),(15,.S 2),(16,.I c)]) J 3 ?_))))))
  obtain ⟨d,e,h⟩:=ob h
  refine wj oO2 J e Q Q Q Q Q Q Q Q Q (wx (zz6 g_ d [(1,.B 4 0),(3,.I c),(4,.B 6 0)]) J 3 (wn (wq (wq (wg (xw (rg 3 6) (zz6 g_ d [(1,.B 4 0),(3,.I c),(4,.B 6 0),(21,.O d.Again)]) J 3 ?_))))))
  refine WP.cutr (σ:=Bool) (fun st=>(zz6 g_ d [(1,.B 4 0),(3,.I c),(4,.B 6 0),(27,.O st)])) (fun st=>z53_k6 N g_ c (z53_l2 N g_ n12) d st=some r) ?_ (fun j54=>?_)
  ·intro f h
   replace h:z53_k6 N g_ c (z53_l2 N g_ n12) d f=some r:=h
   unfold z53_k6 at h
   rcases oc h with ⟨hc,h⟩ | ⟨hc,h⟩
   ·refine wt hc Q (wq (wg (ws J 1 Q (wn ?_))))
    cases h
    exact we J Tryz.func53 [] Q Q Q Q
   refine wf hc Q (wi (wq (wg (ws J 1 Q (wn ?_)))))
   refine wC (σ:=Unit) (fun st=>(zz14 g_ [(1,.B 4 0),(3,.I c)])) (fun st=>z53_k3 c (z53_l2 N g_ n12)=some r) ?_ (fun j55=>?_)
   ·intro _ h
    replace h:z53_k3 c (z53_l2 N g_ n12)=some r:=h
    unfold z53_k3 at h
    exact wb (wg (wx (zz14 g_ [(1,.B 4 0),(3,.I (w64 (c+1)))]) J 3 (wn (wu [] (ih33 (w64 (c+1)) h) Q Q Q Q))))
   refine wo ?_
   refine wI (σ:=Int) (fun st=>(zz6 g_ d [(1,.B 4 0),(3,.I c),(4,.B 6 0),(5,.I st)])) (fun n st=>z53_l4 g_ c (z53_l2 N g_ n12) d n st) (r:=r) (fun _=>rfl) ?_ (fun ih=>?_)
   ·intro n14 ih60
    intro g h
    replace h:z53_l4 g_ c (z53_l2 N g_ n12) d (n14+1) g=some r:=h
    unfold z53_l4 at h
    refine wq (wq (wg (wx (zz6 g_ d [(1,.B 4 0),(3,.I c),(4,.B 6 0),(5,.I g),(32,.O (decide (g < (g_.Edges.length:Int))))]) J 5 (wn ?_))))
    rcases oc' h with ⟨hc,h⟩ | ⟨hc,h⟩
    ·exact wf hc Q (wz rfl (wu [] (j55 () h) Q Q Q Q))
    refine wt hc Q (wi (wq (wo (wq (wg (xw [3,4,5,6] (zz6 g_ d [(1,.B 4 0),(3,.I c),(4,.B 6 0),(5,.I g),(36,.S 2),(37,.I g)]) J 3 ?_))))))
    obtain ⟨i,j,h⟩:=ob h
    refine wj oO2 J j Q Q Q Q Q Q Q Q Q (wx (zz8 g_ d i [(1,.B 4 0),(3,.I c),(4,.B 6 0),(5,.I g),(6,.B 8 0)]) J 3 (wn (wq (wq (wg (xw (rg 4 26) (zz8 g_ d i [(1,.B 4 0),(3,.I c),(4,.B 6 0),(5,.I g),(6,.B 8 0),(43,.O (g != c))]) J 4 ?_))))))
    refine WP.cutr (σ:=Bool) (fun st=>(zz8 g_ d i [(1,.B 4 0),(3,.I c),(4,.B 6 0),(5,.I g),(6,.B 8 0),(69,.O st)])) (fun st=>z53_k5 d g (z53_l4 g_ c (z53_l2 N g_ n12) d n14) i st=some r) ?_ (fun j63=>?_)
    ·intro k h
     replace h:z53_k5 d g (z53_l4 g_ c (z53_l2 N g_ n12) d n14) i k=some r:=h
     unfold z53_k5 at h
     rcases oc h with ⟨hc,h⟩ | ⟨hc,h⟩
     ·refine wt hc Q (wq (wg (ws J 1 Q (wn ?_))))
      cases h
      exact we J Tryz.func53 [] Q Q Q Q
     refine wf hc Q (wi (wq (wg (xw (rg 3 24) (zz8 g_ d i [(1,.B 4 0),(3,.I c),(4,.B 6 0),(5,.I g),(6,.B 8 0),(72,.O d.Again)]) J 3 ?_))))
     rcases oc' h with ⟨hc,h⟩ | ⟨hc,h⟩
     ·exact wy 72 hc Q (wx (zz28 g_ d [(1,.B 4 0),(3,.I c),(4,.B 6 0),(5,.I g),(96,.O false)]) J 24 (wn (wf Q Q (wi (wb (wg (wx (zz28 g_ d [(1,.B 4 0),(3,.I c),(4,.B 6 0),(5,.I (w64 (g+1)))]) J 3 (wn (wu [] (ih60 (w64 (g+1)) h) Q Q Q Q)))))))))
     refine wy 72 hc Q (xw (rg 10 17) (zz8 g_ d i [(1,.B 4 0),(3,.I c),(4,.B 6 0),(5,.I g),(6,.B 8 0),(79,.O (i.To==d.From))]) J 7 ?_)
     rcases oc' h with ⟨hc,h⟩ | ⟨hc,h⟩
     ·exact wy 79 hc Q (wx (zz28 g_ d [(1,.B 4 0),(3,.I c),(4,.B 6 0),(5,.I g),(96,.O false)]) J 17 (wn (wf Q Q (wi (wb (wg (wx (zz28 g_ d [(1,.B 4 0),(3,.I c),(4,.B 6 0),(5,.I (w64 (g+1)))]) J 3 (wn (wu [] (ih60 (w64 (g+1)) h) Q Q Q Q)))))))))
     refine wy 79 hc Q (xw (rg 18 9) (zz8 g_ d i [(1,.B 4 0),(3,.I c),(4,.B 6 0),(5,.I g),(6,.B 8 0),(79,.O true),(87,.O (i.Act.From != d.Act.From))]) J 8 ?_)
     rcases oc h with ⟨hc,h⟩ | ⟨hc,h⟩
     ·refine wy 87 hc Q (wx (zz28 g_ d [(1,.B 4 0),(3,.I c),(4,.B 6 0),(5,.I g),(96,.O true)]) J 9 (wn (wt Q Q (wq (wg (ws J 1 Q (wn ?_)))))))
      cases h
      exact we J Tryz.func53 [] Q Q Q Q
     refine wy 87 hc Q (wx (zz28 g_ d [(1,.B 4 0),(3,.I c),(4,.B 6 0),(5,.I g),(96,.O (i.Act.Label != d.Act.Label))]) J 9 (wn ?_))
     rcases oc h with ⟨hc,h⟩ | ⟨hc,h⟩
     ·refine wt hc Q (wq (wg (ws J 1 Q (wn ?_))))
      cases h
      exact we J Tryz.func53 [] Q Q Q Q
     exact wf hc Q (wi (wb (wg (wx (zz28 g_ d [(1,.B 4 0),(3,.I c),(4,.B 6 0),(5,.I (w64 (g+1)))]) J 3 (wn (wu [] (ih60 (w64 (g+1)) h) Q Q Q Q))))))
    rcases oc' h with ⟨hc,h⟩ | ⟨hc,h⟩
    ·exact wy 43 hc Q (wx (zz8 g_ d i [(1,.B 4 0),(3,.I c),(4,.B 6 0),(5,.I g),(6,.B 8 0),(69,.O false)]) J 26 (wn (wu [] (j63 false h) Q Q Q Q)))
    refine wy 43 hc Q (xw (rg 11 19) (zz8 g_ d i [(1,.B 4 0),(3,.I c),(4,.B 6 0),(5,.I g),(6,.B 8 0),(50,.O (d.From==i.From))]) J 7 ?_)
    rcases oc' h with ⟨hc,h⟩ | ⟨hc,h⟩
    ·exact wy 50 hc Q (wx (zz8 g_ d i [(1,.B 4 0),(3,.I c),(4,.B 6 0),(5,.I g),(6,.B 8 0),(69,.O false)]) J 19 (wn (wu [] (j63 false h) Q Q Q Q)))
    refine wy 50 hc Q (xw (rg 15 15) (zz8 g_ d i [(1,.B 4 0),(3,.I c),(4,.B 6 0),(5,.I g),(6,.B 8 0),(50,.O true),(52,.a (cC6 d.Act)),(54,.a (cC6 i.Act))]) J 4 (WPr.eqa (neg:=false) (equal_run (b:=((d.Act.From==i.Act.From) && ((d.Act.To==i.Act.To) && ((d.Act.Label==i.Act.Label) && true)))) (by kernel_rfl) (by kernel_rfl)) (by kernel_rfl) Q Q Q Q Q Q Q (ws J 1 Q ?_)))
    rcases oc h with ⟨hc,h⟩ | ⟨hc,h⟩
    ·exact wy 56 hc Q (wx (zz8 g_ d i [(1,.B 4 0),(3,.I c),(4,.B 6 0),(5,.I g),(6,.B 8 0),(69,.O true)]) J 13 (wn (wu [] (j63 true h) Q Q Q Q)))
    refine wy 56 hc Q (xw [26,27,28,29] (zz8 g_ d i [(1,.B 4 0),(3,.I c),(4,.B 6 0),(5,.I g),(6,.B 8 0),(50,.O true),(65,.O (d.Act.From != i.Act.From))]) J 9 ?_)
    rcases oc h with ⟨hc,h⟩ | ⟨hc,h⟩
    ·exact wy 65 hc Q (wx (zz8 g_ d i [(1,.B 4 0),(3,.I c),(4,.B 6 0),(5,.I g),(6,.B 8 0),(69,.O true)]) J 4 (wn (wu [] (j63 true h) Q Q Q Q)))
    exact wy 65 hc Q (wx (zz8 g_ d i [(1,.B 4 0),(3,.I c),(4,.B 6 0),(5,.I g),(6,.B 8 0),(69,.O d.Again)]) J 4 (wn (wu [] (j63 d.Again h) Q Q Q Q)))
   exact wu [] (ih N 0 h) Q Q Q Q
  rcases oc h with ⟨hc,h⟩ | ⟨hc,h⟩
  ·exact wy 21 hc Q (wx (zz6 g_ d [(1,.B 4 0),(3,.I c),(4,.B 6 0),(27,.O (d.From==g_.Start))]) J 6 (wn (wu [] (j54 (d.From==g_.Start) h) Q Q Q Q)))
  exact wy 21 hc Q (wx (zz6 g_ d [(1,.B 4 0),(3,.I c),(4,.B 6 0),(27,.O false)]) J 6 (wn (wu [] (j54 false h) Q Q Q Q)))
 exact wu [] (ih N 0 h) Q Q Q Q
theorem z81_ct (N:Nat) (g_:T4) (r:(List Int)) (h:z81 N g_=some r) :
 Fn Tryz.prog 81 ⟨4,[.a (cC4 0 1 2 3 g_)],(vV4 0 1 2 3 g_ []),[],5,.S 4,[],[(4,.own (rI .i64) r true)]⟩:=by
 refine Fn.intro _ _ Tryz.func81 rfl (by kernel_rfl) rfl (fun E F w=>?_)
 unfold z81 at h
 refine wq (wg (ws J 2 Q (wn (wq (wg (xw [2,3] (zz2 g_ [(1,.B 4 0),(2,.c .nil),(9,.I g_.States)]) J 2 ?_))))))
 obtain ⟨x1,d,h⟩:=ob h
 refine WPr.mk (oI .i64) J 0 d Q Q Q Q Q Q Q Q (by exact an Q Q) rfl (ws J 1 Q (wn (wq (wq (wg (wx (zz29 g_ x1 [(1,.B 4 0),(2,.c .nil),(3,.S 5),(4,.I 0)]) J 1 (wn ?_)))))))
 refine wC (σ:=(List Int)) (fun st=>(zz29 g_ st [(1,.B 4 0),(3,.S 5)])) (fun st=>z81_k5 N g_ st=some r) ?_ (fun j1=>?_)
 ·intro e h
  replace h:z81_k5 N g_ e=some r:=h
  unfold z81_k5 at h
  refine wq (wg (xw [3,4] (zz29 g_ e [(1,.B 4 0),(3,.S 5),(20,.S 5),(22,.I g_.End)]) J 3 ?_))
  obtain ⟨x6,f,h⟩:=ob h
  refine wX J f Q Q Q Q Q Q Q Q Q (WPr.sto (oI .i64) J 0 f Q Q Q Q Q Q Q Q Q Q (by exact rfl) rfl (wn (wq (wq (wg (wx (zz26 g_ (setL' e g_.End 0) [(1,.B 4 0),(3,.S 5),(5,.I 0)]) J 1 (wn ?_)))))))
  refine wC (σ:=(List Int)) (fun st=>⟨[(3,.S 5)],[(5,.own (rI .i64) st true)],(vV4 0 1 2 3 g_ []),7⟩) (fun st=>z81_k1 st=some r) ?_ (fun j3=>?_)
  ·intro g h
   replace h:z81_k1 g=some r:=h
   unfold z81_k1 at h
   refine wq (wg (ws J 2 Q (wn ?_)))
   cases h
   exact we J Tryz.func81 [(4,.sl 5)] Q Q Q Q
  refine wo ?_
  refine wI (σ:=(List Int) × Int) (fun st=>(zz26 g_ st.1 [(1,.B 4 0),(3,.S 5),(5,.I st.2)])) (fun n st=>z81_l2 N g_ n st.1 st.2) (r:=r) (fun _=>rfl) ?_ (fun ih=>?_)
  ·intro n13 ih14
   rintro ⟨i,j⟩ h
   replace h:z81_l2 N g_ (n13+1) i j=some r:=h
   unfold z81_l2 at h
   refine wq (wq (wg (wx (zz26 g_ i [(1,.B 4 0),(3,.S 5),(5,.I j),(27,.O (decide (j < g_.States)))]) J 4 (wn ?_))))
   rcases oc' h with ⟨hc,h⟩ | ⟨hc,h⟩
   ·exact wf hc Q (wz rfl (wu [] (j3 i h) Q Q Q Q))
   refine wt hc Q (wi (wq (wo (wq (wg (ws J 1 Q (wn ?_)))))))
   refine wC (σ:=(List Int)) (fun st=>(zz26 g_ st [(1,.B 4 0),(3,.S 5),(5,.I j)])) (fun st=>z81_k3 j (z81_l2 N g_ n13) st=some r) ?_ (fun j21=>?_)
   ·intro k h
    replace h:z81_k3 j (z81_l2 N g_ n13) k=some r:=h
    unfold z81_k3 at h
    exact wb (wg (wx (zz26 g_ k [(1,.B 4 0),(3,.S 5),(5,.I (w64 (j+1)))]) J 3 (wn (wu [] (ih14 (k,(w64 (j+1))) h) Q Q Q Q))))
   refine wo ?_
   refine wI (σ:=(List Int) × Int) (fun st=>(zz26 g_ st.1 [(1,.B 4 0),(3,.S 5),(5,.I j),(6,.I st.2)])) (fun n st=>z81_l4 g_ j (z81_l2 N g_ n13) n st.1 st.2) (r:=r) (fun _=>rfl) ?_ (fun ih=>?_)
   ·intro n15 ih23
    rintro ⟨l,m⟩ h
    replace h:z81_l4 g_ j (z81_l2 N g_ n13) (n15+1) l m=some r:=h
    unfold z81_l4 at h
    refine wq (wq (wg (wx (zz26 g_ l [(1,.B 4 0),(3,.S 5),(5,.I j),(6,.I m),(34,.O (decide (m < (g_.Edges.length:Int))))]) J 5 (wn ?_))))
    rcases oc' h with ⟨hc,h⟩ | ⟨hc,h⟩
    ·exact wf hc Q (wz rfl (wu [] (j21 l h) Q Q Q Q))
    refine wt hc Q (wi (wq (wo (wq (wg (xw [3,4,5,6] (zz26 g_ l [(1,.B 4 0),(3,.S 5),(5,.I j),(6,.I m),(38,.S 2),(39,.I m)]) J 3 ?_))))))
    obtain ⟨o,p,h⟩:=ob h
    refine wj oO2 J p Q Q Q Q Q Q Q Q Q (wx (zz174 g_ l o [(1,.B 4 0),(3,.S 5),(5,.I j),(6,.I m),(7,.B 8 0)]) J 3 (wn (wq (wg (xw (rg 3 12) (zz174 g_ l o [(1,.B 4 0),(3,.S 5),(5,.I j),(6,.I m),(7,.B 8 0),(42,.S 5),(44,.I o.To)]) J 3 ?_)))))
    obtain ⟨q,s,h⟩:=ob h
    refine wX J s Q Q Q Q Q Q Q Q Q (wL (oI .i64) J s Q Q Q Q Q Q Q Q Q Q (xw (rg 8 7) (zz133 g_ l o [(1,.B 4 0),(3,.S 5),(5,.I j),(6,.I m),(7,.B 8 0),(49,.O (q==j))]) J 3 ?_))
    rcases oc' h with ⟨hc,h⟩ | ⟨hc,h⟩
    ·exact wy 49 hc Q (wx (zz133 g_ l o [(1,.B 4 0),(3,.S 5),(5,.I j),(6,.I m),(7,.B 8 0),(56,.O false)]) J 7 (wn (wf Q Q (wi (wb (wg (wx ⟨[(1,.B 4 0),(3,.S 5),(5,.I j),(6,.I (w64 (m+1)))],[(4,.box (cC4 0 1 2 3 g_) 27),(5,.own (rI .i64) l true)],(vV4 0 1 2 3 g_ []),10⟩ J 3 (wn (wu [] (ih23 (l,(w64 (m+1))) h) Q Q Q Q)))))))))
    refine wy 49 hc Q (xw [11,12,13,14] (zz133 g_ l o [(1,.B 4 0),(3,.S 5),(5,.I j),(6,.I m),(7,.B 8 0),(49,.O true),(50,.S 5),(52,.I o.From)]) J 3 ?_)
    obtain ⟨t,u,h⟩:=ob h
    refine wX J u Q Q Q Q Q Q Q Q Q (wL (oI .i64) J u Q Q Q Q Q Q Q Q Q Q (wx ⟨[(1,.B 4 0),(3,.S 5),(5,.I j),(6,.I m),(7,.B 8 0),(56,.O (decide (t < 0)))],[(4,.box (cC4 0 1 2 3 g_) 27),(5,.own (rI .i64) l true),(8,.box (cC2 o) 43)],(vV4 0 1 2 3 g_ []),11⟩ J 2 (wn ?_)))
    rcases oc' h with ⟨hc,h⟩ | ⟨hc,h⟩
    ·exact wf hc Q (wi (wb (wg (wx (zz175 g_ l [(1,.B 4 0),(3,.S 5),(5,.I j),(6,.I (w64 (m+1)))]) J 3 (wn (wu [] (ih23 (l,(w64 (m+1))) h) Q Q Q Q))))))
    refine wt hc Q (wg (xw [5,6] (zz175 g_ l [(1,.B 4 0),(3,.S 5),(5,.I j),(6,.I m),(57,.S 5),(59,.I o.From),(61,.I (w64 (j+1)))]) J 5 ?_))
    obtain ⟨v,x,h⟩:=ob h
    exact wX J x Q Q Q Q Q Q Q Q Q (WPr.sto (oI .i64) J (w64 (j+1)) x Q Q Q Q Q Q Q Q Q Q (by exact rfl) rfl (wn (wb (wg (wx ⟨[(1,.B 4 0),(3,.S 5),(5,.I j),(6,.I (w64 (m+1)))],[(4,.box (cC4 0 1 2 3 g_) 27),(5,.own (rI .i64) (setL' l o.From (w64 (j+1))) true)],(vV4 0 1 2 3 g_ []),12⟩ J 3 (wn (wu [] (ih23 ((setL' l o.From (w64 (j+1))),(w64 (m+1))) h) Q Q Q Q)))))))
   exact wu [] (ih N (i,0) h) Q Q Q Q
  exact wu [] (ih N ((setL' e g_.End 0),0) h) Q Q Q Q
 refine wo ?_
 refine wI (σ:=(List Int) × Int) (fun st=>(zz29 g_ st.1 [(1,.B 4 0),(3,.S 5),(4,.I st.2)])) (fun n st=>z81_l6 N g_ n st.1 st.2) (r:=r) (fun _=>rfl) ?_ (fun ih=>?_)
 ·intro n16 ih24
  rintro ⟨y,z⟩ h
  replace h:z81_l6 N g_ (n16+1) y z=some r:=h
  unfold z81_l6 at h
  refine wq (wq (wg (wx (zz29 g_ y [(1,.B 4 0),(3,.S 5),(4,.I z),(14,.O (decide (z < g_.States)))]) J 4 (wn ?_))))
  rcases oc' h with ⟨hc,h⟩ | ⟨hc,h⟩
  ·exact wf hc Q (wz rfl (wu [] (j1 y h) Q Q Q Q))
  refine wt hc Q (wi (wq (wo (wg (ws J 2 Q ?_)))))
  obtain ⟨A,C,h⟩:=ob h
  exact wX J C Q Q Q Q Q Q Q Q Q (xw [3] ⟨[(1,.B 4 0),(3,.S 5),(4,.I z),(19,.P 6 0)],[(4,.box (cC4 0 1 2 3 g_) 27),(5,.own (rI .i64) y true)],(vV4 0 1 2 3 g_ [(6,.el 5 ((z).toNat * ((rI .i64)).sz))]),7⟩ J 0 (WPr.sto (oI .i64) J (-1) C Q Q Q Q Q Q Q Q Q Q (by exact rfl) rfl (wn (wb (wg (wx (zz26 g_ (setL' y z (-1)) [(1,.B 4 0),(3,.S 5),(4,.I (w64 (z+1)))]) J 3 (wn (wu [] (ih24 ((setL' y z (-1)),(w64 (z+1))) h) Q Q Q Q))))))))
 exact wu [] (ih N (x1,0) h) Q Q Q Q
theorem z74_ct (N:Nat) (g_:T4) (i_:Int) (k_:Int) (r:Bool) (h:z74 N g_ i_ k_=some r) :
 Fn Tryz.prog 74 ⟨4,[.a (cC4 0 1 2 3 g_),.I i_,.I k_],(vV4 0 1 2 3 g_ []),[],4,.O r,[],[]⟩:=by
 refine Fn.intro _ _ Tryz.func74 rfl (by kernel_rfl) rfl (fun E F w=>?_)
 unfold z74 at h
 refine wq (wg (ws J 2 Q (wn (wq (wN (fun A1 c d=>?_))))))
 have e:A1 0 (zz50 [(3,.B 4 0)] [(9,.B 4 6)]):=c _ _ (wl J Q Q Q Q Q Q)
 have f:A1 1 ⟨[(9,.B 4 6)],(vV4 0 1 2 3 g_ []),[],[(4,.box (cC4 0 1 2 3 g_) 27)],5,[(10,.S 2)],[],[],5⟩:=c _ _ (wl J Q Q Q Q Q Q)
 have g:A1 2 (zz50 [(1,.I i_)] [(11,.I i_)]):=c _ _ (wl J Q Q Q Q Q Q)
 obtain ⟨x4,i,h⟩:=ob h
 have j:A1 3 ⟨[(10,.S 2),(11,.I i_)],[(2,.sl rR2 g_.Edges)],[],[],5,[(12,.P 5 0)],[(5,.pl (cC2 x4))],[],6⟩:=c _ _ (wO Q Q Q (fun _ _ _ _ _ _ _ k=>wj oO2 J i Q Q Q Q Q Q Q Q Q (k)) rfl)
 have l:A1 4 (zz98 x4 [(12,.P 5 0)] [(13,.P 5 1)]):=c _ _ (wl J Q Q Q Q Q Q)
 have m:A1 5 (zz98 x4 [(13,.P 5 1)] [(14,.a (cC6 x4.Act))]):=c _ _ (wl J Q Q Q Q Q Q)
 have o:A1 6 (zz3 [(3,.B 4 0)] [(15,.B 4 6)]):=c _ _ (wl J Q Q Q Q Q Q)
 have p:A1 7 (zz104 g_ [(15,.B 4 6)] [(16,.S 2)]):=c _ _ (wl J Q Q Q Q Q Q)
 have q:A1 8 (zz3 [(2,.I k_)] [(17,.I k_)]):=c _ _ (wl J Q Q Q Q Q Q)
 obtain ⟨s,u,h⟩:=ob h
 have v:A1 9 ⟨[(16,.S 2),(17,.I k_)],[(2,.sl rR2 g_.Edges)],[],[],6,[(18,.P 6 0)],[(6,.pl (cC2 s))],[],7⟩:=c _ _ (wO Q Q Q (fun _ _ _ _ _ _ _ k=>wj oO2 J u Q Q Q Q Q Q Q Q Q (k)) rfl)
 have x:A1 10 (zz99 s [(18,.P 6 0)] [(19,.P 6 1)]):=c _ _ (wl J Q Q Q Q Q Q)
 have y:A1 11 (zz99 s [(19,.P 6 1)] [(20,.a (cC6 s.Act))]):=c _ _ (wl J Q Q Q Q Q Q)
 have z:A1 12 ⟨[],[],[],[],7,[(7,.B 7 0)],[],[(7,.box [.I 0,.I 0,.I 0] 37)],8⟩:=c _ _ (wl J Q Q Q Q Q Q)
 have A:A1 13 ⟨[],[],[],[],8,[(8,.B 8 0)],[],[(8,.box [.I 0,.I 0,.I 0] 37)],9⟩:=c _ _ (wl J Q Q Q Q Q Q)
 have C:A1 14 ⟨[(7,.B 7 0),(14,.a (cC6 x4.Act))],[],[(7,.box [.I 0,.I 0,.I 0] 37)],[],9,[],[],[(7,.box (cC6 x4.Act) 37)],9⟩:=c _ _ (wl J Q Q Q Q Q Q)
 have D:A1 15 ⟨[(8,.B 8 0),(20,.a (cC6 s.Act))],[],[(8,.box [.I 0,.I 0,.I 0] 37)],[],9,[],[],[(8,.box (cC6 s.Act) 37)],9⟩:=c _ _ (wl J Q Q Q Q Q Q)
 refine wD (t:=(zz134 x4.Act s.Act g_ [(1,.I i_),(2,.I k_),(6,.O false),(7,.B 7 0),(8,.B 8 0)])) [0,1,0,7,15,31,0,64,0,448,960,1984,0,0,12351,32767] (.cons (d _ _ e) (.cons (d _ _ f) (.cons (d _ _ g) (.cons (d _ _ j) (.cons (d _ _ l) (.cons (d _ _ m) (.cons (d _ _ o) (.cons (d _ _ p) (.cons (d _ _ q) (.cons (d _ _ v) (.cons (d _ _ x) (.cons (d _ _ y) (.cons (d _ _ z) (.cons (d _ _ A) (.cons (d _ _ C) (.cons (d _ _ D) .nil)))))))))))))))) (by kernel_rfl) (by kernel_rfl) (by kernel_rfl) (by kernel_rfl) (wq (wq (wg (wx (zz134 x4.Act s.Act g_ [(1,.I i_),(2,.I k_),(6,.O false),(7,.B 7 0),(8,.B 8 0),(25,.O (x4.Act.To != s.Act.To))]) J 5 (wn ?_)))))
 rcases oc h with ⟨hc,h⟩ | ⟨hc,h⟩
 ·refine wt hc Q (wq (wg (wx ⟨[(6,.O (decide (x4.Act.To < s.Act.To)))],[],(vV4 0 1 2 3 g_ []),9⟩ J 6 (wn ?_))))
  cases h
  exact we J Tryz.func74 [] Q Q Q Q
 refine wf hc Q (wi (wq (wq (wg (wx (zz134 x4.Act s.Act g_ [(1,.I i_),(2,.I k_),(6,.O false),(7,.B 7 0),(8,.B 8 0),(35,.O (x4.Act.Label != s.Act.Label))]) J 5 (wn ?_))))))
 rcases oc h with ⟨hc,h⟩ | ⟨hc,h⟩
 ·refine wt hc Q (wq (wg (wx ⟨[(6,.O (decide (x4.Act.Label < s.Act.Label)))],[],(vV4 0 1 2 3 g_ []),9⟩ J 6 (wn ?_))))
  cases h
  exact we J Tryz.func74 [] Q Q Q Q
 refine wf hc Q (wi (wq (wg (wx ⟨[(6,.O (decide (i_ < k_)))],[],(vV4 0 1 2 3 g_ []),9⟩ J 4 (wn ?_)))))
 cases h
 exact we J Tryz.func74 [] Q Q Q Q
theorem z28_ct (N:Nat) (g_:T4) (s_:Int) (r:(List Int)) (h:z28 N g_ s_=some r) :
 Fn Tryz.prog 28 ⟨4,[.a (cC4 0 1 2 3 g_),.I s_],(vV4 0 1 2 3 g_ []),[],5,.S 4,[],[(4,.own (rI .i64) r true)]⟩:=by
 refine Fn.intro _ _ Tryz.func28 rfl (by kernel_rfl) rfl (fun E F w=>?_)
 unfold z28 at h
 refine wq (wg (ws J 2 Q (wn (wq (wg (wx (zz2 g_ [(1,.I s_),(2,.B 4 0),(4,.c .nil),(5,.c .nil)]) J 1 (wn (wq (wq (wg (ws J 1 Q (wn ?_))))))))))))
 refine wC (σ:=(List Int)) (fun st=>⟨[(5,.S 5)],[(5,.own (rI .i64) st true)],(vV4 0 1 2 3 g_ []),6⟩) (fun st=>z28_k1 st=some r) ?_ (fun j1=>?_)
 ·intro d h
  replace h:z28_k1 d=some r:=h
  unfold z28_k1 at h
  refine wq (wg (ws J 2 Q (wn ?_)))
  cases h
  exact we J Tryz.func28 [(4,.sl 5)] Q Q Q Q
 refine wo ?_
 refine wI (σ:=(List Int) × Int) (fun st=>(zz29 g_ st.1 [(1,.I s_),(2,.B 4 0),(5,.S 5),(6,.I st.2)])) (fun n st=>z28_l2 N g_ s_ n st.1 st.2) (r:=r) (fun _=>rfl) ?_ (fun ih=>?_)
 ·intro n12 ih12
  rintro ⟨e,f⟩ h
  replace h:z28_l2 N g_ s_ (n12+1) e f=some r:=h
  unfold z28_l2 at h
  refine wq (wq (wg (wx (zz29 g_ e [(1,.I s_),(2,.B 4 0),(5,.S 5),(6,.I f),(12,.O (decide (f < (g_.Edges.length:Int))))]) J 5 (wn ?_))))
  rcases oc' h with ⟨hc,h⟩ | ⟨hc,h⟩
  ·exact wf hc Q (wz rfl (wu [] (j1 e h) Q Q Q Q))
  refine wt hc Q (wi (wq (wo (wq (wq (wg (xw [3,4,5,6,7] (zz29 g_ e [(1,.I s_),(2,.B 4 0),(5,.S 5),(6,.I f),(16,.S 2),(17,.I f)]) J 3 ?_)))))))
  obtain ⟨g,i,h⟩:=ob h
  refine wj oO2 J i Q Q Q Q Q Q Q Q Q (wx (zz26 g_ e [(1,.I s_),(2,.B 4 0),(5,.S 5),(6,.I f),(22,.O (g.From != s_))]) J 4 (wn ?_))
  rcases oc h with ⟨hc,h⟩ | ⟨hc,h⟩
  ·exact wt hc Q (wz rfl (wg (wx (zz26 g_ e [(1,.I s_),(2,.B 4 0),(5,.S 5),(6,.I (w64 (f+1)))]) J 3 (wn (wu [] (ih12 (e,(w64 (f+1))) h) Q Q Q Q)))))
  refine wf hc Q (wi (wq (wg (ws J 1 Q (wn (wq ?_))))))
  refine wC (σ:=Int) (fun st=>(zz26 g_ e [(1,.I s_),(2,.B 4 0),(5,.S 5),(6,.I f),(7,.I st)])) (fun st=>z28_k3 e f (z28_l2 N g_ s_ n12) st=some r) ?_ (fun j19=>?_)
  ·intro j h
   replace h:z28_k3 e f (z28_l2 N g_ s_ n12) j=some r:=h
   unfold z28_k3 at h
   refine wN (fun m o p=>?_)
   have q:m 0 (zz4 [(5,.S 5)] [(38,.S 5)]):=o _ _ (wl J Q Q Q Q Q Q)
   have s:m 1 (zz4 [(7,.I j)] [(39,.I j)]):=o _ _ (wl J Q Q Q Q Q Q)
   obtain ⟨v,x,h⟩:=ob h
   have y:m 2 ⟨[(38,.S 5),(39,.I j)],[],[],[(5,.own (rI .i64) e true)],7,[(40,.S 7)],[(7,.vw 5 none (some j) ((rI .i64)).sz)],[],8⟩:=o _ _ (wO Q Q Q (fun _ _ _ _ _ _ _ k=>WPr.vw J (l:=none) (h:=some (.i64,j)) x Q Q Q Q Q Q Q Q Q Q (k)) rfl)
   have z:m 3 (zz11 [(6,.I f)] [(41,.I f)]):=o _ _ (wl J Q Q Q Q Q Q)
   have A:m 4 ⟨[(41,.I f)],[],[],[],8,[(42,.S 8)],[],[(8,.own (rI .i64) ([f]:List Int) true)],9⟩:=o _ _ (wO Q Q Q (fun _ _ _ _ _ _ _ k=>WPr.bs (cs:=[.I f]) (oI .i64) J ([f]:List Int) Q Q Q Q Q Q (by kernel_rfl) (by exact (an Q Q)) rfl (k)) rfl)
   have C:m 5 (zz35 [(5,.S 5)] [(43,.S 5)]):=o _ _ (wl J Q Q Q Q Q Q)
   have D:m 6 (zz35 [(7,.I j)] [(44,.I j)]):=o _ _ (wl J Q Q Q Q Q Q)
   obtain ⟨G,H,h⟩:=ob h
   have K:m 7 ⟨[(43,.S 5),(44,.I j)],[],[],[(5,.own (rI .i64) e true)],9,[(45,.S 9)],[(9,.vw 5 (some j) none ((rI .i64)).sz)],[],10⟩:=o _ _ (wO Q Q Q (fun _ _ _ _ _ _ _ k=>WPr.vw J (l:=some (.i64,j)) (h:=none) H Q Q Q Q Q Q Q Q Q Q (k)) rfl)
   obtain ⟨R,T,h⟩:=ob h
   have U:m 8 ⟨[(42,.S 8),(45,.S 9)],[(9,.vw 5 (some j) none ((rI .i64)).sz)],[(8,.own (rI .i64) ([f]:List Int) true)],[(5,.own (rI .i64) e true)],10,[(46,.S 10)],[],[(8,.gone),(10,.own (rI .i64) R true)],11⟩:=o _ _ (wO Q Q Q (fun _ _ _ _ _ _ _ k=>WPr.app J T (by exact (srcV H Q Q)) Q Q Q Q Q Q Q Q Q Q (k)) rfl)
   obtain ⟨X,Y,h⟩:=ob h
   have Z:m 9 ⟨[(40,.S 7),(46,.S 10)],[(7,.vw 5 none (some j) ((rI .i64)).sz)],[(5,.own (rI .i64) e true)],[(10,.own (rI .i64) R true)],11,[(47,.S 11)],[],[(5,.gone),(7,.gone),(11,.own (rI .i64) X true)],12⟩:=o _ _ (wO Q Q Q (fun _ _ _ _ _ _ _ k=>WPr.stl 7 x Q Q Q (WPr.app J Y (by exact (srcO rfl)) Q Q Q Q Q Q Q Q Q Q (k))) rfl)
   have a0:m 10 ⟨[(47,.S 11)],[],[],[],12,[(5,.S 11)],[],[],12⟩:=o _ _ (wl J Q Q Q Q Q Q)
   exact wD (t:=(zz176 g_ X [(1,.I s_),(2,.B 4 0),(5,.S 11),(6,.I f)])) [0,0,3,0,8,0,0,96,248,511,1023] (.cons (p _ _ q) (.cons (p _ _ s) (.cons (p _ _ y) (.cons (p _ _ z) (.cons (p _ _ A) (.cons (p _ _ C) (.cons (p _ _ D) (.cons (p _ _ K) (.cons (p _ _ U) (.cons (p _ _ Z) (.cons (p _ _ a0) .nil))))))))))) (by kernel_rfl) (by kernel_rfl) (by kernel_rfl) (by kernel_rfl) (wb (wg (wx (zz176 g_ X [(1,.I s_),(2,.B 4 0),(5,.S 11),(6,.I (w64 (f+1)))]) J 3 (wn (wu [(5,.sl 11)] (ih12 (X,(w64 (f+1))) h) Q Q Q Q)))))
  refine wo ?_
  refine wI (σ:=Int) (fun st=>(zz26 g_ e [(1,.I s_),(2,.B 4 0),(5,.S 5),(6,.I f),(7,.I st)])) (fun n st=>z28_l4 N g_ e f (z28_l2 N g_ s_ n12) n st) (r:=r) (fun _=>rfl) ?_ (fun ih=>?_)
  ·intro n14 ih21
   intro b0 h
   replace h:z28_l4 N g_ e f (z28_l2 N g_ s_ n12) (n14+1) b0=some r:=h
   unfold z28_l4 at h
   refine wq (wq (wN (fun c0 d0 e0=>?_)))
   have f0:c0 0 (zz4 [(7,.I b0)] [(23,.I b0)]):=d0 _ _ (wl J Q Q Q Q Q Q)
   have g0:c0 1 (zz4 [(5,.S 5)] [(24,.S 5)]):=d0 _ _ (wl J Q Q Q Q Q Q)
   have i0:c0 2 ⟨[(24,.S 5)],[],[],[(5,.own (rI .i64) e true)],7,[(25,.I (e.length:Int))],[],[],7⟩:=d0 _ _ (wl J Q Q Q Q Q Q)
   have j0:c0 3 (zz4 [(23,.I b0),(25,.I (e.length:Int))] [(26,.O (decide (b0 < (e.length:Int))))]):=d0 _ _ (wl J Q Q Q Q Q Q)
   have k0:c0 4 (zz4 [(26,.O (decide (b0 < (e.length:Int))))] [(27,.O (decide (b0 < (e.length:Int))))]):=d0 _ _ (wl J Q Q Q Q Q Q)
   rcases oc' h with ⟨hc,h⟩ | ⟨hc,h⟩
   ·have l0:=d0 _ _ (LS.kb hc Q (e0 _ _ k0))
    have m0:c0 5 (zz4 [(27,.O false)] [(28,.u)]):=d0 _ _ (LS.skip Q Q Q (.inr ⟨_,rfl,rfl⟩) Q Q)
    have o0:c0 6 (zz4 [(27,.O false)] [(29,.u)]):=d0 _ _ (LS.skip Q Q Q (.inr ⟨_,rfl,rfl⟩) Q Q)
    have p0:c0 7 (zz4 [(27,.O false)] [(30,.u)]):=d0 _ _ (LS.skip Q Q Q (.inr ⟨_,rfl,rfl⟩) Q Q)
    have q0:c0 8 (zz4 [(27,.O false)] [(31,.u)]):=d0 _ _ (LS.skip Q Q Q (.inr ⟨_,rfl,rfl⟩) Q Q)
    have s0:c0 9 (zz4 [(27,.O false)] [(32,.u)]):=d0 _ _ (LS.skip Q Q Q (.inr ⟨_,rfl,rfl⟩) Q Q)
    have t0:c0 10 (zz4 [(27,.O false)] [(33,.u)]):=d0 _ _ (LS.skip Q Q Q (.inr ⟨_,rfl,rfl⟩) Q Q)
    have u0:c0 11 (zz4 [(27,.O false)] [(34,.u)]):=d0 _ _ (LS.skip Q Q Q (.inr ⟨_,rfl,rfl⟩) Q Q)
    have v0:c0 12 (zz4 [(27,.O false),(34,.u)] [(35,.O false)]):=d0 _ _ (wl J Q Q Q Q Q Q)
    exact wD (t:=(zz26 g_ e [(1,.I s_),(2,.B 4 0),(5,.S 5),(6,.I f),(7,.I b0),(35,.O false)])) [0,0,2,7,15,31,31,31,223,479,31,2047,4095] (.cons (e0 _ _ f0) (.cons (e0 _ _ g0) (.cons (e0 _ _ i0) (.cons (e0 _ _ j0) (.cons (e0 _ _ l0) (.cons (e0 _ _ m0) (.cons (e0 _ _ o0) (.cons (e0 _ _ p0) (.cons (e0 _ _ q0) (.cons (e0 _ _ s0) (.cons (e0 _ _ t0) (.cons (e0 _ _ u0) (.cons (e0 _ _ v0) .nil))))))))))))) (by kernel_rfl) (by kernel_rfl) (by kernel_rfl) (by kernel_rfl) (wf Q Q (wz rfl (wu [] (j19 b0 h) Q Q Q Q)))
   have x0:=d0 _ _ (LS.kb hc Q (e0 _ _ k0))
   have y0:c0 5 ⟨[(2,.B 4 0),(27,.O true)],(vV4 0 1 2 3 g_ []),[],[(4,.box (cC4 0 1 2 3 g_) 27)],7,[(28,.a (cC4 0 1 2 3 g_))],[],[],7⟩:=d0 _ _ (wl J Q Q Q Q Q Q)
   have z0:c0 6 (zz4 [(5,.S 5),(27,.O true)] [(29,.S 5)]):=d0 _ _ (wl J Q Q Q Q Q Q)
   have A0:c0 7 (zz4 [(7,.I b0),(27,.O true)] [(30,.I b0)]):=d0 _ _ (wl J Q Q Q Q Q Q)
   obtain ⟨B0,C0,h⟩:=ob h
   have D0:c0 8 ⟨[(27,.O true),(29,.S 5),(30,.I b0)],[],[],[(5,.own (rI .i64) e true)],7,[(31,.P 7 0)],[(7,.el 5 ((b0).toNat * ((rI .i64)).sz))],[],8⟩:=d0 _ _ (wO Q Q Q (fun _ _ _ _ _ _ _ k=>wX J C0 Q Q Q Q Q Q Q Q Q (k)) rfl)
   have G0:c0 9 ⟨[(27,.O true),(31,.P 7 0)],[(7,.el 5 ((b0).toNat * ((rI .i64)).sz))],[],[(5,.own (rI .i64) e true)],8,[(32,.I B0)],[],[],8⟩:=d0 _ _ (wO Q Q Q (fun _ _ _ _ _ _ _ k=>wL (oI .i64) J C0 Q Q Q Q Q Q Q Q Q Q (k)) rfl)
   have H0:c0 10 (zz11 [(6,.I f),(27,.O true)] [(33,.I f)]):=d0 _ _ (wl J Q Q Q Q Q Q)
   obtain ⟨I0,K0,h⟩:=ob h
   have L0:c0 11 ⟨[(27,.O true),(28,.a (cC4 0 1 2 3 g_)),(32,.I B0),(33,.I f)],(vV4 0 1 2 3 g_ []),[],[],8,[(34,.O I0)],[],[],8⟩:=d0 _ _ (wO Q Q Q (fun _ _ _ _ _ _ _ k=>wc (z74_ct N g_ B0 f _ K0) [(0,.sl 0),(1,.sl 1),(2,.sl 2),(3,.sl 3)] [] Q Q Q Q Q Q Q Q (.inl rfl) rfl (k)) rfl)
   have M0:c0 12 (zz11 [(27,.O true),(34,.O I0)] [(35,.O I0)]):=d0 _ _ (wl J Q Q Q Q Q Q)
   refine wD (t:=(zz124 g_ e [(1,.I s_),(2,.B 4 0),(5,.S 5),(6,.I f),(7,.I b0),(35,.O I0)])) [0,0,2,7,15,31,31,31,223,479,31,2047,4095] (.cons (e0 _ _ f0) (.cons (e0 _ _ g0) (.cons (e0 _ _ i0) (.cons (e0 _ _ j0) (.cons (e0 _ _ x0) (.cons (e0 _ _ y0) (.cons (e0 _ _ z0) (.cons (e0 _ _ A0) (.cons (e0 _ _ D0) (.cons (e0 _ _ G0) (.cons (e0 _ _ H0) (.cons (e0 _ _ L0) (.cons (e0 _ _ M0) .nil))))))))))))) (by kernel_rfl) (by kernel_rfl) (by kernel_rfl) (by kernel_rfl) ?_
   rcases oc h with ⟨hc,h⟩ | ⟨hc,h⟩
   ·exact wt hc Q (wi (wo (wg (wx (zz124 g_ e [(1,.I s_),(2,.B 4 0),(5,.S 5),(6,.I f),(7,.I (w64 (b0+1)))]) J 3 (wn (wb (wu [] (ih21 (w64 (b0+1)) h) Q Q Q Q)))))))
   exact wf hc Q (wz rfl (wu [] (j19 b0 h) Q Q Q Q))
  exact wu [] (ih N 0 h) Q Q Q Q
 exact wu [(5,.nil)] (ih N (([]:List Int),0) h) Q Q Q Q
theorem z54_ct (N:Nat) (g_:T4) (r:Bool) (h:z54 N g_=some r) :
 Fn Tryz.prog 54 ⟨4,[.a (cC4 0 1 2 3 g_)],(vV4 0 1 2 3 g_ []),[],4,.O r,[],[]⟩:=by
 refine Fn.intro _ _ Tryz.func54 rfl (by kernel_rfl) rfl (fun E F w=>?_)
 unfold z54 at h
 refine wq (wg (ws J 2 Q (wn (wq (wg (xw [2,3] (zz2 g_ [(1,.B 4 0),(2,.O false),(9,.I g_.States)]) J 2 ?_))))))
 obtain ⟨x1,c,h⟩:=ob h
 refine WPr.mk oB J false c Q Q Q Q Q Q Q Q (by exact an Q Q) rfl (ws J 1 Q (wn (wq (wg (xw [3,4] ⟨[(1,.B 4 0),(2,.O false),(3,.S 5),(11,.S 5),(13,.I g_.Start)],[(4,.box (cC4 0 1 2 3 g_) 27),(5,.own rB x1 true)],(vV4 0 1 2 3 g_ []),6⟩ J 3 ?_)))))
 obtain ⟨x2,d,h⟩:=ob h
 refine wX J d Q Q Q Q Q Q Q Q Q (WPr.sto oB J true d Q Q Q Q Q Q Q Q Q Q (by exact rfl) rfl (wn (wq (wq (wg (wx (zz46 g_ (setL' x1 g_.Start true) [(1,.B 4 0),(2,.O false),(3,.S 5),(4,.I 0)]) J 1 (wn ?_)))))))
 refine wC (σ:=(List Bool)) (fun st=>(zz46 g_ st [(1,.B 4 0),(3,.S 5)])) (fun st=>z54_k3 N g_ st=some r) ?_ (fun j1=>?_)
 ·intro e h
  replace h:z54_k3 N g_ e=some r:=h
  unfold z54_k3 at h
  refine wq (wg (ws J 1 Q ?_))
  obtain ⟨f,g,h⟩:=ob h
  refine wc (z81_ct N g_ _ g) [(0,.sl 0),(1,.sl 1),(2,.sl 2),(3,.sl 3)] [] Q Q Q Q Q Q Q Q (.inl rfl) rfl (wx (zz135 g_ e f [(1,.B 4 0),(3,.S 5),(6,.S 7)]) J 1 (wn (wq (wq (wg (ws J 1 Q (wn ?_)))))))
  refine wC (σ:=Unit) (fun st=>(zz18 g_ [(1,.B 4 0)])) (fun st=>z54_k1 N g_=some r) ?_ (fun j12=>?_)
  ·intro _ h
   replace h:z54_k1 N g_=some r:=h
   unfold z54_k1 at h
   refine wq (wg (xw [3,4,5,6] ⟨[(76,.a (cC4 0 1 2 3 g_)),(78,.I g_.End)],[],(vV4 0 1 2 3 g_ []),8⟩ J 3 ?_))
   obtain ⟨i,j,h⟩:=ob h
   refine wc (z28_ct N g_ g_.End _ j) [(0,.sl 0),(1,.sl 1),(2,.sl 2),(3,.sl 3)] [] Q Q Q Q Q Q Q Q (.inl rfl) rfl (wx ⟨[(2,.O ((i.length:Int)==0))],[],(vV4 0 1 2 3 g_ []),9⟩ J 3 (wn ?_))
   cases h
   exact we J Tryz.func54 [] Q Q Q Q
  refine wo ?_
  refine wI (σ:=Int) (fun st=>(zz135 g_ e f [(1,.B 4 0),(3,.S 5),(6,.S 7),(7,.I st)])) (fun n st=>z54_l2 N g_ e f n st) (r:=r) (fun _=>rfl) ?_ (fun ih=>?_)
  ·intro n9 ih14
   intro l h
   replace h:z54_l2 N g_ e f (n9+1) l=some r:=h
   unfold z54_l2 at h
   refine wq (wq (wg (wx (zz135 g_ e f [(1,.B 4 0),(3,.S 5),(6,.S 7),(7,.I l),(61,.O (decide (l < g_.States)))]) J 4 (wn ?_))))
   rcases oc' h with ⟨hc,h⟩ | ⟨hc,h⟩
   ·exact wf hc Q (wz rfl (wu [] (j12 () h) Q Q Q Q))
   refine wt hc Q (wi (wq (wo (wq (wg (ws J 2 Q ?_))))))
   obtain ⟨m,o,h⟩:=ob h
   refine wX J o Q Q Q Q Q Q Q Q Q (xw (rg 3 9) ⟨[(1,.B 4 0),(3,.S 5),(6,.S 7),(7,.I l),(66,.P 8 0)],[(4,.box (cC4 0 1 2 3 g_) 27),(5,.own rB e true),(7,.own (rI .i64) f true)],(vV4 0 1 2 3 g_ [(8,.el 5 ((l).toNat * (rB).sz))]),9⟩ J 0 (wL oB J o Q Q Q Q Q Q Q Q Q Q (xw (rg 6 6) (zz177 g_ e f [(1,.B 4 0),(3,.S 5),(6,.S 7),(7,.I l),(69,.O (!m))]) J 2 ?_)))
   rcases oc h with ⟨hc,h⟩ | ⟨hc,h⟩
   ·refine wy 69 hc Q (wx (zz177 g_ e f [(1,.B 4 0),(3,.S 5),(6,.S 7),(7,.I l),(75,.O true)]) J 6 (wn (wt Q Q (wq (wg (ws J 1 Q (wn ?_)))))))
    cases h
    exact we J Tryz.func54 [] Q Q Q Q
   refine wy 69 hc Q (ws J 2 Q ?_)
   obtain ⟨p,q,h⟩:=ob h
   refine wX J q Q Q Q Q Q Q Q Q Q (xw [9,10,11] ⟨[(1,.B 4 0),(3,.S 5),(6,.S 7),(7,.I l),(69,.O false),(72,.P 9 0)],[(4,.box (cC4 0 1 2 3 g_) 27),(5,.own rB e true),(7,.own (rI .i64) f true)],(vV4 0 1 2 3 g_ [(9,.el 7 ((l).toNat * ((rI .i64)).sz))]),10⟩ J 0 (wL (oI .i64) J q Q Q Q Q Q Q Q Q Q Q (wx (zz178 g_ e f [(1,.B 4 0),(3,.S 5),(6,.S 7),(7,.I l),(75,.O (decide (p < 0)))]) J 2 (wn ?_))))
   rcases oc h with ⟨hc,h⟩ | ⟨hc,h⟩
   ·refine wt hc Q (wq (wg (ws J 1 Q (wn ?_))))
    cases h
    exact we J Tryz.func54 [] Q Q Q Q
   exact wf hc Q (wi (wb (wg (wx (zz178 g_ e f [(1,.B 4 0),(3,.S 5),(6,.S 7),(7,.I (w64 (l+1)))]) J 3 (wn (wu [] (ih14 (w64 (l+1)) h) Q Q Q Q))))))
  exact wu [] (ih N 0 h) Q Q Q Q
 refine wo ?_
 refine wI (σ:=(List Bool) × Int) (fun st=>(zz46 g_ st.1 [(1,.B 4 0),(3,.S 5),(4,.I st.2)])) (fun n st=>z54_l4 N g_ n st.1 st.2) (r:=r) (fun _=>rfl) ?_ (fun ih=>?_)
 ·intro n14 ih15
  rintro ⟨s,v⟩ h
  replace h:z54_l4 N g_ (n14+1) s v=some r:=h
  unfold z54_l4 at h
  refine wq (wq (wg (wx (zz46 g_ s [(1,.B 4 0),(3,.S 5),(4,.I v),(18,.O (decide (v < g_.States)))]) J 4 (wn ?_))))
  rcases oc' h with ⟨hc,h⟩ | ⟨hc,h⟩
  ·exact wf hc Q (wz rfl (wu [] (j1 s h) Q Q Q Q))
  refine wt hc Q (wi (wq (wo (wq (wg (ws J 1 Q (wn ?_)))))))
  refine wC (σ:=(List Bool)) (fun st=>(zz46 g_ st [(1,.B 4 0),(3,.S 5),(4,.I v)])) (fun st=>z54_k5 v (z54_l4 N g_ n14) st=some r) ?_ (fun j22=>?_)
  ·intro x h
   replace h:z54_k5 v (z54_l4 N g_ n14) x=some r:=h
   unfold z54_k5 at h
   exact wb (wg (wx (zz46 g_ x [(1,.B 4 0),(3,.S 5),(4,.I (w64 (v+1)))]) J 3 (wn (wu [] (ih15 (x,(w64 (v+1))) h) Q Q Q Q))))
  refine wo ?_
  refine wI (σ:=(List Bool) × Int) (fun st=>(zz46 g_ st.1 [(1,.B 4 0),(3,.S 5),(4,.I v),(5,.I st.2)])) (fun n st=>z54_l6 g_ v (z54_l4 N g_ n14) n st.1 st.2) (r:=r) (fun _=>rfl) ?_ (fun ih=>?_)
  ·intro n16 ih24
   rintro ⟨y,z⟩ h
   replace h:z54_l6 g_ v (z54_l4 N g_ n14) (n16+1) y z=some r:=h
   unfold z54_l6 at h
   refine wq (wq (wg (wx (zz46 g_ y [(1,.B 4 0),(3,.S 5),(4,.I v),(5,.I z),(25,.O (decide (z < (g_.Edges.length:Int))))]) J 5 (wn ?_))))
   rcases oc' h with ⟨hc,h⟩ | ⟨hc,h⟩
   ·exact wf hc Q (wz rfl (wu [] (j22 y h) Q Q Q Q))
   refine wt hc Q (wi (wq (wo (wN (fun A C D=>?_)))))
   have G:A 0 (zz4 [(3,.S 5)] [(28,.S 5)]):=C _ _ (wl J Q Q Q Q Q Q)
   have H:A 1 (zz4 [(1,.B 4 0)] [(29,.B 4 6)]):=C _ _ (wl J Q Q Q Q Q Q)
   have K:A 2 ⟨[(29,.B 4 6)],(vV4 0 1 2 3 g_ []),[],[(4,.box (cC4 0 1 2 3 g_) 27)],7,[(30,.S 2)],[],[],7⟩:=C _ _ (wl J Q Q Q Q Q Q)
   have R:A 3 (zz4 [(5,.I z)] [(31,.I z)]):=C _ _ (wl J Q Q Q Q Q Q)
   obtain ⟨T,U,h⟩:=ob h
   have X:A 4 ⟨[(30,.S 2),(31,.I z)],[(2,.sl rR2 g_.Edges)],[],[],7,[(32,.P 7 0)],[(7,.pl (cC2 T))],[],8⟩:=C _ _ (wO Q Q Q (fun _ _ _ _ _ _ _ k=>wj oO2 J U Q Q Q Q Q Q Q Q Q (k)) rfl)
   have Y:A 5 ⟨[(32,.P 7 0)],[(7,.pl (cC2 T))],[],[],8,[(33,.P 7 4)],[],[],8⟩:=C _ _ (wl J Q Q Q Q Q Q)
   have Z:A 6 ⟨[(33,.P 7 4)],[(7,.pl (cC2 T))],[],[],8,[(34,.I T.To)],[],[],8⟩:=C _ _ (wl J Q Q Q Q Q Q)
   have a0:A 7 (zz11 [(3,.S 5)] [(35,.S 5)]):=C _ _ (wl J Q Q Q Q Q Q)
   have b0:A 8 (zz11 [(1,.B 4 0)] [(36,.B 4 6)]):=C _ _ (wl J Q Q Q Q Q Q)
   have c0:A 9 ⟨[(36,.B 4 6)],(vV4 0 1 2 3 g_ []),[],[(4,.box (cC4 0 1 2 3 g_) 27)],8,[(37,.S 2)],[],[],8⟩:=C _ _ (wl J Q Q Q Q Q Q)
   have d0:A 10 (zz11 [(5,.I z)] [(38,.I z)]):=C _ _ (wl J Q Q Q Q Q Q)
   obtain ⟨e0,f0,h⟩:=ob h
   have g0:A 11 ⟨[(37,.S 2),(38,.I z)],[(2,.sl rR2 g_.Edges)],[],[],8,[(39,.P 8 0)],[(8,.pl (cC2 e0))],[],9⟩:=C _ _ (wO Q Q Q (fun _ _ _ _ _ _ _ k=>wj oO2 J f0 Q Q Q Q Q Q Q Q Q (k)) rfl)
   have i0:A 12 ⟨[(39,.P 8 0)],[(8,.pl (cC2 e0))],[],[],9,[(40,.P 8 4)],[],[],9⟩:=C _ _ (wl J Q Q Q Q Q Q)
   have j0:A 13 ⟨[(40,.P 8 4)],[(8,.pl (cC2 e0))],[],[],9,[(41,.I e0.To)],[],[],9⟩:=C _ _ (wl J Q Q Q Q Q Q)
   obtain ⟨k0,l0,h⟩:=ob h
   have m0:A 14 ⟨[(35,.S 5),(41,.I e0.To)],[],[],[(5,.own rB y true)],9,[(42,.P 9 0)],[(9,.el 5 ((e0.To).toNat * (rB).sz))],[],10⟩:=C _ _ (wO Q Q Q (fun _ _ _ _ _ _ _ k=>wX J l0 Q Q Q Q Q Q Q Q Q (k)) rfl)
   have o0:A 15 ⟨[(42,.P 9 0)],[(9,.el 5 ((e0.To).toNat * (rB).sz))],[],[(5,.own rB y true)],10,[(43,.O k0)],[],[],10⟩:=C _ _ (wO Q Q Q (fun _ _ _ _ _ _ _ k=>wL oB J l0 Q Q Q Q Q Q Q Q Q Q (k)) rfl)
   have p0:A 16 (zz21 [(43,.O k0)] [(44,.O k0)]):=C _ _ (wl J Q Q Q Q Q Q)
   rcases oc h with ⟨hc,h⟩ | ⟨hc,h⟩
   ·have q0:=C _ _ (LS.kb hc Q (D _ _ p0))
    have s0:A 17 (zz21 [(44,.O true)] [(45,.u)]):=C _ _ (LS.skip Q Q Q (.inr ⟨_,rfl,rfl⟩) Q Q)
    have t0:A 18 (zz21 [(44,.O true)] [(46,.u)]):=C _ _ (LS.skip Q Q Q (.inr ⟨_,rfl,rfl⟩) Q Q)
    have u0:A 19 (zz21 [(44,.O true)] [(47,.u)]):=C _ _ (LS.skip Q Q Q (.inr ⟨_,rfl,rfl⟩) Q Q)
    have v0:A 20 (zz21 [(44,.O true)] [(48,.u)]):=C _ _ (LS.skip Q Q Q (.inr ⟨_,rfl,rfl⟩) Q Q)
    have x0:A 21 (zz21 [(44,.O true)] [(49,.u)]):=C _ _ (LS.skip Q Q Q (.inr ⟨_,rfl,rfl⟩) Q Q)
    have y0:A 22 (zz21 [(44,.O true)] [(50,.u)]):=C _ _ (LS.skip Q Q Q (.inr ⟨_,rfl,rfl⟩) Q Q)
    have z0:A 23 (zz21 [(44,.O true)] [(51,.u)]):=C _ _ (LS.skip Q Q Q (.inr ⟨_,rfl,rfl⟩) Q Q)
    have A0:A 24 (zz21 [(44,.O true)] [(52,.u)]):=C _ _ (LS.skip Q Q Q (.inr ⟨_,rfl,rfl⟩) Q Q)
    have B0:A 25 (zz21 [(44,.O true)] [(53,.u)]):=C _ _ (LS.skip Q Q Q (.inr ⟨_,rfl,rfl⟩) Q Q)
    have C0:A 26 (zz21 [(44,.O true),(53,.u)] [(54,.O true)]):=C _ _ (wl J Q Q Q Q Q Q)
    obtain ⟨D0,G0,h⟩:=ob h
    have H0:A 27 ⟨[(28,.S 5),(34,.I T.To)],[],[],[(5,.own rB y true)],10,[(55,.P 10 0)],[(10,.el 5 ((T.To).toNat * (rB).sz))],[],11⟩:=C _ _ (wO Q Q Q (fun _ _ _ _ _ _ _ k=>wX J G0 Q Q Q Q Q Q Q Q Q (k)) rfl)
    have I0:A 28 ⟨[(54,.O true),(55,.P 10 0)],[(10,.el 5 ((T.To).toNat * (rB).sz))],[(5,.own rB y true)],[],11,[],[],[(5,.own rB (setL' y T.To true) true)],11⟩:=C _ _ (wO Q Q Q (fun _ _ _ _ _ _ _ k=>WPr.sto oB J true G0 Q Q Q Q Q Q Q Q Q Q (by exact rfl) rfl (k)) rfl)
    exact wD (t:=⟨[(1,.B 4 0),(3,.S 5),(4,.I v),(5,.I z)],[(4,.box (cC4 0 1 2 3 g_) 27),(5,.own rB (setL' y T.To true) true)],(vV4 0 1 2 3 g_ []),11⟩) [0,0,2,0,14,30,62,0,0,256,0,1792,3840,7936,16256,32640,65408,130944,130944,393088,130944,1965952,4063104,8257408,16777088,33554304,67108736,134217727,268435455] (.cons (D _ _ G) (.cons (D _ _ H) (.cons (D _ _ K) (.cons (D _ _ R) (.cons (D _ _ X) (.cons (D _ _ Y) (.cons (D _ _ Z) (.cons (D _ _ a0) (.cons (D _ _ b0) (.cons (D _ _ c0) (.cons (D _ _ d0) (.cons (D _ _ g0) (.cons (D _ _ i0) (.cons (D _ _ j0) (.cons (D _ _ m0) (.cons (D _ _ o0) (.cons (D _ _ q0) (.cons (D _ _ s0) (.cons (D _ _ t0) (.cons (D _ _ u0) (.cons (D _ _ v0) (.cons (D _ _ x0) (.cons (D _ _ y0) (.cons (D _ _ z0) (.cons (D _ _ A0) (.cons (D _ _ B0) (.cons (D _ _ C0) (.cons (D _ _ H0) (.cons (D _ _ I0) .nil))))))))))))))))))))))))))))) (by kernel_rfl) (by kernel_rfl) (by kernel_rfl) (by kernel_rfl) (wb (wg (wx ⟨[(1,.B 4 0),(3,.S 5),(4,.I v),(5,.I (w64 (z+1)))],[(4,.box (cC4 0 1 2 3 g_) 27),(5,.own rB (setL' y T.To true) true)],(vV4 0 1 2 3 g_ []),11⟩ J 3 (wn (wu [] (ih24 ((setL' y T.To true),(w64 (z+1))) h) Q Q Q Q)))))
   have K0:=C _ _ (LS.kb hc Q (D _ _ p0))
   have L0:A 17 (zz21 [(3,.S 5),(44,.O false)] [(45,.S 5)]):=C _ _ (wl J Q Q Q Q Q Q)
   have M0:A 18 (zz21 [(1,.B 4 0),(44,.O false)] [(46,.B 4 6)]):=C _ _ (wl J Q Q Q Q Q Q)
   have O0:A 19 ⟨[(44,.O false),(46,.B 4 6)],(vV4 0 1 2 3 g_ []),[],[(4,.box (cC4 0 1 2 3 g_) 27)],10,[(47,.S 2)],[],[],10⟩:=C _ _ (wl J Q Q Q Q Q Q)
   have R0:A 20 (zz21 [(5,.I z),(44,.O false)] [(48,.I z)]):=C _ _ (wl J Q Q Q Q Q Q)
   obtain ⟨S0,T0,h⟩:=ob h
   have U0:A 21 ⟨[(44,.O false),(47,.S 2),(48,.I z)],[(2,.sl rR2 g_.Edges)],[],[],10,[(49,.P 10 0)],[(10,.pl (cC2 S0))],[],11⟩:=C _ _ (wO Q Q Q (fun _ _ _ _ _ _ _ k=>wj oO2 J T0 Q Q Q Q Q Q Q Q Q (k)) rfl)
   have V0:A 22 ⟨[(44,.O false),(49,.P 10 0)],[(10,.pl (cC2 S0))],[],[],11,[(50,.P 10 0)],[],[],11⟩:=C _ _ (wl J Q Q Q Q Q Q)
   have X0:A 23 ⟨[(44,.O false),(50,.P 10 0)],[(10,.pl (cC2 S0))],[],[],11,[(51,.I S0.From)],[],[],11⟩:=C _ _ (wl J Q Q Q Q Q Q)
   obtain ⟨Y0,Z0,h⟩:=ob h
   have a1:A 24 ⟨[(44,.O false),(45,.S 5),(51,.I S0.From)],[],[],[(5,.own rB y true)],11,[(52,.P 11 0)],[(11,.el 5 ((S0.From).toNat * (rB).sz))],[],12⟩:=C _ _ (wO Q Q Q (fun _ _ _ _ _ _ _ k=>wX J Z0 Q Q Q Q Q Q Q Q Q (k)) rfl)
   have b1:A 25 ⟨[(44,.O false),(52,.P 11 0)],[(11,.el 5 ((S0.From).toNat * (rB).sz))],[],[(5,.own rB y true)],12,[(53,.O Y0)],[],[],12⟩:=C _ _ (wO Q Q Q (fun _ _ _ _ _ _ _ k=>wL oB J Z0 Q Q Q Q Q Q Q Q Q Q (k)) rfl)
   have c1:A 26 ⟨[(44,.O false),(53,.O Y0)],[],[],[],12,[(54,.O Y0)],[],[],12⟩:=C _ _ (wl J Q Q Q Q Q Q)
   obtain ⟨d1,e1,h⟩:=ob h
   have f1:A 27 ⟨[(28,.S 5),(34,.I T.To)],[],[],[(5,.own rB y true)],12,[(55,.P 12 0)],[(12,.el 5 ((T.To).toNat * (rB).sz))],[],13⟩:=C _ _ (wO Q Q Q (fun _ _ _ _ _ _ _ k=>wX J e1 Q Q Q Q Q Q Q Q Q (k)) rfl)
   have g1:A 28 ⟨[(54,.O Y0),(55,.P 12 0)],[(12,.el 5 ((T.To).toNat * (rB).sz))],[(5,.own rB y true)],[],13,[],[],[(5,.own rB (setL' y T.To Y0) true)],13⟩:=C _ _ (wO Q Q Q (fun _ _ _ _ _ _ _ k=>WPr.sto oB J Y0 e1 Q Q Q Q Q Q Q Q Q Q (by exact rfl) rfl (k)) rfl)
   exact wD (t:=⟨[(1,.B 4 0),(3,.S 5),(4,.I v),(5,.I z)],[(4,.box (cC4 0 1 2 3 g_) 27),(5,.own rB (setL' y T.To Y0) true)],(vV4 0 1 2 3 g_ []),13⟩) [0,0,2,0,14,30,62,0,0,256,0,1792,3840,7936,16256,32640,65408,130944,130944,393088,130944,1965952,4063104,8257408,16777088,33554304,67108736,134217727,268435455] (.cons (D _ _ G) (.cons (D _ _ H) (.cons (D _ _ K) (.cons (D _ _ R) (.cons (D _ _ X) (.cons (D _ _ Y) (.cons (D _ _ Z) (.cons (D _ _ a0) (.cons (D _ _ b0) (.cons (D _ _ c0) (.cons (D _ _ d0) (.cons (D _ _ g0) (.cons (D _ _ i0) (.cons (D _ _ j0) (.cons (D _ _ m0) (.cons (D _ _ o0) (.cons (D _ _ K0) (.cons (D _ _ L0) (.cons (D _ _ M0) (.cons (D _ _ O0) (.cons (D _ _ R0) (.cons (D _ _ U0) (.cons (D _ _ V0) (.cons (D _ _ X0) (.cons (D _ _ a1) (.cons (D _ _ b1) (.cons (D _ _ c1) (.cons (D _ _ f1) (.cons (D _ _ g1) .nil))))))))))))))))))))))))))))) (by kernel_rfl) (by kernel_rfl) (by kernel_rfl) (by kernel_rfl) (wb (wg (wx ⟨[(1,.B 4 0),(3,.S 5),(4,.I v),(5,.I (w64 (z+1)))],[(4,.box (cC4 0 1 2 3 g_) 27),(5,.own rB (setL' y T.To Y0) true)],(vV4 0 1 2 3 g_ []),13⟩ J 3 (wn (wu [] (ih24 ((setL' y T.To Y0),(w64 (z+1))) h) Q Q Q Q)))))
  exact wu [] (ih N (s,0) h) Q Q Q Q
 exact wu [] (ih N ((setL' x1 g_.Start true),0) h) Q Q Q Q
theorem z55_ct (N:Nat) (g_:T4) (r:Bool) (h:z55 N g_=some r) :
 Fn Tryz.prog 55 ⟨4,[.a (cC4 0 1 2 3 g_)],(vV4 0 1 2 3 g_ []),[],4,.O r,[],[]⟩:=by
 refine Fn.intro _ _ Tryz.func55 rfl (by kernel_rfl) rfl (fun E F w=>?_)
 unfold z55 at h
 refine wq (wg (ws J 2 Q (wn (wq (wq (wg (wx (zz2 g_ [(1,.B 4 0),(2,.O false),(3,.I 0)]) J 1 (wn ?_))))))))
 refine wC (σ:=Unit) (fun st=>(zz7 g_ [])) (fun st=>z55_k1=some r) ?_ (fun j1=>?_)
 ·intro _ h
  replace h:z55_k1=some r:=h
  unfold z55_k1 at h
  refine wq (wg (ws J 1 Q (wn ?_)))
  cases h
  exact we J Tryz.func55 [] Q Q Q Q
 refine wo ?_
 refine wI (σ:=Int) (fun st=>(zz2 g_ [(1,.B 4 0),(3,.I st)])) (fun n st=>z55_l2 N g_ n st) (r:=r) (fun _=>rfl) ?_ (fun ih=>?_)
 ·intro n2 ih3
  intro c h
  replace h:z55_l2 N g_ (n2+1) c=some r:=h
  unfold z55_l2 at h
  refine wq (wq (wg (wx (zz2 g_ [(1,.B 4 0),(3,.I c),(9,.O (decide (c < (g_.Timeouts.length:Int))))]) J 5 (wn ?_))))
  rcases oc' h with ⟨hc,h⟩ | ⟨hc,h⟩
  ·exact wf hc Q (wz rfl (wu [] (j1 () h) Q Q Q Q))
  refine wt hc Q (wi (wq (wo (wq (wg (xw [3,4,5,6] (zz2 g_ [(1,.B 4 0),(3,.I c),(13,.S 3),(14,.I c)]) J 3 ?_))))))
  obtain ⟨d,e,h⟩:=ob h
  refine wj oO8 J e Q Q Q Q Q Q Q Q Q (wx (zz12 g_ d [(1,.B 4 0),(3,.I c),(4,.B 6 0)]) J 3 (wn (wq (wQ (by kernel_rfl) (by kernel_rfl) (xq (rg 3 62) (zz12 g_ d [(1,.B 4 0),(3,.I c),(4,.B 6 0),(17,.a (cC4 0 1 2 3 g_)),(19,.I d.State)]) J 3 ?_)))))
  obtain ⟨f,g,h⟩:=ob h
  refine qc (z114_ct N g_ d.State _ g) [(0,.sl 0),(1,.sl 1),(2,.sl 2),(3,.sl 3)] [] Q Q Q Q Q Q Q Q Q Q Q Q (xq (rg 6 59) (zz12 g_ d [(1,.B 4 0),(3,.I c),(4,.B 6 0),(22,.O (!f))]) J 2 ?_)
  rcases oc h with ⟨hc,h⟩ | ⟨hc,h⟩
  ·refine qy 22 hc Q (qx (zz14 g_ [(1,.B 4 0),(3,.I c),(81,.O true)]) J 59 (qn (wt Q Q (wq (wg (ws J 1 Q (wn ?_)))))))
   cases h
   exact we J Tryz.func55 [] Q Q Q Q
  refine qy 22 hc Q (xq (rg 9 56) (zz12 g_ d [(1,.B 4 0),(3,.I c),(4,.B 6 0),(22,.O false),(25,.O (decide (c > 0)))]) J 3 ?_)
  rcases oc' h with ⟨hc,h⟩ | ⟨hc,h⟩
  ·refine qy 25 hc Q (xq (rg 27 38) (zz12 g_ d [(1,.B 4 0),(3,.I c),(4,.B 6 0),(43,.O (decide (d.Ticks < 1)))]) J 18 ?_)
   rcases oc h with ⟨hc,h⟩ | ⟨hc,h⟩
   ·refine qy 43 hc Q (qx (zz14 g_ [(1,.B 4 0),(3,.I c),(81,.O true)]) J 38 (qn (wt Q Q (wq (wg (ws J 1 Q (wn ?_)))))))
    cases h
    exact we J Tryz.func55 [] Q Q Q Q
   refine qy 43 hc Q (xq (rg 32 33) (zz12 g_ d [(1,.B 4 0),(3,.I c),(4,.B 6 0),(48,.O (decide (d.Ticks > 1000)))]) J 5 ?_)
   rcases oc h with ⟨hc,h⟩ | ⟨hc,h⟩
   ·refine qy 48 hc Q (qx (zz14 g_ [(1,.B 4 0),(3,.I c),(81,.O true)]) J 33 (qn (wt Q Q (wq (wg (ws J 1 Q (wn ?_)))))))
    cases h
    exact we J Tryz.func55 [] Q Q Q Q
   refine qy 48 hc Q (xq (rg 37 28) (zz12 g_ d [(1,.B 4 0),(3,.I c),(4,.B 6 0),(53,.O (decide (d.Else < 0)))]) J 5 ?_)
   rcases oc h with ⟨hc,h⟩ | ⟨hc,h⟩
   ·refine qy 53 hc Q (qx (zz14 g_ [(1,.B 4 0),(3,.I c),(81,.O true)]) J 28 (qn (wt Q Q (wq (wg (ws J 1 Q (wn ?_)))))))
    cases h
    exact we J Tryz.func55 [] Q Q Q Q
   refine qy 53 hc Q (xq (rg 45 20) (zz12 g_ d [(1,.B 4 0),(3,.I c),(4,.B 6 0),(61,.O (decide (d.Else≥(g_.Edges.length:Int))))]) J 8 ?_)
   rcases oc h with ⟨hc,h⟩ | ⟨hc,h⟩
   ·refine qy 61 hc Q (qx (zz14 g_ [(1,.B 4 0),(3,.I c),(81,.O true)]) J 20 (qn (wt Q Q (wq (wg (ws J 1 Q (wn ?_)))))))
    cases h
    exact we J Tryz.func55 [] Q Q Q Q
   refine qy 61 hc Q (xq (rg 49 16) (zz12 g_ d [(1,.B 4 0),(3,.I c),(4,.B 6 0),(61,.O false),(63,.S 2),(65,.I d.Else)]) J 4 ?_)
   obtain ⟨i,j,h⟩:=ob h
   refine WPq.op Q Q (VN.vs (VN.ix oO2 J j Q Q Q Q Q Q Q)) (xq (rg 57 8) (zz34 g_ d [(1,.B 4 0),(3,.I c),(4,.B 6 0),(73,.O (i.From != d.State))]) J 7 ?_)
   rcases oc h with ⟨hc,h⟩ | ⟨hc,h⟩
   ·refine qy 73 hc Q (qx (zz18 g_ [(1,.B 4 0),(3,.I c),(81,.O true)]) J 8 (qn (wt Q Q (wq (wg (ws J 1 Q (wn ?_)))))))
    cases h
    exact we J Tryz.func55 [] Q Q Q Q
   refine qy 73 hc Q (xq [61,62,63,64] (zz18 g_ [(1,.B 4 0),(3,.I c),(73,.O false),(75,.S 2),(77,.I d.Else)]) J 4 ?_)
   obtain ⟨k,l,h⟩:=ob h
   refine WPq.op Q Q (VN.vs (VN.ix oO2 J l Q Q Q Q Q Q Q)) (qx (zz70 g_ [(1,.B 4 0),(3,.I c),(81,.O k.Again)]) J 3 (qn ?_))
   rcases oc h with ⟨hc,h⟩ | ⟨hc,h⟩
   ·refine wt hc Q (wq (wg (ws J 1 Q (wn ?_))))
    cases h
    exact we J Tryz.func55 [] Q Q Q Q
   exact wf hc Q (wi (wb (wg (wx (zz70 g_ [(1,.B 4 0),(3,.I (w64 (c+1)))]) J 3 (wn (wu [] (ih3 (w64 (c+1)) h) Q Q Q Q))))))
  refine qy 25 hc Q (xq (rg 15 50) (zz12 g_ d [(1,.B 4 0),(3,.I c),(4,.B 6 0),(22,.O false),(25,.O true),(27,.I d.State),(29,.S 3),(31,.I (w64 (c-1)))]) J 6 ?_)
  obtain ⟨m,o,h⟩:=ob h
  refine WPq.op Q Q (VN.vs (VN.ix oO8 J o Q Q Q Q Q Q Q)) (xq (rg 22 43) (zz34 g_ d [(1,.B 4 0),(3,.I c),(4,.B 6 0),(38,.O (decide (d.State≤m.State)))]) J 6 ?_)
  rcases oc h with ⟨hc,h⟩ | ⟨hc,h⟩
  ·refine qy 38 hc Q (qx (zz18 g_ [(1,.B 4 0),(3,.I c),(81,.O true)]) J 43 (qn (wt Q Q (wq (wg (ws J 1 Q (wn ?_)))))))
   cases h
   exact we J Tryz.func55 [] Q Q Q Q
  refine qy 38 hc Q (xq (rg 27 38) (zz34 g_ d [(1,.B 4 0),(3,.I c),(4,.B 6 0),(43,.O (decide (d.Ticks < 1)))]) J 5 ?_)
  rcases oc h with ⟨hc,h⟩ | ⟨hc,h⟩
  ·refine qy 43 hc Q (qx (zz18 g_ [(1,.B 4 0),(3,.I c),(81,.O true)]) J 38 (qn (wt Q Q (wq (wg (ws J 1 Q (wn ?_)))))))
   cases h
   exact we J Tryz.func55 [] Q Q Q Q
  refine qy 43 hc Q (xq (rg 32 33) (zz34 g_ d [(1,.B 4 0),(3,.I c),(4,.B 6 0),(48,.O (decide (d.Ticks > 1000)))]) J 5 ?_)
  rcases oc h with ⟨hc,h⟩ | ⟨hc,h⟩
  ·refine qy 48 hc Q (qx (zz18 g_ [(1,.B 4 0),(3,.I c),(81,.O true)]) J 33 (qn (wt Q Q (wq (wg (ws J 1 Q (wn ?_)))))))
   cases h
   exact we J Tryz.func55 [] Q Q Q Q
  refine qy 48 hc Q (xq (rg 37 28) (zz34 g_ d [(1,.B 4 0),(3,.I c),(4,.B 6 0),(53,.O (decide (d.Else < 0)))]) J 5 ?_)
  rcases oc h with ⟨hc,h⟩ | ⟨hc,h⟩
  ·refine qy 53 hc Q (qx (zz18 g_ [(1,.B 4 0),(3,.I c),(81,.O true)]) J 28 (qn (wt Q Q (wq (wg (ws J 1 Q (wn ?_)))))))
   cases h
   exact we J Tryz.func55 [] Q Q Q Q
  refine qy 53 hc Q (xq (rg 45 20) (zz34 g_ d [(1,.B 4 0),(3,.I c),(4,.B 6 0),(61,.O (decide (d.Else≥(g_.Edges.length:Int))))]) J 8 ?_)
  rcases oc h with ⟨hc,h⟩ | ⟨hc,h⟩
  ·refine qy 61 hc Q (qx (zz18 g_ [(1,.B 4 0),(3,.I c),(81,.O true)]) J 20 (qn (wt Q Q (wq (wg (ws J 1 Q (wn ?_)))))))
   cases h
   exact we J Tryz.func55 [] Q Q Q Q
  refine qy 61 hc Q (xq (rg 49 16) (zz34 g_ d [(1,.B 4 0),(3,.I c),(4,.B 6 0),(61,.O false),(63,.S 2),(65,.I d.Else)]) J 4 ?_)
  obtain ⟨p,q,h⟩:=ob h
  refine WPq.op Q Q (VN.vs (VN.ix oO2 J q Q Q Q Q Q Q Q)) (xq (rg 57 8) ⟨[(1,.B 4 0),(3,.I c),(4,.B 6 0),(73,.O (p.From != d.State))],[(4,.box (cC4 0 1 2 3 g_) 27),(6,.box (cC8 d) 79)],(vV4 0 1 2 3 g_ []),9⟩ J 7 ?_)
  rcases oc h with ⟨hc,h⟩ | ⟨hc,h⟩
  ·refine qy 73 hc Q (qx (zz70 g_ [(1,.B 4 0),(3,.I c),(81,.O true)]) J 8 (qn (wt Q Q (wq (wg (ws J 1 Q (wn ?_)))))))
   cases h
   exact we J Tryz.func55 [] Q Q Q Q
  refine qy 73 hc Q (xq [61,62,63,64] (zz70 g_ [(1,.B 4 0),(3,.I c),(73,.O false),(75,.S 2),(77,.I d.Else)]) J 4 ?_)
  obtain ⟨s,t,h⟩:=ob h
  refine WPq.op Q Q (VN.vs (VN.ix oO2 J t Q Q Q Q Q Q Q)) (qx ⟨[(1,.B 4 0),(3,.I c),(81,.O s.Again)],[(4,.box (cC4 0 1 2 3 g_) 27)],(vV4 0 1 2 3 g_ []),10⟩ J 3 (qn ?_))
  rcases oc h with ⟨hc,h⟩ | ⟨hc,h⟩
  ·refine wt hc Q (wq (wg (ws J 1 Q (wn ?_))))
   cases h
   exact we J Tryz.func55 [] Q Q Q Q
  exact wf hc Q (wi (wb (wg (wx ⟨[(1,.B 4 0),(3,.I (w64 (c+1)))],[(4,.box (cC4 0 1 2 3 g_) 27)],(vV4 0 1 2 3 g_ []),10⟩ J 3 (wn (wu [] (ih3 (w64 (c+1)) h) Q Q Q Q))))))
 exact wu [] (ih N 0 h) Q Q Q Q
theorem z19_ct (N:Nat) (g_:T4) (r:Bool) (h:z19 N g_=some r) :
 Fn Tryz.prog 19 ⟨4,[.a (cC4 0 1 2 3 g_)],(vV4 0 1 2 3 g_ []),[],4,.O r,[],[]⟩:=by
 refine Fn.intro _ _ Tryz.func19 rfl (by kernel_rfl) rfl (fun E F w=>?_)
 unfold z19 at h
 refine wq (wg (ws J 2 Q (wn (wq (wg (xw (rg 1 18) (zz2 g_ [(1,.B 4 0),(3,.a (cC4 0 1 2 3 g_))]) J 1 ?_))))))
 obtain ⟨x1,c,h⟩:=ob h
 refine wc (z51_ct N g_ _ c) [(0,.sl 0),(1,.sl 1),(2,.sl 2),(3,.sl 3)] [] Q Q Q Q Q Q Q Q (.inl rfl) rfl (xw (rg 3 16) (zz2 g_ [(1,.B 4 0),(5,.O x1)]) J 1 ?_)
 rcases oc' h with ⟨hc,h⟩ | ⟨hc,h⟩
 ·refine wy 5 hc Q (wx (zz7 g_ [(2,.O false)]) J 16 (wn ?_))
  cases h
  exact we J Tryz.func19 [] Q Q Q Q
 refine wy 5 hc Q (ws J 1 Q ?_)
 obtain ⟨x2,d,h⟩:=ob h
 refine wc (z52_ct N g_ _ d) [(0,.sl 0),(1,.sl 1),(2,.sl 2),(3,.sl 3)] [] Q Q Q Q Q Q Q Q (.inl rfl) rfl (xw (rg 7 12) (zz2 g_ [(1,.B 4 0),(9,.O x2)]) J 2 ?_)
 rcases oc' h with ⟨hc,h⟩ | ⟨hc,h⟩
 ·refine wy 9 hc Q (wx (zz7 g_ [(2,.O false)]) J 12 (wn ?_))
  cases h
  exact we J Tryz.func19 [] Q Q Q Q
 refine wy 9 hc Q (ws J 1 Q ?_)
 obtain ⟨x3,e,h⟩:=ob h
 refine wc (z53_ct N g_ _ e) [(0,.sl 0),(1,.sl 1),(2,.sl 2),(3,.sl 3)] [] Q Q Q Q Q Q Q Q (.inl rfl) rfl (xw (rg 11 8) (zz2 g_ [(1,.B 4 0),(13,.O x3)]) J 2 ?_)
 rcases oc' h with ⟨hc,h⟩ | ⟨hc,h⟩
 ·refine wy 13 hc Q (wx (zz7 g_ [(2,.O false)]) J 8 (wn ?_))
  cases h
  exact we J Tryz.func19 [] Q Q Q Q
 refine wy 13 hc Q (ws J 1 Q ?_)
 obtain ⟨x4,f,h⟩:=ob h
 refine wc (z54_ct N g_ _ f) [(0,.sl 0),(1,.sl 1),(2,.sl 2),(3,.sl 3)] [] Q Q Q Q Q Q Q Q (.inl rfl) rfl (xw [15,16,17,18] (zz2 g_ [(1,.B 4 0),(17,.O x4)]) J 2 ?_)
 rcases oc' h with ⟨hc,h⟩ | ⟨hc,h⟩
 ·refine wy 17 hc Q (wx (zz7 g_ [(2,.O false)]) J 4 (wn ?_))
  cases h
  exact we J Tryz.func19 [] Q Q Q Q
 refine wy 17 hc Q (ws J 1 Q ?_)
 obtain ⟨x5,g,h⟩:=ob h
 refine wc (z55_ct N g_ _ g) [(0,.sl 0),(1,.sl 1),(2,.sl 2),(3,.sl 3)] [] Q Q Q Q Q Q Q Q (.inl rfl) rfl (wx (zz7 g_ [(2,.O x5)]) J 2 (wn ?_))
 cases h
 exact we J Tryz.func19 [] Q Q Q Q
theorem z128_ct (N:Nat) (a_:(List T1)) (b_:(List T1)) (r:Bool) (h:z128 N a_ b_=some r) :
 Fn Tryz.prog 128 ⟨2,[.S 0,.S 1],[(0,.sl rR1 a_),(1,.sl rR1 b_)],[],2,.O r,[],[]⟩:=by
 refine Fn.intro _ _ Tryz.func128 rfl (by kernel_rfl) rfl (fun E F w=>?_)
 unfold z128 at h
 refine wq (wg (ws J 1 Q (wn (wq (wq (wg (wx (zz39 a_ b_ [(0,.S 0),(1,.S 1),(4,.O false),(10,.O ((a_.length:Int) != (b_.length:Int)))]) J 5 (wn ?_))))))))
 rcases oc h with ⟨hc,h⟩ | ⟨hc,h⟩
 ·refine wt hc Q (wq (wg (ws J 1 Q (wn ?_))))
  cases h
  exact we J Tryz.func128 [] Q Q Q Q
 refine wf hc Q (wi (wq (wq (wg (ws J 1 Q (wn ?_))))))
 refine wC (σ:=Unit) (fun st=>(zz39 a_ b_ [])) (fun st=>z128_k1=some r) ?_ (fun j1=>?_)
 ·intro _ h
  replace h:z128_k1=some r:=h
  unfold z128_k1 at h
  refine wq (wg (ws J 1 Q (wn ?_)))
  cases h
  exact we J Tryz.func128 [] Q Q Q Q
 refine wo ?_
 refine wI (σ:=Int) (fun st=>(zz39 a_ b_ [(0,.S 0),(1,.S 1),(5,.I st)])) (fun n st=>z128_l2 a_ b_ n st) (r:=r) (fun _=>rfl) ?_ (fun ih=>?_)
 ·intro n2 ih3
  intro c h
  replace h:z128_l2 a_ b_ (n2+1) c=some r:=h
  unfold z128_l2 at h
  refine wq (wq (wg (wx (zz39 a_ b_ [(0,.S 0),(1,.S 1),(5,.I c),(14,.O (decide (c < (a_.length:Int))))]) J 4 (wn ?_))))
  rcases oc' h with ⟨hc,h⟩ | ⟨hc,h⟩
  ·exact wf hc Q (wz rfl (wu [] (j1 () h) Q Q Q Q))
  refine wt hc Q (wi (wq (wo (wq (wQ (by kernel_rfl) (by kernel_rfl) (WPq.sil J 2 rfl ?_))))))
  obtain ⟨d,e,h⟩:=ob h
  refine WPq.op Q Q (VN.vs (VN.ix oO1 J e Q Q Q Q Q Q Q)) (xq [6,7,8] ⟨[(0,.S 0),(1,.S 1),(5,.I c),(20,.a (cC1 d)),(21,.S 1),(22,.I c)],[],[(0,.sl rR1 a_),(1,.sl rR1 b_)],3⟩ J 3 ?_)
  obtain ⟨f,g,h⟩:=ob h
  refine WPq.op Q Q (VN.vs (VN.ix oO1 J g Q Q Q Q Q Q Q)) (WPq.sil J 1 rfl (WPq.op Q Q (VN.vs (VN.eqa (neg:=true) (equal_run (b:=((d.X==f.X) && ((d.Y==f.Y) && ((d.C==f.C) && true)))) (by kernel_rfl) (by kernel_rfl)) (by kernel_rfl) Q Q Q Q Q)) (qx ⟨[(0,.S 0),(1,.S 1),(5,.I c),(25,.O (!((d.X==f.X) && ((d.Y==f.Y) && ((d.C==f.C) && true)))))],[],[(0,.sl rR1 a_),(1,.sl rR1 b_)],4⟩ J 0 (qn ?_))))
  rcases oc h with ⟨hc,h⟩ | ⟨hc,h⟩
  ·refine wt hc Q (wq (wg (ws J 1 Q (wn ?_))))
   cases h
   exact we J Tryz.func128 [] Q Q Q Q
  exact wf hc Q (wi (wb (wg (wx ⟨[(0,.S 0),(1,.S 1),(5,.I (w64 (c+1)))],[],[(0,.sl rR1 a_),(1,.sl rR1 b_)],4⟩ J 3 (wn (wu [] (ih3 (w64 (c+1)) h) Q Q Q Q))))))
 exact wu [] (ih N 0 h) Q Q Q Q
theorem z79_ct (N:Nat) (a_:(List T0)) (b_:(List T0)) (r:Bool) (h:z79 N a_ b_=some r) :
 Fn Tryz.prog 79 ⟨2,[.S 0,.S 1],[(0,.sl rR0 a_),(1,.sl rR0 b_)],[],2,.O r,[],[]⟩:=by
 refine Fn.intro _ _ Tryz.func79 rfl (by kernel_rfl) rfl (fun E F w=>?_)
 unfold z79 at h
 refine wq (wg (ws J 1 Q (wn (wq (wq (wg (wx (zz45 a_ b_ [(0,.S 0),(1,.S 1),(4,.O false),(14,.O ((a_.length:Int) != (b_.length:Int)))]) J 5 (wn ?_))))))))
 rcases oc h with ⟨hc,h⟩ | ⟨hc,h⟩
 ·refine wt hc Q (wq (wg (ws J 1 Q (wn ?_))))
  cases h
  exact we J Tryz.func79 [] Q Q Q Q
 refine wf hc Q (wi (wq (wq (wg (ws J 1 Q (wn ?_))))))
 refine wC (σ:=Unit) (fun st=>(zz45 a_ b_ [])) (fun st=>z79_k1=some r) ?_ (fun j1=>?_)
 ·intro _ h
  replace h:z79_k1=some r:=h
  unfold z79_k1 at h
  refine wq (wg (ws J 1 Q (wn ?_)))
  cases h
  exact we J Tryz.func79 [] Q Q Q Q
 refine wo ?_
 refine wI (σ:=Int) (fun st=>(zz45 a_ b_ [(0,.S 0),(1,.S 1),(5,.I st)])) (fun n st=>z79_l2 N a_ b_ n st) (r:=r) (fun _=>rfl) ?_ (fun ih=>?_)
 ·intro n22 ih21
  intro c h
  replace h:z79_l2 N a_ b_ (n22+1) c=some r:=h
  unfold z79_l2 at h
  refine wq (wq (wg (wx (zz45 a_ b_ [(0,.S 0),(1,.S 1),(5,.I c),(18,.O (decide (c < (a_.length:Int))))]) J 4 (wn ?_))))
  rcases oc' h with ⟨hc,h⟩ | ⟨hc,h⟩
  ·exact wf hc Q (wz rfl (wu [] (j1 () h) Q Q Q Q))
  refine wt hc Q (wi (wq (wo (wq (wN (fun A9 d e=>?_))))))
  have f:A9 0 ⟨[(0,.S 0)],[(0,.sl rR0 a_)],[],[],2,[(21,.S 0)],[],[],2⟩:=d _ _ (wl J Q Q Q Q Q Q)
  have g:A9 1 (zz97 [(5,.I c)] [(22,.I c)]):=d _ _ (wl J Q Q Q Q Q Q)
  obtain ⟨i,j,h⟩:=ob h
  have l:A9 2 ⟨[(21,.S 0),(22,.I c)],[(0,.sl rR0 a_)],[],[],2,[(23,.P 2 0)],((2,.pl (cC0 3 4 5 i))::vV0 3 4 5 i []),[],6⟩:=d _ _ (wO Q Q Q (fun _ _ _ _ _ _ _ k=>wj oO0 J j Q Q Q Q Q Q Q Q Q (k)) rfl)
  have m:A9 3 ⟨[(23,.P 2 0)],[(2,.pl (cC0 3 4 5 i))],[],[],6,[(24,.a (cC0 3 4 5 i))],[],[],6⟩:=d _ _ (wl J Q Q Q Q Q Q)
  have o:A9 4 ⟨[(1,.S 1)],[(1,.sl rR0 b_)],[],[],6,[(25,.S 1)],[],[],6⟩:=d _ _ (wl J Q Q Q Q Q Q)
  have p:A9 5 (zz3 [(5,.I c)] [(26,.I c)]):=d _ _ (wl J Q Q Q Q Q Q)
  obtain ⟨q,u,h⟩:=ob h
  have v:A9 6 ⟨[(25,.S 1),(26,.I c)],[(1,.sl rR0 b_)],[],[],6,[(27,.P 6 0)],((6,.pl (cC0 7 8 9 q))::vV0 7 8 9 q []),[],10⟩:=d _ _ (wO Q Q Q (fun _ _ _ _ _ _ _ k=>wj oO0 J u Q Q Q Q Q Q Q Q Q (k)) rfl)
  have x:A9 7 ⟨[(27,.P 6 0)],[(6,.pl (cC0 7 8 9 q))],[],[],10,[(28,.a (cC0 7 8 9 q))],[],[],10⟩:=d _ _ (wl J Q Q Q Q Q Q)
  have y:A9 8 ⟨[],[],[],[],10,[(6,.B 10 0)],[],[(10,.box [.s (str []),.nil,.I 0,.nil,.nil] 94)],11⟩:=d _ _ (wl J Q Q Q Q Q Q)
  have z:A9 9 ⟨[],[],[],[],11,[(7,.B 11 0)],[],[(11,.box [.s (str []),.nil,.I 0,.nil,.nil] 94)],12⟩:=d _ _ (wl J Q Q Q Q Q Q)
  have A:A9 10 ⟨[(6,.B 10 0),(24,.a (cC0 3 4 5 i))],(vV0 3 4 5 i []),[(10,.box [.s (str []),.nil,.I 0,.nil,.nil] 94)],[],12,[],[],[(10,.box (cC0 3 4 5 i) 94)],12⟩:=d _ _ (wl J Q Q Q Q Q Q)
  have C:A9 11 ⟨[(7,.B 11 0),(28,.a (cC0 7 8 9 q))],(vV0 7 8 9 q []),[(11,.box [.s (str []),.nil,.I 0,.nil,.nil] 94)],[],12,[],[],[(11,.box (cC0 7 8 9 q) 94)],12⟩:=d _ _ (wl J Q Q Q Q Q Q)
  refine wD (t:=(zz19 i q a_ b_ [(0,.S 0),(1,.S 1),(5,.I c),(6,.B 10 0),(7,.B 11 0)])) [0,0,3,7,0,0,48,112,0,0,783,2047] (.cons (e _ _ f) (.cons (e _ _ g) (.cons (e _ _ l) (.cons (e _ _ m) (.cons (e _ _ o) (.cons (e _ _ p) (.cons (e _ _ v) (.cons (e _ _ x) (.cons (e _ _ y) (.cons (e _ _ z) (.cons (e _ _ A) (.cons (e _ _ C) .nil)))))))))))) (by kernel_rfl) (by kernel_rfl) (by kernel_rfl) (by kernel_rfl) (wq (wq (wg (xw (rg 6 36) (zz19 i q a_ b_ [(0,.S 0),(1,.S 1),(5,.I c),(6,.B 10 0),(7,.B 11 0),(34,.O (!(i.Name.toList==q.Name.toList)))]) J 6 ?_))))
  rcases oc h with ⟨hc,h⟩ | ⟨hc,h⟩
  ·refine wy 34 hc Q (wx (zz19 i q a_ b_ [(0,.S 0),(1,.S 1),(5,.I c),(6,.B 10 0),(7,.B 11 0),(70,.O true)]) J 36 (wn (wt Q Q (wq (wg (ws J 1 Q (wn ?_)))))))
   cases h
   exact we J Tryz.func79 [] Q Q Q Q
  refine wy 34 hc Q (xw (rg 13 29) (zz19 i q a_ b_ [(0,.S 0),(1,.S 1),(5,.I c),(6,.B 10 0),(7,.B 11 0),(41,.O (i.First != q.First))]) J 7 ?_)
  rcases oc h with ⟨hc,h⟩ | ⟨hc,h⟩
  ·refine wy 41 hc Q (wx (zz19 i q a_ b_ [(0,.S 0),(1,.S 1),(5,.I c),(6,.B 10 0),(7,.B 11 0),(70,.O true)]) J 29 (wn (wt Q Q (wq (wg (ws J 1 Q (wn ?_)))))))
   cases h
   exact we J Tryz.func79 [] Q Q Q Q
  refine wy 41 hc Q (xw (rg 22 20) (zz19 i q a_ b_ [(0,.S 0),(1,.S 1),(5,.I c),(6,.B 10 0),(7,.B 11 0),(50,.O ((i.Fields.length:Int) != (q.Fields.length:Int)))]) J 9 ?_)
  rcases oc h with ⟨hc,h⟩ | ⟨hc,h⟩
  ·refine wy 50 hc Q (wx (zz19 i q a_ b_ [(0,.S 0),(1,.S 1),(5,.I c),(6,.B 10 0),(7,.B 11 0),(70,.O true)]) J 20 (wn (wt Q Q (wq (wg (ws J 1 Q (wn ?_)))))))
   cases h
   exact we J Tryz.func79 [] Q Q Q Q
  refine wy 50 hc Q (xw (rg 28 14) (zz19 i q a_ b_ [(0,.S 0),(1,.S 1),(5,.I c),(6,.B 10 0),(7,.B 11 0),(50,.O false),(53,.S 4),(56,.S 8)]) J 6 ?_)
  obtain ⟨D,G,h⟩:=ob h
  refine wc (z128_ct N i.Guard.Diffs q.Guard.Diffs _ G) [(0,.sl 4),(1,.sl 8)] [] Q Q Q Q Q Q Q Q (.inl rfl) rfl (xw (rg 32 10) (zz19 i q a_ b_ [(0,.S 0),(1,.S 1),(5,.I c),(6,.B 10 0),(7,.B 11 0),(60,.O (!D))]) J 3 ?_)
  rcases oc h with ⟨hc,h⟩ | ⟨hc,h⟩
  ·refine wy 60 hc Q (wx (zz19 i q a_ b_ [(0,.S 0),(1,.S 1),(5,.I c),(6,.B 10 0),(7,.B 11 0),(70,.O true)]) J 10 (wn (wt Q Q (wq (wg (ws J 1 Q (wn ?_)))))))
   cases h
   exact we J Tryz.func79 [] Q Q Q Q
  refine wy 60 hc Q (wx (zz19 i q a_ b_ [(0,.S 0),(1,.S 1),(5,.I c),(6,.B 10 0),(7,.B 11 0),(70,.O ((i.Guard.Equals.length:Int) != (q.Guard.Equals.length:Int)))]) J 10 (wn ?_))
  rcases oc h with ⟨hc,h⟩ | ⟨hc,h⟩
  ·refine wt hc Q (wq (wg (ws J 1 Q (wn ?_))))
   cases h
   exact we J Tryz.func79 [] Q Q Q Q
  refine wf hc Q (wi (wq (wq (wg (ws J 1 Q (wn ?_))))))
  refine wC (σ:=Unit) (fun st=>(zz19 i q a_ b_ [(0,.S 0),(1,.S 1),(5,.I c),(6,.B 10 0),(7,.B 11 0)])) (fun st=>z79_k5 N c (z79_l2 N a_ b_ n22) i q=some r) ?_ (fun j34=>?_)
  ·intro _ h
   replace h:z79_k5 N c (z79_l2 N a_ b_ n22) i q=some r:=h
   unfold z79_k5 at h
   refine wq (wg (ws J 1 Q (wn ?_)))
   refine wC (σ:=Unit) (fun st=>⟨[(0,.S 0),(1,.S 1),(5,.I c)],[],[(0,.sl rR0 a_),(1,.sl rR0 b_)],12⟩) (fun st=>z79_k3 c (z79_l2 N a_ b_ n22)=some r) ?_ (fun j36=>?_)
   ·intro _ h
    replace h:z79_k3 c (z79_l2 N a_ b_ n22)=some r:=h
    unfold z79_k3 at h
    exact wb (wg (wx ⟨[(0,.S 0),(1,.S 1),(5,.I (w64 (c+1)))],[],[(0,.sl rR0 a_),(1,.sl rR0 b_)],12⟩ J 3 (wn (wu [] (ih21 (w64 (c+1)) h) Q Q Q Q))))
   refine wo ?_
   refine wI (σ:=Int) (fun st=>(zz19 i q a_ b_ [(0,.S 0),(1,.S 1),(5,.I c),(6,.B 10 0),(7,.B 11 0),(9,.I st)])) (fun n st=>z79_l4 c (z79_l2 N a_ b_ n22) i q n st) (r:=r) (fun _=>rfl) ?_ (fun ih=>?_)
   ·intro n25 ih38
    intro H h
    replace h:z79_l4 c (z79_l2 N a_ b_ n22) i q (n25+1) H=some r:=h
    unfold z79_l4 at h
    refine wq (wq (wg (wx (zz19 i q a_ b_ [(0,.S 0),(1,.S 1),(5,.I c),(6,.B 10 0),(7,.B 11 0),(9,.I H),(94,.O (decide (H < (i.Guard.Equals.length:Int))))]) J 6 (wn ?_))))
    rcases oc' h with ⟨hc,h⟩ | ⟨hc,h⟩
    ·exact wf hc Q (wz rfl (wu [] (j36 () h) Q Q Q Q))
    refine wt hc Q (wi (wq (wo (wq (wQ (by kernel_rfl) (by kernel_rfl) (xq (rg 4 9) (zz19 i q a_ b_ [(0,.S 0),(1,.S 1),(5,.I c),(6,.B 10 0),(7,.B 11 0),(9,.I H),(99,.S 5),(100,.I H)]) J 4 ?_))))))
    obtain ⟨K,R,h⟩:=ob h
    refine WPq.op Q Q (VN.vs (VN.ix (oP (oI .i64) (oI .i64)) J R Q Q Q Q Q Q Q)) (xq [10,11,12] (zz179 i q a_ b_ [(0,.S 0),(1,.S 1),(5,.I c),(6,.B 10 0),(7,.B 11 0),(9,.I H),(102,.a [.I K.1,.I K.2]),(105,.S 9),(106,.I H)]) J 5 ?_)
    obtain ⟨T,U,h⟩:=ob h
    refine WPq.op Q Q (VN.vs (VN.ix (oP (oI .i64) (oI .i64)) J U Q Q Q Q Q Q Q)) (WPq.sil J 1 rfl (WPq.op Q Q (VN.vs (VN.eqa (neg:=true) (equal_run (b:=((K.1==T.1) && ((K.2==T.2) && true))) (by kernel_rfl) (by kernel_rfl)) (by kernel_rfl) Q Q Q Q Q)) (qx (zz112 i q a_ b_ [(0,.S 0),(1,.S 1),(5,.I c),(6,.B 10 0),(7,.B 11 0),(9,.I H),(109,.O (!((K.1==T.1) && ((K.2==T.2) && true))))]) J 0 (qn ?_))))
    rcases oc h with ⟨hc,h⟩ | ⟨hc,h⟩
    ·refine wt hc Q (wq (wg (ws J 1 Q (wn ?_))))
     cases h
     exact we J Tryz.func79 [] Q Q Q Q
    exact wf hc Q (wi (wb (wg (wx (zz112 i q a_ b_ [(0,.S 0),(1,.S 1),(5,.I c),(6,.B 10 0),(7,.B 11 0),(9,.I (w64 (H+1)))]) J 3 (wn (wu [] (ih38 (w64 (H+1)) h) Q Q Q Q))))))
   exact wu [] (ih N 0 h) Q Q Q Q
  refine wo ?_
  refine wI (σ:=Int) (fun st=>(zz19 i q a_ b_ [(0,.S 0),(1,.S 1),(5,.I c),(6,.B 10 0),(7,.B 11 0),(8,.I st)])) (fun n st=>z79_l6 N c (z79_l2 N a_ b_ n22) i q n st) (r:=r) (fun _=>rfl) ?_ (fun ih=>?_)
  ·intro n26 ih39
   intro X h
   replace h:z79_l6 N c (z79_l2 N a_ b_ n22) i q (n26+1) X=some r:=h
   unfold z79_l6 at h
   refine wq (wq (wg (wx (zz19 i q a_ b_ [(0,.S 0),(1,.S 1),(5,.I c),(6,.B 10 0),(7,.B 11 0),(8,.I X),(75,.O (decide (X < (i.Fields.length:Int))))]) J 5 (wn ?_))))
   rcases oc' h with ⟨hc,h⟩ | ⟨hc,h⟩
   ·exact wf hc Q (wz rfl (wu [] (j34 () h) Q Q Q Q))
   refine wt hc Q (wi (wq (wo (wq (wQ (by kernel_rfl) (by kernel_rfl) (xq (rg 3 8) (zz19 i q a_ b_ [(0,.S 0),(1,.S 1),(5,.I c),(6,.B 10 0),(7,.B 11 0),(8,.I X),(79,.S 3),(80,.I X)]) J 3 ?_))))))
   obtain ⟨Y,Z,h⟩:=ob h
   refine WPq.op Q Q (VN.vs (VN.ix oO3 J Z Q Q Q Q Q Q Q)) (xq [8,9,10] (zz179 i q a_ b_ [(0,.S 0),(1,.S 1),(5,.I c),(6,.B 10 0),(7,.B 11 0),(8,.I X),(82,.a (cC3 Y)),(84,.S 7),(85,.I X)]) J 4 ?_)
   obtain ⟨a0,b0,h⟩:=ob h
   refine WPq.op Q Q (VN.vs (VN.ix oO3 J b0 Q Q Q Q Q Q Q)) (WPq.sil J 1 rfl (WPq.op Q Q (VN.vs (VN.eqa (neg:=true) (equal_run (b:=((Y.Name.toList==a0.Name.toList) && (((Y.Sort'.Kind==a0.Sort'.Kind) && ((Y.Sort'.Lo==a0.Sort'.Lo) && ((Y.Sort'.Hi==a0.Sort'.Hi) && true))) && true))) (by kernel_rfl) (by kernel_rfl)) (by kernel_rfl) Q Q Q Q Q)) (qx (zz112 i q a_ b_ [(0,.S 0),(1,.S 1),(5,.I c),(6,.B 10 0),(7,.B 11 0),(8,.I X),(88,.O (!((Y.Name.toList==a0.Name.toList) && (((Y.Sort'.Kind==a0.Sort'.Kind) && ((Y.Sort'.Lo==a0.Sort'.Lo) && ((Y.Sort'.Hi==a0.Sort'.Hi) && true))) && true))))]) J 0 (qn ?_))))
   rcases oc h with ⟨hc,h⟩ | ⟨hc,h⟩
   ·refine wt hc Q (wq (wg (ws J 1 Q (wn ?_))))
    cases h
    exact we J Tryz.func79 [] Q Q Q Q
   exact wf hc Q (wi (wb (wg (wx (zz112 i q a_ b_ [(0,.S 0),(1,.S 1),(5,.I c),(6,.B 10 0),(7,.B 11 0),(8,.I (w64 (X+1)))]) J 3 (wn (wu [] (ih39 (w64 (X+1)) h) Q Q Q Q))))))
  exact wu [] (ih N 0 h) Q Q Q Q
 exact wu [] (ih N 0 h) Q Q Q Q
theorem z33_ct (N:Nat) (a_:T4) (b_:T4) (r:Bool) (h:z33 N a_ b_=some r) :
 Fn Tryz.prog 33 ⟨8,[.a (cC4 0 1 2 3 a_),.a (cC4 4 5 6 7 b_)],(vV4 0 1 2 3 a_ (vV4 4 5 6 7 b_ [])),[],8,.O r,[],[]⟩:=by
 refine Fn.intro _ _ Tryz.func33 rfl (by kernel_rfl) rfl (fun E F w=>?_)
 unfold z33 at h
 refine wq (wg (wx (zz5 a_ b_ [(2,.B 8 0),(3,.B 9 0),(4,.O false)]) J 3 (wn (wq (wq (wg (xw (rg 6 55) (zz5 a_ b_ [(2,.B 8 0),(3,.B 9 0),(4,.O false),(13,.O (!(a_.Name.toList==b_.Name.toList)))]) J 6 ?_)))))))
 rcases oc h with ⟨hc,h⟩ | ⟨hc,h⟩
 ·refine wy 13 hc Q (wx (zz5 a_ b_ [(2,.B 8 0),(3,.B 9 0),(4,.O false),(68,.O true)]) J 55 (wn (wt Q Q (wq (wg (ws J 1 Q (wn ?_)))))))
  cases h
  exact we J Tryz.func33 [] Q Q Q Q
 refine wy 13 hc Q (xw (rg 15 46) (zz5 a_ b_ [(2,.B 8 0),(3,.B 9 0),(4,.O false),(22,.O ((a_.Roles.length:Int) != (b_.Roles.length:Int)))]) J 9 ?_)
 rcases oc h with ⟨hc,h⟩ | ⟨hc,h⟩
 ·refine wy 22 hc Q (wx (zz5 a_ b_ [(2,.B 8 0),(3,.B 9 0),(4,.O false),(68,.O true)]) J 46 (wn (wt Q Q (wq (wg (ws J 1 Q (wn ?_)))))))
  cases h
  exact we J Tryz.func33 [] Q Q Q Q
 refine wy 22 hc Q (xw (rg 19 42) (zz5 a_ b_ [(2,.B 8 0),(3,.B 9 0),(4,.O false),(22,.O false),(24,.S 1),(26,.S 5)]) J 4 ?_)
 obtain ⟨x1,d,h⟩:=ob h
 refine wc (z79_ct N a_.Decls b_.Decls _ d) [(0,.sl 1),(1,.sl 5)] [] Q Q Q Q Q Q Q Q (.inl rfl) rfl (xw (rg 23 38) (zz5 a_ b_ [(2,.B 8 0),(3,.B 9 0),(4,.O false),(30,.O (!x1))]) J 3 ?_)
 rcases oc h with ⟨hc,h⟩ | ⟨hc,h⟩
 ·refine wy 30 hc Q (wx (zz5 a_ b_ [(2,.B 8 0),(3,.B 9 0),(4,.O false),(68,.O true)]) J 38 (wn (wt Q Q (wq (wg (ws J 1 Q (wn ?_)))))))
  cases h
  exact we J Tryz.func33 [] Q Q Q Q
 refine wy 30 hc Q (xw (rg 30 31) (zz5 a_ b_ [(2,.B 8 0),(3,.B 9 0),(4,.O false),(37,.O (a_.States != b_.States))]) J 7 ?_)
 rcases oc h with ⟨hc,h⟩ | ⟨hc,h⟩
 ·refine wy 37 hc Q (wx (zz5 a_ b_ [(2,.B 8 0),(3,.B 9 0),(4,.O false),(68,.O true)]) J 31 (wn (wt Q Q (wq (wg (ws J 1 Q (wn ?_)))))))
  cases h
  exact we J Tryz.func33 [] Q Q Q Q
 refine wy 37 hc Q (xw (rg 37 24) (zz5 a_ b_ [(2,.B 8 0),(3,.B 9 0),(4,.O false),(44,.O (a_.Start != b_.Start))]) J 7 ?_)
 rcases oc h with ⟨hc,h⟩ | ⟨hc,h⟩
 ·refine wy 44 hc Q (wx (zz5 a_ b_ [(2,.B 8 0),(3,.B 9 0),(4,.O false),(68,.O true)]) J 24 (wn (wt Q Q (wq (wg (ws J 1 Q (wn ?_)))))))
  cases h
  exact we J Tryz.func33 [] Q Q Q Q
 refine wy 44 hc Q (xw (rg 44 17) (zz5 a_ b_ [(2,.B 8 0),(3,.B 9 0),(4,.O false),(51,.O (a_.End != b_.End))]) J 7 ?_)
 rcases oc h with ⟨hc,h⟩ | ⟨hc,h⟩
 ·refine wy 51 hc Q (wx (zz5 a_ b_ [(2,.B 8 0),(3,.B 9 0),(4,.O false),(68,.O true)]) J 17 (wn (wt Q Q (wq (wg (ws J 1 Q (wn ?_)))))))
  cases h
  exact we J Tryz.func33 [] Q Q Q Q
 refine wy 51 hc Q (xw (rg 53 8) (zz5 a_ b_ [(2,.B 8 0),(3,.B 9 0),(4,.O false),(60,.O ((a_.Edges.length:Int) != (b_.Edges.length:Int)))]) J 9 ?_)
 rcases oc h with ⟨hc,h⟩ | ⟨hc,h⟩
 ·refine wy 60 hc Q (wx (zz5 a_ b_ [(2,.B 8 0),(3,.B 9 0),(4,.O false),(68,.O true)]) J 8 (wn (wt Q Q (wq (wg (ws J 1 Q (wn ?_)))))))
  cases h
  exact we J Tryz.func33 [] Q Q Q Q
 refine wy 60 hc Q (wx (zz5 a_ b_ [(2,.B 8 0),(3,.B 9 0),(4,.O false),(68,.O ((a_.Timeouts.length:Int) != (b_.Timeouts.length:Int)))]) J 8 (wn ?_))
 rcases oc h with ⟨hc,h⟩ | ⟨hc,h⟩
 ·refine wt hc Q (wq (wg (ws J 1 Q (wn ?_))))
  cases h
  exact we J Tryz.func33 [] Q Q Q Q
 refine wf hc Q (wi (wq (wq (wg (ws J 1 Q (wn ?_))))))
 refine wC (σ:=Unit) (fun st=>(zz5 a_ b_ [(2,.B 8 0),(3,.B 9 0)])) (fun st=>z33_k5 N a_ b_=some r) ?_ (fun j1=>?_)
 ·intro _ h
  replace h:z33_k5 N a_ b_=some r:=h
  unfold z33_k5 at h
  refine wq (wq (wg (ws J 1 Q (wn ?_))))
  refine wC (σ:=Unit) (fun st=>(zz5 a_ b_ [(2,.B 8 0),(3,.B 9 0)])) (fun st=>z33_k3 N a_ b_=some r) ?_ (fun j3=>?_)
  ·intro _ h
   replace h:z33_k3 N a_ b_=some r:=h
   unfold z33_k3 at h
   refine wq (wq (wg (ws J 1 Q (wn ?_))))
   refine wC (σ:=Unit) (fun st=>(zz36 a_ b_ [])) (fun st=>z33_k1=some r) ?_ (fun j5=>?_)
   ·intro _ h
    replace h:z33_k1=some r:=h
    unfold z33_k1 at h
    refine wq (wg (ws J 1 Q (wn ?_)))
    cases h
    exact we J Tryz.func33 [] Q Q Q Q
   refine wo ?_
   refine wI (σ:=Int) (fun st=>(zz5 a_ b_ [(2,.B 8 0),(3,.B 9 0),(7,.I st)])) (fun n st=>z33_l2 a_ b_ n st) (r:=r) (fun _=>rfl) ?_ (fun ih=>?_)
   ·intro n4 ih7
    intro e h
    replace h:z33_l2 a_ b_ (n4+1) e=some r:=h
    unfold z33_l2 at h
    refine wq (wq (wg (wx (zz5 a_ b_ [(2,.B 8 0),(3,.B 9 0),(7,.I e),(109,.O (decide (e < (a_.Timeouts.length:Int))))]) J 5 (wn ?_))))
    rcases oc' h with ⟨hc,h⟩ | ⟨hc,h⟩
    ·exact wf hc Q (wz rfl (wu [] (j5 () h) Q Q Q Q))
    refine wt hc Q (wi (wq (wo (wq (wQ (by kernel_rfl) (by kernel_rfl) (xq (rg 3 8) (zz5 a_ b_ [(2,.B 8 0),(3,.B 9 0),(7,.I e),(113,.S 3),(114,.I e)]) J 3 ?_))))))
    obtain ⟨f,g,h⟩:=ob h
    refine WPq.op Q Q (VN.vs (VN.ix oO8 J g Q Q Q Q Q Q Q)) (xq [8,9,10] (zz136 a_ b_ [(2,.B 8 0),(3,.B 9 0),(7,.I e),(116,.a (cC8 f)),(118,.S 7),(119,.I e)]) J 4 ?_)
    obtain ⟨i,j,h⟩:=ob h
    refine WPq.op Q Q (VN.vs (VN.ix oO8 J j Q Q Q Q Q Q Q)) (WPq.sil J 1 rfl (WPq.op Q Q (VN.vs (VN.eqa (neg:=true) (equal_run (b:=((f.State==i.State) && ((f.Ticks==i.Ticks) && ((f.Else==i.Else) && true)))) (by kernel_rfl) (by kernel_rfl)) (by kernel_rfl) Q Q Q Q Q)) (qx (zz65 a_ b_ [(2,.B 8 0),(3,.B 9 0),(7,.I e),(122,.O (!((f.State==i.State) && ((f.Ticks==i.Ticks) && ((f.Else==i.Else) && true)))))]) J 0 (qn ?_))))
    rcases oc h with ⟨hc,h⟩ | ⟨hc,h⟩
    ·refine wt hc Q (wq (wg (ws J 1 Q (wn ?_))))
     cases h
     exact we J Tryz.func33 [] Q Q Q Q
    exact wf hc Q (wi (wb (wg (wx (zz65 a_ b_ [(2,.B 8 0),(3,.B 9 0),(7,.I (w64 (e+1)))]) J 3 (wn (wu [] (ih7 (w64 (e+1)) h) Q Q Q Q))))))
   exact wu [] (ih N 0 h) Q Q Q Q
  refine wo ?_
  refine wI (σ:=Int) (fun st=>(zz5 a_ b_ [(2,.B 8 0),(3,.B 9 0),(6,.I st)])) (fun n st=>z33_l4 N a_ b_ n st) (r:=r) (fun _=>rfl) ?_ (fun ih=>?_)
  ·intro n5 ih8
   intro k h
   replace h:z33_l4 N a_ b_ (n5+1) k=some r:=h
   unfold z33_l4 at h
   refine wq (wq (wg (wx (zz5 a_ b_ [(2,.B 8 0),(3,.B 9 0),(6,.I k),(91,.O (decide (k < (a_.Edges.length:Int))))]) J 5 (wn ?_))))
   rcases oc' h with ⟨hc,h⟩ | ⟨hc,h⟩
   ·exact wf hc Q (wz rfl (wu [] (j3 () h) Q Q Q Q))
   refine wt hc Q (wi (wq (wo (wq (wQ (by kernel_rfl) (by kernel_rfl) (xq (rg 3 8) (zz5 a_ b_ [(2,.B 8 0),(3,.B 9 0),(6,.I k),(95,.S 2),(96,.I k)]) J 3 ?_))))))
   obtain ⟨l,m,h⟩:=ob h
   refine WPq.op Q Q (VN.vs (VN.ix oO2 J m Q Q Q Q Q Q Q)) (xq [8,9,10] (zz136 a_ b_ [(2,.B 8 0),(3,.B 9 0),(6,.I k),(98,.a (cC2 l)),(100,.S 6),(101,.I k)]) J 4 ?_)
   obtain ⟨o,p,h⟩:=ob h
   refine WPq.op Q Q (VN.vs (VN.ix oO2 J p Q Q Q Q Q Q Q)) (WPq.sil J 1 rfl (WPq.op Q Q (VN.vs (VN.eqa (neg:=true) (equal_run (b:=((l.From==o.From) && (((l.Act.From==o.Act.From) && ((l.Act.To==o.Act.To) && ((l.Act.Label==o.Act.Label) && true))) && ((l.To==o.To) && ((l.Again==o.Again) && true))))) (by kernel_rfl) (by kernel_rfl)) (by kernel_rfl) Q Q Q Q Q)) (qx (zz65 a_ b_ [(2,.B 8 0),(3,.B 9 0),(6,.I k),(104,.O (!((l.From==o.From) && (((l.Act.From==o.Act.From) && ((l.Act.To==o.Act.To) && ((l.Act.Label==o.Act.Label) && true))) && ((l.To==o.To) && ((l.Again==o.Again) && true))))))]) J 0 (qn ?_))))
   rcases oc h with ⟨hc,h⟩ | ⟨hc,h⟩
   ·refine wt hc Q (wq (wg (ws J 1 Q (wn ?_))))
    cases h
    exact we J Tryz.func33 [] Q Q Q Q
   exact wf hc Q (wi (wb (wg (wx (zz65 a_ b_ [(2,.B 8 0),(3,.B 9 0),(6,.I (w64 (k+1)))]) J 3 (wn (wu [] (ih8 (w64 (k+1)) h) Q Q Q Q))))))
  exact wu [] (ih N 0 h) Q Q Q Q
 refine wo ?_
 refine wI (σ:=Int) (fun st=>(zz5 a_ b_ [(2,.B 8 0),(3,.B 9 0),(5,.I st)])) (fun n st=>z33_l6 N a_ b_ n st) (r:=r) (fun _=>rfl) ?_ (fun ih=>?_)
 ·intro n6 ih9
  intro q h
  replace h:z33_l6 N a_ b_ (n6+1) q=some r:=h
  unfold z33_l6 at h
  refine wq (wq (wg (wx (zz5 a_ b_ [(2,.B 8 0),(3,.B 9 0),(5,.I q),(73,.O (decide (q < (a_.Roles.length:Int))))]) J 5 (wn ?_))))
  rcases oc' h with ⟨hc,h⟩ | ⟨hc,h⟩
  ·exact wf hc Q (wz rfl (wu [] (j1 () h) Q Q Q Q))
  refine wt hc Q (wi (wq (wo (wq (wQ (by kernel_rfl) (by kernel_rfl) (xq (rg 3 8) (zz5 a_ b_ [(2,.B 8 0),(3,.B 9 0),(5,.I q),(77,.S 0),(78,.I q)]) J 3 ?_))))))
  obtain ⟨t,u,h⟩:=ob h
  refine WPq.op Q Q (VN.vs (VN.ix oS J u Q Q Q Q Q Q Q)) (xq [8,9,10] (zz136 a_ b_ [(2,.B 8 0),(3,.B 9 0),(5,.I q),(80,.c (.s t)),(82,.S 4),(83,.I q)]) J 4 ?_)
  obtain ⟨v,x,h⟩:=ob h
  refine WPq.op Q Q (VN.vs (VN.ix oS J x Q Q Q Q Q Q Q)) (qx (zz65 a_ b_ [(2,.B 8 0),(3,.B 9 0),(5,.I q),(86,.O (!(t.toList==v.toList)))]) J 2 (qn ?_))
  rcases oc h with ⟨hc,h⟩ | ⟨hc,h⟩
  ·refine wt hc Q (wq (wg (ws J 1 Q (wn ?_))))
   cases h
   exact we J Tryz.func33 [] Q Q Q Q
  exact wf hc Q (wi (wb (wg (wx (zz65 a_ b_ [(2,.B 8 0),(3,.B 9 0),(5,.I (w64 (q+1)))]) J 3 (wn (wu [] (ih9 (w64 (q+1)) h) Q Q Q Q))))))
 exact wu [] (ih N 0 h) Q Q Q Q
theorem z38_ct (N:Nat) (a_:(List Int)) (b_:(List Int)) (r:Bool) (h:z38 N a_ b_=some r) :
 Fn Tryz.prog 38 ⟨2,[.S 0,.S 1],[(0,.sl (rI .u8) a_),(1,.sl (rI .u8) b_)],[],2,.O r,[],[]⟩:=by
 refine Fn.intro _ _ Tryz.func38 rfl (by kernel_rfl) rfl (fun E F w=>?_)
 unfold z38 at h
 refine wq (wg (ws J 1 Q (wn (wq (wg (ws J 1 Q (WPr.cvs (el:=5) a_ (srcI rfl) Q Q Q Q Q (by kernel_rfl) (by kernel_rfl) (by kernel_rfl) rfl (shI rfl) rfl (xw [3,4,5] ⟨[(6,.c (.s (strOf a_))),(7,.S 1)],[],[(0,.sl (rI .u8) a_),(1,.sl (rI .u8) b_)],2⟩ J 1 (WPr.cvs (el:=5) b_ (srcI rfl) Q Q Q Q Q (by kernel_rfl) (by kernel_rfl) (by kernel_rfl) rfl (shI rfl) rfl (wx ⟨[(4,.O ((strOf a_).toList==(strOf b_).toList))],[],[(0,.sl (rI .u8) a_),(1,.sl (rI .u8) b_)],2⟩ J 2 (wn ?_)))))))))))
 cases h
 exact we J Tryz.func38 [] Q Q Q Q
theorem z92_ct (N:Nat) (b_:(List Int)) (r:T12) (h:z92 N b_=some r) :
 Fn Tryz.prog 92 ⟨1,[.S 0],[(0,.sl (rI .u8) b_)],[],3,.B 1 0,[(2,.sl (rI .u8) r.b')],[(1,.box (cC12 2 r) 160)]⟩:=by
 refine Fn.intro _ _ Tryz.func92 rfl (by kernel_rfl) rfl (fun E F w=>?_)
 unfold z92 at h
 refine wq (wg (ws J 1 Q (wn (wq (wg (ws J 1 Q ?_))))))
 obtain ⟨x1,c,h⟩:=ob h
 refine WPr.appN (rI .u8) J c (by exact (srcI rfl)) Q Q Q Q Q Q Q Q Q (wx ⟨[(2,.B 2 0)],[(1,.own (rI .u8) x1 true),(2,.box [.sl 1,.I 0,.b false] 160)],[(0,.sl (rI .u8) b_)],3⟩ J 3 (wn (WP.frz 1 rfl ?_)))
 cases h
 exact we J Tryz.func92 [(1,.bp 2 0),(2,.sl 1)] Q Q Q Q
theorem z165_ct (N:Nat) (r_:T12) (n_:Int) (r:(List Int) × T12) (h:z165 N r_ n_=some r) :
 Fn Tryz.prog 165 ⟨2,[.B 0 0,.I n_],[(1,.sl (rI .u8) r_.b')],[(0,.box (cC12 1 r_) 160)],4,.S 2,[(2,.sl (rI .u8) r.1),(3,.sl (rI .u8) r.2.b')],[(0,.box (cC12 3 r.2) 160)]⟩:=by
 refine Fn.intro _ _ Tryz.func165 rfl (by kernel_rfl) rfl (fun E F w=>?_)
 unfold z165 at h
 refine wq (wg (ws J 1 Q (wn (wq (wq (wQ (by kernel_rfl) (by kernel_rfl) (xq (rg 5 13) (zz9 r_ r_.b' [(0,.B 0 0),(1,.I n_),(4,.c .nil),(9,.O r_.failed')]) J 5 ?_)))))))
 rcases oc h with ⟨hc,h⟩ | ⟨hc,h⟩
 ·refine qy 9 hc Q (qx (zz9 r_ r_.b' [(0,.B 0 0),(1,.I n_),(4,.c .nil),(22,.O true)]) J 13 (qn (wt Q Q (wq (wg (wx ⟨[(4,.c .nil)],[(0,.box [.sl 1,.I r_.at',.b true] 160)],[(1,.sl (rI .u8) r_.b')],2⟩ J 4 (wn (wq (wg (ws J 1 Q (wn ?_)))))))))))
  cases h
  exact we J Tryz.func165 [(2,.nil),(3,.sl 1)] Q Q Q Q
 refine qy 9 hc Q (qx (zz9 r_ r_.b' [(0,.B 0 0),(1,.I n_),(4,.c .nil),(22,.O (decide (n_ > (w64 ((r_.b'.length:Int)-r_.at')))))]) J 13 (qn ?_))
 rcases oc h with ⟨hc,h⟩ | ⟨hc,h⟩
 ·refine wt hc Q (wq (wg (wx ⟨[(4,.c .nil)],[(0,.box [.sl 1,.I r_.at',.b true] 160)],[(1,.sl (rI .u8) r_.b')],2⟩ J 4 (wn (wq (wg (ws J 1 Q (wn ?_))))))))
  cases h
  exact we J Tryz.func165 [(2,.nil),(3,.sl 1)] Q Q Q Q
 refine wf hc Q (wi (wq (wg (wx ⟨[(0,.B 0 0),(1,.I n_),(4,.c .nil)],[(0,.box [.sl 1,.I (w64 (r_.at'+n_)),.b r_.failed'] 160)],[(1,.sl (rI .u8) r_.b')],2⟩ J 9 (wn (wq (wQ (by kernel_rfl) (by kernel_rfl) (xq [14,15] ⟨[(37,.S 1),(43,.I (w64 ((w64 (r_.at'+n_))-n_))),(47,.I (w64 (r_.at'+n_)))],[(0,.box [.sl 1,.I (w64 (r_.at'+n_)),.b r_.failed'] 160)],[(1,.sl (rI .u8) r_.b')],2⟩ J 14 ?_))))))))
 obtain ⟨x2,d,h⟩:=ob h
 refine WPq.op Q Q (VN.vs (VN.isl J (l:=some (.i64,(w64 ((w64 (r_.at'+n_))-n_)))) (h:=some (.i64,(w64 (r_.at'+n_)))) d Q Q Q Q Q Q Q Q)) (WPq.sil J 1 rfl (qn ?_))
 cases h
 exact we J Tryz.func165 [(2,.sl 2),(3,.sl 1)] Q Q Q Q
theorem z141_ct (N:Nat) (r_:T12) (r:Int × T12) (h:z141 N r_=some r) :
 Fn Tryz.prog 141 ⟨2,[.B 0 0],[(1,.sl (rI .u8) r_.b')],[(0,.box (cC12 1 r_) 160)],3,.I r.1,[(2,.sl (rI .u8) r.2.b')],[(0,.box (cC12 2 r.2) 160)]⟩:=by
 refine Fn.intro _ _ Tryz.func141 rfl (by kernel_rfl) rfl (fun E F w=>?_)
 unfold z141 at h
 refine wq (wg (ws J 1 Q (wn (wq (wg (ws J 1 Q (wn (wq (wq (wg (wx (zz9 r_ r_.b' [(0,.B 0 0),(2,.I 0),(3,.c (.i .u64 0)),(6,.I 0)]) J 1 (wn ?_))))))))))))
 refine wC (σ:=(List Int) × Int × Bool) (fun st=>(zz66 st.2.1 st.2.2 r_.b' st.1 [(0,.B 0 0)])) (fun st=>z141_k1 st.1 st.2.1 st.2.2=some r) ?_ (fun j1=>?_)
 ·rintro ⟨vbk0_0_0_1,vbk0_0_1_1,vbk0_0_2_1⟩ h
  replace h:z141_k1 vbk0_0_0_1 vbk0_0_1_1 vbk0_0_2_1=some r:=h
  unfold z141_k1 at h
  refine wq (wg (wx (zz137 vbk0_0_1_1 r_.b' vbk0_0_0_1 []) J 4 (wn (wq (wg (ws J 1 Q (wn ?_)))))))
  cases h
  exact we J Tryz.func141 [(2,.sl 2)] Q Q Q Q
 refine wo ?_
 refine wI (σ:=(List Int) × Int × Bool × Int × Int) (fun st=>(zz66 st.2.1 st.2.2.1 r_.b' st.1 [(0,.B 0 0),(3,.c (.i .u64 st.2.2.2.1)),(6,.I st.2.2.2.2)])) (fun n st=>z141_l2 N n st.1 st.2.1 st.2.2.1 st.2.2.2.1 st.2.2.2.2) (r:=r) (fun _=>rfl) ?_ (fun ih=>?_)
 ·intro n2 ih3
  rintro ⟨vbk0_0_0_3,vbk0_0_1_3,vbk0_0_2_3,d,e⟩ h
  replace h:z141_l2 N (n2+1) vbk0_0_0_3 vbk0_0_1_3 vbk0_0_2_3 d e=some r:=h
  unfold z141_l2 at h
  refine wq (wg (ws J 1 Q (wn (wq ?_))))
  rcases oc' h with ⟨hc,h⟩ | ⟨hc,h⟩
  ·exact wf hc Q (wz rfl (wu [] (j1 (vbk0_0_0_3,vbk0_0_1_3,vbk0_0_2_3) h) Q Q Q Q))
  refine wt hc Q (wi (wq (wo (wq (wg (wx (zz66 vbk0_0_1_3 vbk0_0_2_3 r_.b' vbk0_0_0_3 [(0,.B 0 0),(3,.c (.i .u64 d)),(4,.I e),(6,.I e)]) J 2 (wn (wq (wg (ws J 1 Q ?_))))))))))
  obtain ⟨f,g,h⟩:=ob h
  refine wc (z165_ct N (⟨vbk0_0_0_3,vbk0_0_1_3,vbk0_0_2_3⟩:T12) 1 _ g) [(0,.bp 0 0),(1,.sl 2)] [] Q Q Q Q Q Q Q Q (.inl rfl) rfl (wx (zz138 f.2 r_.b' f.1 f.2.b' [(0,.B 0 0),(3,.c (.i .u64 d)),(4,.I e),(5,.S 3),(6,.I e)]) J 1 (wn (wq (wq (wg (wx (zz138 f.2 r_.b' f.1 f.2.b' [(0,.B 0 0),(3,.c (.i .u64 d)),(4,.I e),(5,.S 3),(6,.I e),(14,.O f.2.failed')]) J 4 (wn ?_)))))))
  rcases oc h with ⟨hc,h⟩ | ⟨hc,h⟩
  ·refine wt hc Q (wq (wg (ws J 1 Q (wn ?_))))
   cases h
   exact we J Tryz.func141 [(2,.sl 4)] Q Q Q Q
  refine wf hc Q (wi (wq (wg (ws J 2 Q ?_))))
  obtain ⟨j,k,h⟩:=ob h
  refine wj (oI .u8) J k Q Q Q Q Q Q Q Q Q (xw (rg 4 7) (zz139 f.2 r_.b' f.1 f.2.b' [(0,.B 0 0),(4,.I e),(5,.S 3),(6,.I e),(15,.c (.i .u64 d)),(18,.c (.i .u8 j))]) J 1 ?_)
  obtain ⟨l,m,h⟩:=ob h
  refine WPr.bin m Q Q Q Q Q Q Q Q (xw [8,9,10] (zz139 f.2 r_.b' f.1 f.2.b' [(0,.B 0 0),(4,.I e),(5,.S 3),(6,.I e),(15,.c (.i .u64 d)),(20,.c (.i .u64 (wk .u64 (l)))),(22,.I (w64 (7 * e)))]) J 3 ?_)
  obtain ⟨o,p,h⟩:=ob h
  refine WPr.bin p Q Q Q Q Q Q Q Q ?_
  obtain ⟨q,s,h⟩:=ob h
  refine WPr.bin s Q Q Q Q Q Q Q Q (wx (zz139 f.2 r_.b' f.1 f.2.b' [(0,.B 0 0),(3,.c (.i .u64 q)),(4,.I e),(5,.S 3),(6,.I e)]) J 1 (wn (wq (wg (ws J 1 Q ?_)))))
  obtain ⟨t,u,h⟩:=ob h
  refine wj (oI .u8) J u Q Q Q Q Q Q Q Q Q (wx ⟨[(0,.B 0 0),(3,.c (.i .u64 q)),(4,.I e),(5,.S 3),(6,.I e),(28,.O (decide (t < 128)))],[(0,.box (cC12 4 f.2) 160)],[(1,.sl (rI .u8) r_.b'),(3,.sl (rI .u8) f.1),(4,.sl (rI .u8) f.2.b')],7⟩ J 2 (wn ?_))
  rcases oc' h with ⟨hc,h⟩ | ⟨hc,h⟩
  ·exact wf hc Q (wi (wb (wg (ws J 2 Q (wn (wu [(2,.sl 4)] (ih3 (f.2.b',f.2.at',f.2.failed',q,(w64 (e+1))) h) Q Q Q Q))))))
  refine wt hc Q (wq (wg (ws J 2 Q ?_)))
  obtain ⟨v,x,h⟩:=ob h
  refine wj (oI .u8) J x Q Q Q Q Q Q Q Q Q (xw (rg 6 16) (zz113 f.2 r_.b' f.1 f.2.b' [(3,.c (.i .u64 q)),(4,.I e),(5,.S 3),(29,.B 0 0),(34,.O (v==0))]) J 3 ?_)
  rcases oc' h with ⟨hc,h⟩ | ⟨hc,h⟩
  ·refine wy 34 hc Q (xw (rg 13 9) (zz113 f.2 r_.b' f.1 f.2.b' [(3,.c (.i .u64 q)),(5,.S 3),(29,.B 0 0),(38,.O false),(41,.O (e==9))]) J 7 ?_)
   rcases oc' h with ⟨hc,h⟩ | ⟨hc,h⟩
   ·refine wy 41 hc Q (wx (zz67 f.2.at' r_.b' f.2.b' [(3,.c (.i .u64 q))]) J 9 (wn (wq (wg (ws J 1 Q ?_)))))
    obtain ⟨y,z,h⟩:=ob h
    refine WPr.bin z Q Q Q Q Q Q Q Q (xw [4,5,6,7,8] (zz67 f.2.at' r_.b' f.2.b' [(52,.I (w64 (y))),(53,.c (.i .u64 q))]) J 2 ?_)
    obtain ⟨A,C,h⟩:=ob h
    refine WPr.bin C Q Q Q Q Q Q Q Q (xw [7,8] (zz67 f.2.at' r_.b' f.2.b' [(52,.I (w64 (y))),(56,.I (w64 (0-(w64 (A)))))]) J 2 ?_)
    obtain ⟨D,G,h⟩:=ob h
    refine WPr.bin G Q Q Q Q Q Q Q Q (ws J 1 Q (wn ?_))
    cases h
    exact we J Tryz.func141 [(2,.sl 4)] Q Q Q Q
   refine wy 41 hc Q (ws J 1 Q ?_)
   obtain ⟨H,K,h⟩:=ob h
   refine wj (oI .u8) J K Q Q Q Q Q Q Q Q Q (wx (zz68 f.2.at' (decide (H > 1)) r_.b' f.2.b' [(3,.c (.i .u64 q))]) J 7 (wn (wq (wg (ws J 1 Q ?_)))))
   obtain ⟨R,T,h⟩:=ob h
   refine WPr.bin T Q Q Q Q Q Q Q Q (xw [4,5,6,7,8] (zz68 f.2.at' (decide (H > 1)) r_.b' f.2.b' [(52,.I (w64 (R))),(53,.c (.i .u64 q))]) J 2 ?_)
   obtain ⟨U,X,h⟩:=ob h
   refine WPr.bin X Q Q Q Q Q Q Q Q (xw [7,8] (zz68 f.2.at' (decide (H > 1)) r_.b' f.2.b' [(52,.I (w64 (R))),(56,.I (w64 (0-(w64 (U)))))]) J 2 ?_)
   obtain ⟨Y,Z,h⟩:=ob h
   refine WPr.bin Z Q Q Q Q Q Q Q Q (ws J 1 Q (wn ?_))
   cases h
   exact we J Tryz.func141 [(2,.sl 4)] Q Q Q Q
  refine wy 34 hc Q (xw (rg 10 12) (zz113 f.2 r_.b' f.1 f.2.b' [(3,.c (.i .u64 q)),(4,.I e),(5,.S 3),(29,.B 0 0),(38,.O (decide (e > 0)))]) J 4 ?_)
  rcases oc h with ⟨hc,h⟩ | ⟨hc,h⟩
  ·refine wy 38 hc Q (wx (zz140 f.2.at' r_.b' f.2.b' [(3,.c (.i .u64 q))]) J 12 (wn (wq (wg (ws J 1 Q ?_)))))
   obtain ⟨a0,b0,h⟩:=ob h
   refine WPr.bin b0 Q Q Q Q Q Q Q Q (xw [4,5,6,7,8] (zz140 f.2.at' r_.b' f.2.b' [(52,.I (w64 (a0))),(53,.c (.i .u64 q))]) J 2 ?_)
   obtain ⟨c0,d0,h⟩:=ob h
   refine WPr.bin d0 Q Q Q Q Q Q Q Q (xw [7,8] (zz140 f.2.at' r_.b' f.2.b' [(52,.I (w64 (a0))),(56,.I (w64 (0-(w64 (c0)))))]) J 2 ?_)
   obtain ⟨e0,f0,h⟩:=ob h
   refine WPr.bin f0 Q Q Q Q Q Q Q Q (ws J 1 Q (wn ?_))
   cases h
   exact we J Tryz.func141 [(2,.sl 4)] Q Q Q Q
  refine wy 38 hc Q (xw (rg 13 9) (zz113 f.2 r_.b' f.1 f.2.b' [(3,.c (.i .u64 q)),(5,.S 3),(29,.B 0 0),(38,.O false),(41,.O (e==9))]) J 3 ?_)
  rcases oc' h with ⟨hc,h⟩ | ⟨hc,h⟩
  ·refine wy 41 hc Q (wx (zz67 f.2.at' r_.b' f.2.b' [(3,.c (.i .u64 q))]) J 9 (wn (wq (wg (ws J 1 Q ?_)))))
   obtain ⟨g0,i0,h⟩:=ob h
   refine WPr.bin i0 Q Q Q Q Q Q Q Q (xw [4,5,6,7,8] (zz67 f.2.at' r_.b' f.2.b' [(52,.I (w64 (g0))),(53,.c (.i .u64 q))]) J 2 ?_)
   obtain ⟨j0,k0,h⟩:=ob h
   refine WPr.bin k0 Q Q Q Q Q Q Q Q (xw [7,8] (zz67 f.2.at' r_.b' f.2.b' [(52,.I (w64 (g0))),(56,.I (w64 (0-(w64 (j0)))))]) J 2 ?_)
   obtain ⟨l0,m0,h⟩:=ob h
   refine WPr.bin m0 Q Q Q Q Q Q Q Q (ws J 1 Q (wn ?_))
   cases h
   exact we J Tryz.func141 [(2,.sl 4)] Q Q Q Q
  refine wy 41 hc Q (ws J 1 Q ?_)
  obtain ⟨o0,p0,h⟩:=ob h
  refine wj (oI .u8) J p0 Q Q Q Q Q Q Q Q Q (wx (zz68 f.2.at' (decide (o0 > 1)) r_.b' f.2.b' [(3,.c (.i .u64 q))]) J 7 (wn (wq (wg (ws J 1 Q ?_)))))
  obtain ⟨q0,s0,h⟩:=ob h
  refine WPr.bin s0 Q Q Q Q Q Q Q Q (xw [4,5,6,7,8] (zz68 f.2.at' (decide (o0 > 1)) r_.b' f.2.b' [(52,.I (w64 (q0))),(53,.c (.i .u64 q))]) J 2 ?_)
  obtain ⟨t0,u0,h⟩:=ob h
  refine WPr.bin u0 Q Q Q Q Q Q Q Q (xw [7,8] (zz68 f.2.at' (decide (o0 > 1)) r_.b' f.2.b' [(52,.I (w64 (q0))),(56,.I (w64 (0-(w64 (t0)))))]) J 2 ?_)
  obtain ⟨v0,x0,h⟩:=ob h
  refine WPr.bin x0 Q Q Q Q Q Q Q Q (ws J 1 Q (wn ?_))
  cases h
  exact we J Tryz.func141 [(2,.sl 4)] Q Q Q Q
 exact wu [(2,.sl 1)] (ih N (r_.b',r_.at',r_.failed',0,0) h) Q Q Q Q
theorem z164_ct (N:Nat) (r_:T12) (lo_:Int) (hi_:Int) (r:Int × T12) (h:z164 N r_ lo_ hi_=some r) :
 Fn Tryz.prog 164 ⟨2,[.B 0 0,.I lo_,.I hi_],[(1,.sl (rI .u8) r_.b')],[(0,.box (cC12 1 r_) 160)],3,.I r.1,[(2,.sl (rI .u8) r.2.b')],[(0,.box (cC12 2 r.2) 160)]⟩:=by
 refine Fn.intro _ _ Tryz.func164 rfl (by kernel_rfl) rfl (fun E F w=>?_)
 unfold z164 at h
 refine wq (wg (ws J 1 Q (wn (wq (wg (ws J 1 Q ?_))))))
 obtain ⟨x1,c,h⟩:=ob h
 refine wc (z141_ct N r_ _ c) [(0,.bp 0 0),(1,.sl 1)] [] Q Q Q Q Q Q Q Q (.inl rfl) rfl (wx (zz17 x1.2 r_.b' x1.2.b' [(0,.B 0 0),(1,.I lo_),(2,.I hi_),(6,.I 0),(7,.I x1.1)]) J 1 (wn (wq (wg (xw (rg 6 12) (zz17 x1.2 r_.b' x1.2.b' [(1,.I lo_),(2,.I hi_),(6,.I 0),(7,.I x1.1),(10,.B 0 0),(15,.O x1.2.failed')]) J 6 ?_)))))
 rcases oc h with ⟨hc,h⟩ | ⟨hc,h⟩
 ·refine wy 15 hc Q (wx (zz137 x1.2.at' r_.b' x1.2.b' [(6,.I 0),(7,.I x1.1)]) J 12 (wn (wq (wg (ws J 2 Q (wn ?_))))))
  cases h
  exact we J Tryz.func164 [(2,.sl 2)] Q Q Q Q
 refine wy 15 hc Q (xw (rg 11 7) (zz17 x1.2 r_.b' x1.2.b' [(2,.I hi_),(6,.I 0),(7,.I x1.1),(10,.B 0 0),(20,.O (decide (x1.1 < lo_)))]) J 5 ?_)
 rcases oc h with ⟨hc,h⟩ | ⟨hc,h⟩
 ·refine wy 20 hc Q (wx (zz137 x1.2.at' r_.b' x1.2.b' [(6,.I 0),(7,.I x1.1)]) J 7 (wn (wq (wg (ws J 2 Q (wn ?_))))))
  cases h
  exact we J Tryz.func164 [(2,.sl 2)] Q Q Q Q
 refine wy 20 hc Q (wx (zz66 x1.2.at' (decide (x1.1 > hi_)) r_.b' x1.2.b' [(6,.I 0),(7,.I x1.1)]) J 7 (wn (wq (wg (ws J 2 Q (wn ?_))))))
 cases h
 exact we J Tryz.func164 [(2,.sl 2)] Q Q Q Q
theorem z162_ct (N:Nat) (r_:T12) (most_:Int) (r:(List Int) × T12) (h:z162 N r_ most_=some r) :
 Fn Tryz.prog 162 ⟨2,[.B 0 0,.I most_],[(1,.sl (rI .u8) r_.b')],[(0,.box (cC12 1 r_) 160)],4,.S 2,[(2,.sl (rI .u8) r.1),(3,.sl (rI .u8) r.2.b')],[(0,.box (cC12 3 r.2) 160)]⟩:=by
 refine Fn.intro _ _ Tryz.func162 rfl (by kernel_rfl) rfl (fun E F w=>?_)
 unfold z162 at h
 refine wq (wg (ws J 1 Q (wn (wq (wg (xw [2,3] (zz9 r_ r_.b' [(0,.B 0 0),(4,.c .nil),(6,.B 0 0),(7,.I most_)]) J 2 ?_))))))
 obtain ⟨x1,d,h⟩:=ob h
 refine wc (z164_ct N r_ 0 most_ _ d) [(0,.bp 0 0),(1,.sl 1)] [] Q Q Q Q Q Q Q Q (.inl rfl) rfl (wx (zz17 x1.2 r_.b' x1.2.b' [(0,.B 0 0),(4,.c .nil),(5,.I x1.1)]) J 1 (wn (wq (wq (wg (wx (zz17 x1.2 r_.b' x1.2.b' [(0,.B 0 0),(4,.c .nil),(5,.I x1.1),(12,.O x1.2.failed')]) J 4 (wn ?_)))))))
 rcases oc h with ⟨hc,h⟩ | ⟨hc,h⟩
 ·refine wt hc Q (wq (wg (ws J 1 Q (wn ?_))))
  cases h
  exact we J Tryz.func162 [(2,.nil),(3,.sl 2)] Q Q Q Q
 refine wf hc Q (wi (wq (wg (ws J 2 Q ?_))))
 obtain ⟨x2,e,h⟩:=ob h
 refine wc (z165_ct N x1.2 x1.1 _ e) [(0,.bp 0 0),(1,.sl 2)] [] Q Q Q Q Q Q Q Q (.inl rfl) rfl (wx (zz138 x2.2 r_.b' x2.1 x2.2.b' [(4,.S 3)]) J 1 (wn ?_))
 cases h
 exact we J Tryz.func162 [(2,.sl 3),(3,.sl 4)] Q Q Q Q
theorem z161_21_ct (N:Nat) (c0_:T12) (c2_:Int) (r:(List Int) × T12) (h:z161_21 N c0_ c2_=some r) :
 Fn Tryz.prog 161 ⟨4,[.B 2 0,.B 3 0],[(1,.sl (rI .u8) c0_.b')],[(0,.box (cC12 1 c0_) 160),(2,.box [.bp 0 0] 115),(3,.box [.I c2_] 3)],6,.S 4,[(5,.sl (rI .u8) r.2.b')],[(4,.own (rI .u8) r.1 true),(0,.box (cC12 5 r.2) 160),(2,.box [.bp 0 0] 115),(3,.box [.I c2_] 3)]⟩:=by
 refine Fn.intro _ _ Tryz.func161 rfl (by kernel_rfl) rfl (fun E F w=>?_)
 unfold z161_21 at h
 refine wq (wg (ws J 1 Q (wn (wq (wg (xw [2,3,4] (zz85 c0_ c2_ c0_.b' [(3,.B 0 0),(4,.I c2_)]) J 2 ?_))))))
 obtain ⟨x1,c,h⟩:=ob h
 refine wc (z162_ct N c0_ c2_ _ c) [(0,.bp 0 0),(1,.sl 1)] [] Q Q Q Q Q Q Q Q (.inl rfl) rfl (xw [3,4] ⟨[(5,.S 4)],[(0,.box (cC12 5 x1.2) 160),(2,.box [.bp 0 0] 115),(3,.box [.I c2_] 3)],[(1,.sl (rI .u8) c0_.b'),(4,.sl (rI .u8) x1.1),(5,.sl (rI .u8) x1.2.b')],6⟩ J 0 ?_)
 obtain ⟨x2,d,h⟩:=ob h
 refine WPr.appN (rI .u8) J d (by exact (srcI rfl)) Q Q Q Q Q Q Q Q Q (wx ⟨[(2,.S 6)],[(0,.box (cC12 5 x1.2) 160),(2,.box [.bp 0 0] 115),(3,.box [.I c2_] 3),(6,.own (rI .u8) x2 true)],[(1,.sl (rI .u8) c0_.b'),(5,.sl (rI .u8) x1.2.b')],7⟩ J 1 (wn ?_))
 cases h
 exact we J Tryz.func161 [(4,.sl 6),(5,.sl 5)] Q Q Q Q
theorem z160_22_ct (N:Nat) (c0_:T12) (c2_:Int) (r:(List Int) × T12) (h:z160_22 N c0_ c2_=some r) :
 Fn Tryz.prog 160 ⟨4,[.B 0 0,.c (.cl 161 [] [2,3])],[(1,.sl (rI .u8) c0_.b')],[(0,.box (cC12 1 c0_) 160),(2,.box [.bp 0 0] 115),(3,.box [.I c2_] 3)],6,.S 4,[(5,.sl (rI .u8) r.2.b')],[(4,.own (rI .u8) r.1 true),(0,.box (cC12 5 r.2) 160),(2,.box [.bp 0 0] 115),(3,.box [.I c2_] 3)]⟩:=by
 refine Fn.intro _ _ Tryz.func160 rfl (by kernel_rfl) rfl (fun E F w=>?_)
 unfold z160_22 at h
 refine wq (wg (ws J 1 Q (wn (wq (wg (ws J 1 Q (wn (wq (wq (wg (xw (rg 1 7) (zz85 c0_ c2_ c0_.b' [(0,.B 0 0),(1,.c (.cl 161 [] [2,3])),(4,.c .nil),(5,.c .nil),(8,.B 0 0)]) J 1 (WPr.pnil (el:=160) false Q Q Q Q (by kernel_rfl) Q Q Q (wx (zz85 c0_ c2_ c0_.b' [(0,.B 0 0),(1,.c (.cl 161 [] [2,3])),(4,.c .nil),(5,.c .nil),(15,.O c0_.failed')]) J 6 (wn ?_))))))))))))))
 rcases oc h with ⟨hc,h⟩ | ⟨hc,h⟩
 ·refine wt hc Q (wq (wg (ws J 2 Q (wn ?_))))
  cases h
  exact we J Tryz.func160 [(4,.nil),(5,.sl 1)] Q Q Q Q
 refine wf hc Q (wi (wq (wg (wx (zz85 c0_ c2_ c0_.b' [(0,.B 0 0),(1,.c (.cl 161 [] [2,3])),(4,.c .nil),(5,.c .nil),(6,.I c0_.at')]) J 5 (wn (wq (wg (ws J 1 Q ?_))))))))
 obtain ⟨x1,d,h⟩:=ob h
 refine WPr.callc (z161_21_ct N c0_ c2_ _ d) [(0,.bp 0 0),(1,.sl 1),(2,.bp 2 0),(3,.bp 3 0)] [] Q Q Q Q Q Q Q Q Q (.inl rfl) rfl (wx (zz180 x1.2 c2_ x1.1 c0_.b' x1.2.b' [(0,.B 0 0),(4,.c .nil),(5,.c .nil),(6,.I c0_.at'),(7,.S 4)]) J 1 (wn (wq (wq (wg (wx (zz180 x1.2 c2_ x1.1 c0_.b' x1.2.b' [(0,.B 0 0),(4,.c .nil),(5,.c .nil),(6,.I c0_.at'),(7,.S 4),(26,.O x1.2.failed')]) J 4 (wn ?_)))))))
 rcases oc h with ⟨hc,h⟩ | ⟨hc,h⟩
 ·refine wt hc Q (wq (wg (wx ⟨[(4,.c .nil),(5,.c .nil)],[(0,.box [.sl 5,.I c0_.at',.b x1.2.failed'] 160),(2,.box [.bp 0 0] 115),(3,.box [.I c2_] 3)],[(1,.sl (rI .u8) c0_.b'),(5,.sl (rI .u8) x1.2.b')],6⟩ J 5 (wn (wq (wg (ws J 2 Q (wn ?_))))))))
  cases h
  exact we J Tryz.func160 [(4,.nil),(5,.sl 5)] Q Q Q Q
 refine wf hc Q (wi (wq (wg (ws J 2 Q (wn ?_)))))
 cases h
 exact we J Tryz.func160 [(4,.sl 4),(5,.sl 5)] Q Q Q Q
theorem z132_ct (N:Nat) (r_:T12) (most_:Int) (r:(List Int) × T12) (h:z132 N r_ most_=some r) :
 Fn Tryz.prog 132 ⟨2,[.B 0 0,.I most_],[(1,.sl (rI .u8) r_.b')],[(0,.box (cC12 1 r_) 160)],4,.S 2,[(3,.sl (rI .u8) r.2.b')],[(2,.own (rI .u8) r.1 true),(0,.box (cC12 3 r.2) 160)]⟩:=by
 refine Fn.intro _ _ Tryz.func132 rfl (by kernel_rfl) rfl (fun E F w=>?_)
 unfold z132 at h
 refine wq (wg (wx (zz85 r_ most_ r_.b' [(2,.B 2 0),(3,.B 3 0),(4,.c .nil)]) J 3 (wn (wq (wg (ws J 2 Q ?_))))))
 obtain ⟨x1,d,h⟩:=ob h
 refine wc (z160_22_ct N r_ most_ _ d) [(0,.bp 0 0),(1,.sl 1),(2,.bp 2 0),(3,.bp 3 0)] [] Q Q Q Q Q Q Q Q (.inl rfl) rfl (wx ⟨[(4,.S 4)],[(0,.box (cC12 5 x1.2) 160),(4,.own (rI .u8) x1.1 true)],[(1,.sl (rI .u8) r_.b'),(5,.sl (rI .u8) x1.2.b')],6⟩ J 1 (wn ?_))
 cases h
 exact we J Tryz.func132 [(2,.sl 4),(3,.sl 5)] Q Q Q Q
theorem z93_ct (N:Nat) (r_:T12) (most_:Int) (r:ByteArray × T12) (h:z93 N r_ most_=some r) :
 Fn Tryz.prog 93 ⟨2,[.B 0 0,.I most_],[(1,.sl (rI .u8) r_.b')],[(0,.box (cC12 1 r_) 160)],3,.c (.s r.1),[(2,.sl (rI .u8) r.2.b')],[(0,.box (cC12 2 r.2) 160)]⟩:=by
 refine Fn.intro _ _ Tryz.func93 rfl (by kernel_rfl) rfl (fun E F w=>?_)
 unfold z93 at h
 refine wq (wg (ws J 1 Q (wn (wq (wg (xw [2,3,4] (zz9 r_ r_.b' [(5,.B 0 0),(6,.I most_)]) J 2 ?_))))))
 obtain ⟨x1,d,h⟩:=ob h
 refine wc (z132_ct N r_ most_ _ d) [(0,.bp 0 0),(1,.sl 1)] [] Q Q Q Q Q Q Q Q (.inl rfl) rfl (xw [3,4] ⟨[(7,.S 2)],[(0,.box (cC12 3 x1.2) 160),(2,.own (rI .u8) x1.1 true)],[(1,.sl (rI .u8) r_.b'),(3,.sl (rI .u8) x1.2.b')],4⟩ J 0 (WPr.cvs (el:=5) x1.1 (srcO rfl) Q Q Q Q Q (by kernel_rfl) (by kernel_rfl) (by kernel_rfl) rfl (shO rfl) rfl (ws J 1 Q (wn ?_))))
 cases h
 exact we J Tryz.func93 [(2,.sl 3)] Q Q Q Q
theorem z163_23_ct (N:Nat) (c0_:T12) (c2_:Int) (c3_:Int) (r:Int × T12) (h:z163_23 N c0_ c2_ c3_=some r) :
 Fn Tryz.prog 163 ⟨5,[.B 2 0,.B 3 0,.B 4 0],[(1,.sl (rI .u8) c0_.b')],[(0,.box (cC12 1 c0_) 160),(2,.box [.bp 0 0] 115),(3,.box [.I c2_] 3),(4,.box [.I c3_] 3)],6,.I r.1,[(5,.sl (rI .u8) r.2.b')],[(0,.box (cC12 5 r.2) 160),(2,.box [.bp 0 0] 115),(3,.box [.I c2_] 3),(4,.box [.I c3_] 3)]⟩:=by
 refine Fn.intro _ _ Tryz.func163 rfl (by kernel_rfl) rfl (fun E F w=>?_)
 unfold z163_23 at h
 refine wq (wg (ws J 1 Q (wn (wq (wg (xw [3,4] (zz86 c0_ c2_ c3_ c0_.b' [(4,.B 0 0),(5,.I c2_),(6,.I c3_)]) J 3 ?_))))))
 obtain ⟨x1,c,h⟩:=ob h
 refine wc (z164_ct N c0_ c2_ c3_ _ c) [(0,.bp 0 0),(1,.sl 1)] [] Q Q Q Q Q Q Q Q (.inl rfl) rfl (wx (zz141 x1.2 c2_ c3_ c0_.b' x1.2.b' [(3,.I x1.1)]) J 1 (wn ?_))
 cases h
 exact we J Tryz.func163 [(5,.sl 5)] Q Q Q Q
theorem z140_24_ct (N:Nat) (c0_:T12) (c2_:Int) (c3_:Int) (r:Int × T12) (h:z140_24 N c0_ c2_ c3_=some r) :
 Fn Tryz.prog 140 ⟨5,[.B 0 0,.c (.cl 163 [] [2,3,4])],[(1,.sl (rI .u8) c0_.b')],[(0,.box (cC12 1 c0_) 160),(2,.box [.bp 0 0] 115),(3,.box [.I c2_] 3),(4,.box [.I c3_] 3)],6,.I r.1,[(5,.sl (rI .u8) r.2.b')],[(0,.box (cC12 5 r.2) 160),(2,.box [.bp 0 0] 115),(3,.box [.I c2_] 3),(4,.box [.I c3_] 3)]⟩:=by
 refine Fn.intro _ _ Tryz.func140 rfl (by kernel_rfl) rfl (fun E F w=>?_)
 unfold z140_24 at h
 refine wq (wg (ws J 1 Q (wn (wq (wg (ws J 1 Q (wn (wq (wq (wg (xw (rg 1 7) (zz86 c0_ c2_ c3_ c0_.b' [(0,.B 0 0),(1,.c (.cl 163 [] [2,3,4])),(4,.I 0),(5,.I 0),(8,.B 0 0)]) J 1 (WPr.pnil (el:=160) false Q Q Q Q (by kernel_rfl) Q Q Q (wx (zz86 c0_ c2_ c3_ c0_.b' [(0,.B 0 0),(1,.c (.cl 163 [] [2,3,4])),(4,.I 0),(5,.I 0),(15,.O c0_.failed')]) J 6 (wn ?_))))))))))))))
 rcases oc h with ⟨hc,h⟩ | ⟨hc,h⟩
 ·refine wt hc Q (wq (wg (ws J 2 Q (wn ?_))))
  cases h
  exact we J Tryz.func140 [(5,.sl 1)] Q Q Q Q
 refine wf hc Q (wi (wq (wg (wx (zz86 c0_ c2_ c3_ c0_.b' [(0,.B 0 0),(1,.c (.cl 163 [] [2,3,4])),(4,.I 0),(5,.I 0),(6,.I c0_.at')]) J 5 (wn (wq (wg (ws J 1 Q ?_))))))))
 obtain ⟨x1,d,h⟩:=ob h
 refine WPr.callc (z163_23_ct N c0_ c2_ c3_ _ d) [(0,.bp 0 0),(1,.sl 1),(2,.bp 2 0),(3,.bp 3 0),(4,.bp 4 0)] [] Q Q Q Q Q Q Q Q Q (.inl rfl) rfl (wx (zz141 x1.2 c2_ c3_ c0_.b' x1.2.b' [(0,.B 0 0),(4,.I 0),(5,.I 0),(6,.I c0_.at'),(7,.I x1.1)]) J 1 (wn (wq (wq (wg (wx (zz141 x1.2 c2_ c3_ c0_.b' x1.2.b' [(0,.B 0 0),(4,.I 0),(5,.I 0),(6,.I c0_.at'),(7,.I x1.1),(26,.O x1.2.failed')]) J 4 (wn ?_)))))))
 rcases oc h with ⟨hc,h⟩ | ⟨hc,h⟩
 ·refine wt hc Q (wq (wg (wx ⟨[(4,.I 0),(5,.I 0)],[(0,.box [.sl 5,.I c0_.at',.b x1.2.failed'] 160),(2,.box [.bp 0 0] 115),(3,.box [.I c2_] 3),(4,.box [.I c3_] 3)],[(1,.sl (rI .u8) c0_.b'),(5,.sl (rI .u8) x1.2.b')],6⟩ J 5 (wn (wq (wg (ws J 2 Q (wn ?_))))))))
  cases h
  exact we J Tryz.func140 [(5,.sl 5)] Q Q Q Q
 refine wf hc Q (wi (wq (wg (ws J 2 Q (wn ?_)))))
 cases h
 exact we J Tryz.func140 [(5,.sl 5)] Q Q Q Q
theorem z133_ct (N:Nat) (r_:T12) (lo_:Int) (hi_:Int) (r:Int × T12) (h:z133 N r_ lo_ hi_=some r) :
 Fn Tryz.prog 133 ⟨2,[.B 0 0,.I lo_,.I hi_],[(1,.sl (rI .u8) r_.b')],[(0,.box (cC12 1 r_) 160)],3,.I r.1,[(2,.sl (rI .u8) r.2.b')],[(0,.box (cC12 2 r.2) 160)]⟩:=by
 refine Fn.intro _ _ Tryz.func133 rfl (by kernel_rfl) rfl (fun E F w=>?_)
 unfold z133 at h
 refine wq (wg (wx (zz86 r_ lo_ hi_ r_.b' [(3,.B 2 0),(4,.B 3 0),(5,.B 4 0),(6,.I 0)]) J 4 (wn (wq (wg (ws J 2 Q ?_))))))
 obtain ⟨x1,c,h⟩:=ob h
 refine wc (z140_24_ct N r_ lo_ hi_ _ c) [(0,.bp 0 0),(1,.sl 1),(2,.bp 2 0),(3,.bp 3 0),(4,.bp 4 0)] [] Q Q Q Q Q Q Q Q (.inl rfl) rfl (wx ⟨[(6,.I x1.1)],[(0,.box (cC12 5 x1.2) 160)],[(1,.sl (rI .u8) r_.b'),(5,.sl (rI .u8) x1.2.b')],6⟩ J 1 (wn ?_))
 cases h
 exact we J Tryz.func133 [(2,.sl 5)] Q Q Q Q
theorem z95_ct (N:Nat) (r_:T12) (r:ByteArray × T12) (h:z95 N r_=some r) :
 Fn Tryz.prog 95 ⟨2,[.B 0 0],[(1,.sl (rI .u8) r_.b')],[(0,.box (cC12 1 r_) 160)],3,.c (.s r.1),[(2,.sl (rI .u8) r.2.b')],[(0,.box (cC12 2 r.2) 160)]⟩:=by
 refine Fn.intro _ _ Tryz.func95 rfl (by kernel_rfl) rfl (fun E F w=>?_)
 unfold z95 at h
 refine wq (wg (ws J 1 Q (wn (wq (wg (ws J 1 Q ?_))))))
 obtain ⟨x1,d,h⟩:=ob h
 refine wc (z93_ct N r_ 16 _ d) [(0,.bp 0 0),(1,.sl 1)] [] Q Q Q Q Q Q Q Q (.inl rfl) rfl (wx (zz17 x1.2 r_.b' x1.2.b' [(2,.c (.s x1.1))]) J 1 (wn ?_))
 cases h
 exact we J Tryz.func95 [(2,.sl 2)] Q Q Q Q
theorem z94_25_ct (N:Nat) (r_:T12) (most_:Int) (r:(List ByteArray) × T12) (h:z94_25 N r_ most_=some r) :
 Fn Tryz.prog 94 ⟨2,[.B 0 0,.I most_,.c (.cl 95 [] [])],[(1,.sl (rI .u8) r_.b')],[(0,.box (cC12 1 r_) 160)],4,.S 2,[(3,.sl (rI .u8) r.2.b')],[(2,.own rS r.1 true),(0,.box (cC12 3 r.2) 160)]⟩:=by
 refine Fn.intro _ _ Tryz.func94 rfl (by kernel_rfl) rfl (fun E F w=>?_)
 unfold z94_25 at h
 refine wq (wg (ws J 1 Q (wn (wq (wg (ws J 1 Q (wn (wq (wq (wg (xw [2,3] (zz9 r_ r_.b' [(0,.B 0 0),(2,.c (.cl 95 [] [])),(6,.c .nil),(7,.c .nil),(8,.B 0 0),(9,.I most_)]) J 2 ?_)))))))))))
 obtain ⟨x1,d,h⟩:=ob h
 refine wc (z133_ct N r_ 0 most_ _ d) [(0,.bp 0 0),(1,.sl 1)] [] Q Q Q Q Q Q Q Q (.inl rfl) rfl (wx (zz17 x1.2 r_.b' x1.2.b' [(0,.B 0 0),(2,.c (.cl 95 [] [])),(6,.c .nil),(7,.c .nil),(10,.I x1.1),(11,.I 0)]) J 1 (wn ?_))
 refine wC (σ:=(List Int) × Int × Bool × (List ByteArray)) (fun st=>(zz142 st.2.1 st.2.2.1 st.2.2.2 r_.b' st.1 [(7,.S 4)])) (fun st=>z94_25_k1 st.1 st.2.1 st.2.2.1 st.2.2.2=some r) ?_ (fun j1=>?_)
 ·rintro ⟨vbk0_0_0_1,vbk0_0_1_1,vbk0_0_2_1,e⟩ h
  replace h:z94_25_k1 vbk0_0_0_1 vbk0_0_1_1 vbk0_0_2_1 e=some r:=h
  unfold z94_25_k1 at h
  refine wq (wg (ws J 2 Q (wn ?_)))
  cases h
  exact we J Tryz.func94 [(2,.sl 4),(3,.sl 3)] Q Q Q Q
 refine wo ?_
 refine wI (σ:=(List Int) × Int × Bool × (List ByteArray) × Int) (fun st=>(zz142 st.2.1 st.2.2.1 st.2.2.2.1 r_.b' st.1 [(0,.B 0 0),(2,.c (.cl 95 [] [])),(7,.S 4),(10,.I x1.1),(11,.I st.2.2.2.2)])) (fun n st=>z94_25_l2 N x1 n st.1 st.2.1 st.2.2.1 st.2.2.2.1 st.2.2.2.2) (r:=r) (fun _=>rfl) ?_ (fun ih=>?_)
 ·intro n2 ih3
  rintro ⟨vbk0_0_0_3,vbk0_0_1_3,vbk0_0_2_3,f,g⟩ h
  replace h:z94_25_l2 N x1 (n2+1) vbk0_0_0_3 vbk0_0_1_3 vbk0_0_2_3 f g=some r:=h
  unfold z94_25_l2 at h
  refine wq (wg (ws J 1 Q (wn (wq ?_))))
  rcases oc' h with ⟨hc,h⟩ | ⟨hc,h⟩
  ·exact wf hc Q (wz rfl (wu [] (j1 (vbk0_0_0_3,vbk0_0_1_3,vbk0_0_2_3,f) h) Q Q Q Q))
  refine wt hc Q (wi (wq (wo (wg (xw [3,4,5,6] (zz142 vbk0_0_1_3 vbk0_0_2_3 f r_.b' vbk0_0_0_3 [(0,.B 0 0),(2,.c (.cl 95 [] [])),(10,.I x1.1),(11,.I g),(13,.S 4),(14,.c (.cl 95 [] [])),(15,.B 0 0)]) J 3 ?_)))))
  obtain ⟨i,j,h⟩:=ob h
  refine WPr.callc (z95_ct N (⟨vbk0_0_0_3,vbk0_0_1_3,vbk0_0_2_3⟩:T12) _ j) [(0,.bp 0 0),(1,.sl 3)] [] Q Q Q Q Q Q Q Q Q (.inl rfl) rfl (xw [4,5,6] ⟨[(0,.B 0 0),(2,.c (.cl 95 [] [])),(10,.I x1.1),(11,.I g),(13,.S 4),(16,.c (.s i.1))],[(0,.box (cC12 5 i.2) 160),(4,.own rS f true)],[(1,.sl (rI .u8) r_.b'),(5,.sl (rI .u8) i.2.b')],6⟩ J 0 (WPr.bs (cs:=[.s i.1]) oS J ([i.1]:List ByteArray) Q Q Q Q Q Q (by kernel_rfl) (by exact (an Q Q)) rfl ?_))
  obtain ⟨k,l,h⟩:=ob h
  exact WPr.app J l (by exact (srcO rfl)) Q Q Q Q Q Q Q Q Q Q (wx ⟨[(0,.B 0 0),(2,.c (.cl 95 [] [])),(7,.S 7),(10,.I x1.1),(11,.I g)],[(0,.box (cC12 5 i.2) 160),(7,.own rS k true)],[(1,.sl (rI .u8) r_.b'),(5,.sl (rI .u8) i.2.b')],8⟩ J 1 (wn (wb (wg (ws J 2 Q (wn (wu [(3,.sl 5),(4,.sl 7)] (ih3 (i.2.b',i.2.at',i.2.failed',k,(w64 (g+1))) h) Q Q Q Q)))))))
 exact wu [(3,.sl 2),(4,.nil)] (ih N (x1.2.b',x1.2.at',x1.2.failed',([]:List ByteArray),0) h) Q Q Q Q
theorem z140_26_ct (N:Nat) (c0_:T12) (r:Int × T12) (h:z140_26 N c0_=some r) :
 Fn Tryz.prog 140 ⟨2,[.B 0 0,.c (.cl 141 [0] [])],[(1,.sl (rI .u8) c0_.b')],[(0,.box (cC12 1 c0_) 160)],3,.I r.1,[(2,.sl (rI .u8) r.2.b')],[(0,.box (cC12 2 r.2) 160)]⟩:=by
 refine Fn.intro _ _ Tryz.func140 rfl (by kernel_rfl) rfl (fun E F w=>?_)
 unfold z140_26 at h
 refine wq (wg (ws J 1 Q (wn (wq (wg (ws J 1 Q (wn (wq (wq (wg (xw (rg 1 7) (zz9 c0_ c0_.b' [(0,.B 0 0),(1,.c (.cl 141 [0] [])),(4,.I 0),(5,.I 0),(8,.B 0 0)]) J 1 (WPr.pnil (el:=160) false Q Q Q Q (by kernel_rfl) Q Q Q (wx (zz9 c0_ c0_.b' [(0,.B 0 0),(1,.c (.cl 141 [0] [])),(4,.I 0),(5,.I 0),(15,.O c0_.failed')]) J 6 (wn ?_))))))))))))))
 rcases oc h with ⟨hc,h⟩ | ⟨hc,h⟩
 ·refine wt hc Q (wq (wg (ws J 2 Q (wn ?_))))
  cases h
  exact we J Tryz.func140 [(2,.sl 1)] Q Q Q Q
 refine wf hc Q (wi (wq (wg (wx (zz9 c0_ c0_.b' [(0,.B 0 0),(1,.c (.cl 141 [0] [])),(4,.I 0),(5,.I 0),(6,.I c0_.at')]) J 5 (wn (wq (wg (ws J 1 Q ?_))))))))
 obtain ⟨x1,d,h⟩:=ob h
 refine WPr.callc (z141_ct N c0_ _ d) [(0,.bp 0 0),(1,.sl 1)] [] Q Q Q Q Q Q Q Q Q (.inl rfl) rfl (wx (zz17 x1.2 c0_.b' x1.2.b' [(0,.B 0 0),(4,.I 0),(5,.I 0),(6,.I c0_.at'),(7,.I x1.1)]) J 1 (wn (wq (wq (wg (wx (zz17 x1.2 c0_.b' x1.2.b' [(0,.B 0 0),(4,.I 0),(5,.I 0),(6,.I c0_.at'),(7,.I x1.1),(26,.O x1.2.failed')]) J 4 (wn ?_)))))))
 rcases oc h with ⟨hc,h⟩ | ⟨hc,h⟩
 ·refine wt hc Q (wq (wg (wx (zz66 c0_.at' x1.2.failed' c0_.b' x1.2.b' [(4,.I 0),(5,.I 0)]) J 5 (wn (wq (wg (ws J 2 Q (wn ?_))))))))
  cases h
  exact we J Tryz.func140 [(2,.sl 2)] Q Q Q Q
 refine wf hc Q (wi (wq (wg (ws J 2 Q (wn ?_)))))
 cases h
 exact we J Tryz.func140 [(2,.sl 2)] Q Q Q Q
theorem z98_ct (N:Nat) (r_:T12) (r:Int × T12) (h:z98 N r_=some r) :
 Fn Tryz.prog 98 ⟨2,[.B 0 0],[(1,.sl (rI .u8) r_.b')],[(0,.box (cC12 1 r_) 160)],3,.I r.1,[(2,.sl (rI .u8) r.2.b')],[(0,.box (cC12 2 r.2) 160)]⟩:=by
 refine Fn.intro _ _ Tryz.func98 rfl (by kernel_rfl) rfl (fun E F w=>?_)
 unfold z98 at h
 refine wq (wg (ws J 1 Q (wn (wq (wg (xw [3,4] (zz9 r_ r_.b' [(3,.B 0 0),(5,.c (.cl 141 [0] []))]) J 3 ?_))))))
 obtain ⟨x1,d,h⟩:=ob h
 refine wc (z140_26_ct N r_ _ d) [(0,.bp 0 0),(1,.sl 1)] [] Q Q Q Q Q Q Q Q (.inl rfl) rfl (wx (zz17 x1.2 r_.b' x1.2.b' [(2,.I x1.1)]) J 1 (wn ?_))
 cases h
 exact we J Tryz.func98 [(2,.sl 2)] Q Q Q Q
theorem z135_ct (N:Nat) (r_:T12) (r:T3 × T12) (h:z135 N r_=some r) :
 Fn Tryz.prog 135 ⟨2,[.B 0 0],[(1,.sl (rI .u8) r_.b')],[(0,.box (cC12 1 r_) 160)],3,.a (cC3 r.1),[(2,.sl (rI .u8) r.2.b')],[(0,.box (cC12 2 r.2) 160)]⟩:=by
 refine Fn.intro _ _ Tryz.func135 rfl (by kernel_rfl) rfl (fun E F w=>?_)
 unfold z135 at h
 refine wq (wg (ws J 1 Q (wn (wq (wg (ws J 1 Q ?_))))))
 obtain ⟨x1,c,h⟩:=ob h
 refine wc (z93_ct N r_ 16 _ c) [(0,.bp 0 0),(1,.sl 1)] [] Q Q Q Q Q Q Q Q (.inl rfl) rfl (wx ⟨[(0,.B 0 0),(2,.B 2 0),(3,.B 4 0)],[(0,.box (cC12 3 x1.2) 160),(2,.box [.s (str []),.I 0,.I 0,.I 0] 141),(4,.box [.s x1.1,.I 0,.I 0,.I 0] 141)],[(1,.sl (rI .u8) r_.b'),(3,.sl (rI .u8) x1.2.b')],5⟩ J 3 (wn (wq (wg (ws J 1 Q ?_)))))
 obtain ⟨x2,d,h⟩:=ob h
 refine wc (z98_ct N x1.2 _ d) [(0,.bp 0 0),(1,.sl 3)] [] Q Q Q Q Q Q Q Q (.inl rfl) rfl (wx ⟨[(0,.B 0 0),(2,.B 2 0),(3,.B 4 0)],[(0,.box (cC12 5 x2.2) 160),(2,.box [.s (str []),.I 0,.I 0,.I 0] 141),(4,.box [.s x1.1,.I x2.1,.I 0,.I 0] 141)],[(1,.sl (rI .u8) r_.b'),(5,.sl (rI .u8) x2.2.b')],6⟩ J 3 (wn (wq (wg (ws J 1 Q ?_)))))
 obtain ⟨x3,e,h⟩:=ob h
 refine wc (z98_ct N x2.2 _ e) [(0,.bp 0 0),(1,.sl 5)] [] Q Q Q Q Q Q Q Q (.inl rfl) rfl (wx ⟨[(0,.B 0 0),(2,.B 2 0),(3,.B 4 0)],[(0,.box (cC12 6 x3.2) 160),(2,.box [.s (str []),.I 0,.I 0,.I 0] 141),(4,.box [.s x1.1,.I x2.1,.I x3.1,.I 0] 141)],[(1,.sl (rI .u8) r_.b'),(6,.sl (rI .u8) x3.2.b')],7⟩ J 3 (wn (wq (wg (ws J 1 Q ?_)))))
 obtain ⟨x4,f,h⟩:=ob h
 refine wc (z98_ct N x3.2 _ f) [(0,.bp 0 0),(1,.sl 6)] [] Q Q Q Q Q Q Q Q (.inl rfl) rfl (wx ⟨[(2,.B 2 0),(3,.B 4 0)],[(0,.box (cC12 7 x4.2) 160),(2,.box [.s (str []),.I 0,.I 0,.I 0] 141),(4,.box [.s x1.1,.I x2.1,.I x3.1,.I x4.1] 141)],[(1,.sl (rI .u8) r_.b'),(7,.sl (rI .u8) x4.2.b')],8⟩ J 3 (wn (wq (wg (ws J 2 Q (wn ?_))))))
 cases h
 exact we J Tryz.func135 [(2,.sl 7)] Q Q Q Q
theorem z134_27_ct (N:Nat) (r_:T12) (most_:Int) (r:(List T3) × T12) (h:z134_27 N r_ most_=some r) :
 Fn Tryz.prog 134 ⟨2,[.B 0 0,.I most_,.c (.cl 135 [] [])],[(1,.sl (rI .u8) r_.b')],[(0,.box (cC12 1 r_) 160)],4,.S 2,[(3,.sl (rI .u8) r.2.b')],[(2,.own rR3 r.1 true),(0,.box (cC12 3 r.2) 160)]⟩:=by
 refine Fn.intro _ _ Tryz.func134 rfl (by kernel_rfl) rfl (fun E F w=>?_)
 unfold z134_27 at h
 refine wq (wg (ws J 1 Q (wn (wq (wg (ws J 1 Q (wn (wq (wq (wg (xw [2,3] (zz9 r_ r_.b' [(0,.B 0 0),(2,.c (.cl 135 [] [])),(6,.c .nil),(7,.c .nil),(8,.B 0 0),(9,.I most_)]) J 2 ?_)))))))))))
 obtain ⟨x1,d,h⟩:=ob h
 refine wc (z133_ct N r_ 0 most_ _ d) [(0,.bp 0 0),(1,.sl 1)] [] Q Q Q Q Q Q Q Q (.inl rfl) rfl (wx (zz17 x1.2 r_.b' x1.2.b' [(0,.B 0 0),(2,.c (.cl 135 [] [])),(6,.c .nil),(7,.c .nil),(10,.I x1.1),(11,.I 0)]) J 1 (wn ?_))
 refine wC (σ:=(List Int) × Int × Bool × (List T3)) (fun st=>(zz143 st.2.1 st.2.2.1 st.2.2.2 r_.b' st.1 [(7,.S 4)])) (fun st=>z134_27_k1 st.1 st.2.1 st.2.2.1 st.2.2.2=some r) ?_ (fun j1=>?_)
 ·rintro ⟨vbk0_0_0_1,vbk0_0_1_1,vbk0_0_2_1,e⟩ h
  replace h:z134_27_k1 vbk0_0_0_1 vbk0_0_1_1 vbk0_0_2_1 e=some r:=h
  unfold z134_27_k1 at h
  refine wq (wg (ws J 2 Q (wn ?_)))
  cases h
  exact we J Tryz.func134 [(2,.sl 4),(3,.sl 3)] Q Q Q Q
 refine wo ?_
 refine wI (σ:=(List Int) × Int × Bool × (List T3) × Int) (fun st=>(zz143 st.2.1 st.2.2.1 st.2.2.2.1 r_.b' st.1 [(0,.B 0 0),(2,.c (.cl 135 [] [])),(7,.S 4),(10,.I x1.1),(11,.I st.2.2.2.2)])) (fun n st=>z134_27_l2 N x1 n st.1 st.2.1 st.2.2.1 st.2.2.2.1 st.2.2.2.2) (r:=r) (fun _=>rfl) ?_ (fun ih=>?_)
 ·intro n2 ih3
  rintro ⟨vbk0_0_0_3,vbk0_0_1_3,vbk0_0_2_3,f,g⟩ h
  replace h:z134_27_l2 N x1 (n2+1) vbk0_0_0_3 vbk0_0_1_3 vbk0_0_2_3 f g=some r:=h
  unfold z134_27_l2 at h
  refine wq (wg (ws J 1 Q (wn (wq ?_))))
  rcases oc' h with ⟨hc,h⟩ | ⟨hc,h⟩
  ·exact wf hc Q (wz rfl (wu [] (j1 (vbk0_0_0_3,vbk0_0_1_3,vbk0_0_2_3,f) h) Q Q Q Q))
  refine wt hc Q (wi (wq (wo (wg (xw [3,4,5,6] (zz143 vbk0_0_1_3 vbk0_0_2_3 f r_.b' vbk0_0_0_3 [(0,.B 0 0),(2,.c (.cl 135 [] [])),(10,.I x1.1),(11,.I g),(13,.S 4),(14,.c (.cl 135 [] [])),(15,.B 0 0)]) J 3 ?_)))))
  obtain ⟨i,j,h⟩:=ob h
  refine WPr.callc (z135_ct N (⟨vbk0_0_0_3,vbk0_0_1_3,vbk0_0_2_3⟩:T12) _ j) [(0,.bp 0 0),(1,.sl 3)] [] Q Q Q Q Q Q Q Q Q (.inl rfl) rfl (xw [4,5,6] ⟨[(0,.B 0 0),(2,.c (.cl 135 [] [])),(10,.I x1.1),(11,.I g),(13,.S 4),(16,.a (cC3 i.1))],[(0,.box (cC12 5 i.2) 160),(4,.own rR3 f true)],[(1,.sl (rI .u8) r_.b'),(5,.sl (rI .u8) i.2.b')],6⟩ J 0 (WPr.bs (cs:=(cC3 i.1)) oO3 J ([i.1]:List T3) Q Q Q Q Q Q (by kernel_rfl) (by exact (an (an rfl (an rfl (an Q Q))) rfl)) rfl ?_))
  obtain ⟨k,l,h⟩:=ob h
  exact WPr.app J l (by exact (srcO rfl)) Q Q Q Q Q Q Q Q Q Q (wx ⟨[(0,.B 0 0),(2,.c (.cl 135 [] [])),(7,.S 7),(10,.I x1.1),(11,.I g)],[(0,.box (cC12 5 i.2) 160),(7,.own rR3 k true)],[(1,.sl (rI .u8) r_.b'),(5,.sl (rI .u8) i.2.b')],8⟩ J 1 (wn (wb (wg (ws J 2 Q (wn (wu [(3,.sl 5),(4,.sl 7)] (ih3 (i.2.b',i.2.at',i.2.failed',k,(w64 (g+1))) h) Q Q Q Q)))))))
 exact wu [(3,.sl 2),(4,.nil)] (ih N (x1.2.b',x1.2.at',x1.2.failed',([]:List T3),0) h) Q Q Q Q
theorem z137_ct (N:Nat) (r_:T12) (r:T1 × T12) (h:z137 N r_=some r) :
 Fn Tryz.prog 137 ⟨2,[.B 0 0],[(1,.sl (rI .u8) r_.b')],[(0,.box (cC12 1 r_) 160)],3,.a (cC1 r.1),[(2,.sl (rI .u8) r.2.b')],[(0,.box (cC12 2 r.2) 160)]⟩:=by
 refine Fn.intro _ _ Tryz.func137 rfl (by kernel_rfl) rfl (fun E F w=>?_)
 unfold z137 at h
 refine wq (wg (ws J 1 Q (wn (wq (wg (ws J 1 Q ?_))))))
 obtain ⟨x1,c,h⟩:=ob h
 refine wc (z98_ct N r_ _ c) [(0,.bp 0 0),(1,.sl 1)] [] Q Q Q Q Q Q Q Q (.inl rfl) rfl (wx ⟨[(0,.B 0 0),(2,.B 2 0),(3,.B 4 0)],[(0,.box (cC12 3 x1.2) 160),(2,.box [.I 0,.I 0,.I 0] 144),(4,.box [.I x1.1,.I 0,.I 0] 144)],[(1,.sl (rI .u8) r_.b'),(3,.sl (rI .u8) x1.2.b')],5⟩ J 3 (wn (wq (wg (ws J 1 Q ?_)))))
 obtain ⟨x2,d,h⟩:=ob h
 refine wc (z98_ct N x1.2 _ d) [(0,.bp 0 0),(1,.sl 3)] [] Q Q Q Q Q Q Q Q (.inl rfl) rfl (wx ⟨[(0,.B 0 0),(2,.B 2 0),(3,.B 4 0)],[(0,.box (cC12 5 x2.2) 160),(2,.box [.I 0,.I 0,.I 0] 144),(4,.box [.I x1.1,.I x2.1,.I 0] 144)],[(1,.sl (rI .u8) r_.b'),(5,.sl (rI .u8) x2.2.b')],6⟩ J 2 (wn (wq (wg (ws J 1 Q ?_)))))
 obtain ⟨x3,e,h⟩:=ob h
 refine wc (z98_ct N x2.2 _ e) [(0,.bp 0 0),(1,.sl 5)] [] Q Q Q Q Q Q Q Q (.inl rfl) rfl (wx ⟨[(2,.B 2 0),(3,.B 4 0)],[(0,.box (cC12 6 x3.2) 160),(2,.box [.I 0,.I 0,.I 0] 144),(4,.box [.I x1.1,.I x2.1,.I x3.1] 144)],[(1,.sl (rI .u8) r_.b'),(6,.sl (rI .u8) x3.2.b')],7⟩ J 2 (wn (wq (wg (ws J 2 Q (wn ?_))))))
 cases h
 exact we J Tryz.func137 [(2,.sl 6)] Q Q Q Q
theorem z136_28_ct (N:Nat) (r_:T12) (most_:Int) (r:(List T1) × T12) (h:z136_28 N r_ most_=some r) :
 Fn Tryz.prog 136 ⟨2,[.B 0 0,.I most_,.c (.cl 137 [] [])],[(1,.sl (rI .u8) r_.b')],[(0,.box (cC12 1 r_) 160)],4,.S 2,[(3,.sl (rI .u8) r.2.b')],[(2,.own rR1 r.1 true),(0,.box (cC12 3 r.2) 160)]⟩:=by
 refine Fn.intro _ _ Tryz.func136 rfl (by kernel_rfl) rfl (fun E F w=>?_)
 unfold z136_28 at h
 refine wq (wg (ws J 1 Q (wn (wq (wg (ws J 1 Q (wn (wq (wq (wg (xw [2,3] (zz9 r_ r_.b' [(0,.B 0 0),(2,.c (.cl 137 [] [])),(6,.c .nil),(7,.c .nil),(8,.B 0 0),(9,.I most_)]) J 2 ?_)))))))))))
 obtain ⟨x1,d,h⟩:=ob h
 refine wc (z133_ct N r_ 0 most_ _ d) [(0,.bp 0 0),(1,.sl 1)] [] Q Q Q Q Q Q Q Q (.inl rfl) rfl (wx (zz17 x1.2 r_.b' x1.2.b' [(0,.B 0 0),(2,.c (.cl 137 [] [])),(6,.c .nil),(7,.c .nil),(10,.I x1.1),(11,.I 0)]) J 1 (wn ?_))
 refine wC (σ:=(List Int) × Int × Bool × (List T1)) (fun st=>(zz144 st.2.1 st.2.2.1 st.2.2.2 r_.b' st.1 [(7,.S 4)])) (fun st=>z136_28_k1 st.1 st.2.1 st.2.2.1 st.2.2.2=some r) ?_ (fun j1=>?_)
 ·rintro ⟨vbk0_0_0_1,vbk0_0_1_1,vbk0_0_2_1,e⟩ h
  replace h:z136_28_k1 vbk0_0_0_1 vbk0_0_1_1 vbk0_0_2_1 e=some r:=h
  unfold z136_28_k1 at h
  refine wq (wg (ws J 2 Q (wn ?_)))
  cases h
  exact we J Tryz.func136 [(2,.sl 4),(3,.sl 3)] Q Q Q Q
 refine wo ?_
 refine wI (σ:=(List Int) × Int × Bool × (List T1) × Int) (fun st=>(zz144 st.2.1 st.2.2.1 st.2.2.2.1 r_.b' st.1 [(0,.B 0 0),(2,.c (.cl 137 [] [])),(7,.S 4),(10,.I x1.1),(11,.I st.2.2.2.2)])) (fun n st=>z136_28_l2 N x1 n st.1 st.2.1 st.2.2.1 st.2.2.2.1 st.2.2.2.2) (r:=r) (fun _=>rfl) ?_ (fun ih=>?_)
 ·intro n2 ih3
  rintro ⟨vbk0_0_0_3,vbk0_0_1_3,vbk0_0_2_3,f,g⟩ h
  replace h:z136_28_l2 N x1 (n2+1) vbk0_0_0_3 vbk0_0_1_3 vbk0_0_2_3 f g=some r:=h
  unfold z136_28_l2 at h
  refine wq (wg (ws J 1 Q (wn (wq ?_))))
  rcases oc' h with ⟨hc,h⟩ | ⟨hc,h⟩
  ·exact wf hc Q (wz rfl (wu [] (j1 (vbk0_0_0_3,vbk0_0_1_3,vbk0_0_2_3,f) h) Q Q Q Q))
  refine wt hc Q (wi (wq (wo (wg (xw [3,4,5,6] (zz144 vbk0_0_1_3 vbk0_0_2_3 f r_.b' vbk0_0_0_3 [(0,.B 0 0),(2,.c (.cl 137 [] [])),(10,.I x1.1),(11,.I g),(13,.S 4),(14,.c (.cl 137 [] [])),(15,.B 0 0)]) J 3 ?_)))))
  obtain ⟨i,j,h⟩:=ob h
  refine WPr.callc (z137_ct N (⟨vbk0_0_0_3,vbk0_0_1_3,vbk0_0_2_3⟩:T12) _ j) [(0,.bp 0 0),(1,.sl 3)] [] Q Q Q Q Q Q Q Q Q (.inl rfl) rfl (xw [4,5,6] ⟨[(0,.B 0 0),(2,.c (.cl 137 [] [])),(10,.I x1.1),(11,.I g),(13,.S 4),(16,.a (cC1 i.1))],[(0,.box (cC12 5 i.2) 160),(4,.own rR1 f true)],[(1,.sl (rI .u8) r_.b'),(5,.sl (rI .u8) i.2.b')],6⟩ J 0 (WPr.bs (cs:=(cC1 i.1)) oO1 J ([i.1]:List T1) Q Q Q Q Q Q (by kernel_rfl) (by exact (an (an rfl (an Q Q)) rfl)) rfl ?_))
  obtain ⟨k,l,h⟩:=ob h
  exact WPr.app J l (by exact (srcO rfl)) Q Q Q Q Q Q Q Q Q Q (wx ⟨[(0,.B 0 0),(2,.c (.cl 137 [] [])),(7,.S 7),(10,.I x1.1),(11,.I g)],[(0,.box (cC12 5 i.2) 160),(7,.own rR1 k true)],[(1,.sl (rI .u8) r_.b'),(5,.sl (rI .u8) i.2.b')],8⟩ J 1 (wn (wb (wg (ws J 2 Q (wn (wu [(3,.sl 5),(4,.sl 7)] (ih3 (i.2.b',i.2.at',i.2.failed',k,(w64 (g+1))) h) Q Q Q Q)))))))
 exact wu [(3,.sl 2),(4,.nil)] (ih N (x1.2.b',x1.2.at',x1.2.failed',([]:List T1),0) h) Q Q Q Q
theorem z139_ct (N:Nat) (r_:T12) (r:(Int × Int) × T12) (h:z139 N r_=some r) :
 Fn Tryz.prog 139 ⟨2,[.B 0 0],[(1,.sl (rI .u8) r_.b')],[(0,.box (cC12 1 r_) 160)],3,.a [.I r.1.1,.I r.1.2],[(2,.sl (rI .u8) r.2.b')],[(0,.box (cC12 2 r.2) 160)]⟩:=by
 refine Fn.intro _ _ Tryz.func139 rfl (by kernel_rfl) rfl (fun E F w=>?_)
 unfold z139 at h
 refine wq (wg (ws J 1 Q (wn (wq (wg (ws J 1 Q ?_))))))
 obtain ⟨x1,c,h⟩:=ob h
 refine wc (z98_ct N r_ _ c) [(0,.bp 0 0),(1,.sl 1)] [] Q Q Q Q Q Q Q Q (.inl rfl) rfl (wx ⟨[(0,.B 0 0),(2,.B 2 0),(3,.I x1.1)],[(0,.box (cC12 3 x1.2) 160),(2,.box [.I 0,.I 0] 146)],[(1,.sl (rI .u8) r_.b'),(3,.sl (rI .u8) x1.2.b')],4⟩ J 1 (wn (wq (wg (ws J 2 Q ?_)))))
 obtain ⟨x2,d,h⟩:=ob h
 refine wc (z98_ct N x1.2 _ d) [(0,.bp 0 0),(1,.sl 3)] [] Q Q Q Q Q Q Q Q (.inl rfl) rfl (wx ⟨[(2,.B 2 0)],[(0,.box (cC12 4 x2.2) 160),(2,.box [.I x1.1,.I x2.1] 146)],[(1,.sl (rI .u8) r_.b'),(4,.sl (rI .u8) x2.2.b')],5⟩ J 2 (wn ?_))
 cases h
 exact we J Tryz.func139 [(2,.sl 4)] Q Q Q Q
theorem z138_29_ct (N:Nat) (r_:T12) (most_:Int) (r:(List (Int × Int)) × T12) (h:z138_29 N r_ most_=some r) :
 Fn Tryz.prog 138 ⟨2,[.B 0 0,.I most_,.c (.cl 139 [] [])],[(1,.sl (rI .u8) r_.b')],[(0,.box (cC12 1 r_) 160)],4,.S 2,[(3,.sl (rI .u8) r.2.b')],[(2,.own (rP (rI .i64) (rI .i64)) r.1 true),(0,.box (cC12 3 r.2) 160)]⟩:=by
 refine Fn.intro _ _ Tryz.func138 rfl (by kernel_rfl) rfl (fun E F w=>?_)
 unfold z138_29 at h
 refine wq (wg (ws J 1 Q (wn (wq (wg (ws J 1 Q (wn (wq (wq (wg (xw [2,3] (zz9 r_ r_.b' [(0,.B 0 0),(2,.c (.cl 139 [] [])),(6,.c .nil),(7,.c .nil),(8,.B 0 0),(9,.I most_)]) J 2 ?_)))))))))))
 obtain ⟨x1,d,h⟩:=ob h
 refine wc (z133_ct N r_ 0 most_ _ d) [(0,.bp 0 0),(1,.sl 1)] [] Q Q Q Q Q Q Q Q (.inl rfl) rfl (wx (zz17 x1.2 r_.b' x1.2.b' [(0,.B 0 0),(2,.c (.cl 139 [] [])),(6,.c .nil),(7,.c .nil),(10,.I x1.1),(11,.I 0)]) J 1 (wn ?_))
 refine wC (σ:=(List Int) × Int × Bool × (List (Int × Int))) (fun st=>(zz145 st.2.1 st.2.2.1 st.2.2.2 r_.b' st.1 [(7,.S 4)])) (fun st=>z138_29_k1 st.1 st.2.1 st.2.2.1 st.2.2.2=some r) ?_ (fun j1=>?_)
 ·rintro ⟨vbk0_0_0_1,vbk0_0_1_1,vbk0_0_2_1,e⟩ h
  replace h:z138_29_k1 vbk0_0_0_1 vbk0_0_1_1 vbk0_0_2_1 e=some r:=h
  unfold z138_29_k1 at h
  refine wq (wg (ws J 2 Q (wn ?_)))
  cases h
  exact we J Tryz.func138 [(2,.sl 4),(3,.sl 3)] Q Q Q Q
 refine wo ?_
 refine wI (σ:=(List Int) × Int × Bool × (List (Int × Int)) × Int) (fun st=>(zz145 st.2.1 st.2.2.1 st.2.2.2.1 r_.b' st.1 [(0,.B 0 0),(2,.c (.cl 139 [] [])),(7,.S 4),(10,.I x1.1),(11,.I st.2.2.2.2)])) (fun n st=>z138_29_l2 N x1 n st.1 st.2.1 st.2.2.1 st.2.2.2.1 st.2.2.2.2) (r:=r) (fun _=>rfl) ?_ (fun ih=>?_)
 ·intro n2 ih3
  rintro ⟨vbk0_0_0_3,vbk0_0_1_3,vbk0_0_2_3,f,g⟩ h
  replace h:z138_29_l2 N x1 (n2+1) vbk0_0_0_3 vbk0_0_1_3 vbk0_0_2_3 f g=some r:=h
  unfold z138_29_l2 at h
  refine wq (wg (ws J 1 Q (wn (wq ?_))))
  rcases oc' h with ⟨hc,h⟩ | ⟨hc,h⟩
  ·exact wf hc Q (wz rfl (wu [] (j1 (vbk0_0_0_3,vbk0_0_1_3,vbk0_0_2_3,f) h) Q Q Q Q))
  refine wt hc Q (wi (wq (wo (wg (xw [3,4,5,6] (zz145 vbk0_0_1_3 vbk0_0_2_3 f r_.b' vbk0_0_0_3 [(0,.B 0 0),(2,.c (.cl 139 [] [])),(10,.I x1.1),(11,.I g),(13,.S 4),(14,.c (.cl 139 [] [])),(15,.B 0 0)]) J 3 ?_)))))
  obtain ⟨i,j,h⟩:=ob h
  refine WPr.callc (z139_ct N (⟨vbk0_0_0_3,vbk0_0_1_3,vbk0_0_2_3⟩:T12) _ j) [(0,.bp 0 0),(1,.sl 3)] [] Q Q Q Q Q Q Q Q Q (.inl rfl) rfl (xw [4,5,6] ⟨[(0,.B 0 0),(2,.c (.cl 139 [] [])),(10,.I x1.1),(11,.I g),(13,.S 4),(16,.a [.I i.1.1,.I i.1.2])],[(0,.box (cC12 5 i.2) 160),(4,.own (rP (rI .i64) (rI .i64)) f true)],[(1,.sl (rI .u8) r_.b'),(5,.sl (rI .u8) i.2.b')],6⟩ J 0 (WPr.bs (cs:=[.I i.1.1,.I i.1.2]) (oP (oI .i64) (oI .i64)) J ([(i.1.1,i.1.2)]:List (Int × Int)) Q Q Q Q Q Q (by kernel_rfl) (by exact (an (an Q Q) rfl)) rfl ?_))
  obtain ⟨k,l,h⟩:=ob h
  exact WPr.app J l (by exact (srcO rfl)) Q Q Q Q Q Q Q Q Q Q (wx ⟨[(0,.B 0 0),(2,.c (.cl 139 [] [])),(7,.S 7),(10,.I x1.1),(11,.I g)],[(0,.box (cC12 5 i.2) 160),(7,.own (rP (rI .i64) (rI .i64)) k true)],[(1,.sl (rI .u8) r_.b'),(5,.sl (rI .u8) i.2.b')],8⟩ J 1 (wn (wb (wg (ws J 2 Q (wn (wu [(3,.sl 5),(4,.sl 7)] (ih3 (i.2.b',i.2.at',i.2.failed',k,(w64 (g+1))) h) Q Q Q Q)))))))
 exact wu [(3,.sl 2),(4,.nil)] (ih N (x1.2.b',x1.2.at',x1.2.failed',([]:List (Int × Int)),0) h) Q Q Q Q
theorem z97_ct (N:Nat) (r_:T12) (r:T0 × T12) (h:z97 N r_=some r) :
 Fn Tryz.prog 97 ⟨2,[.B 0 0],[(1,.sl (rI .u8) r_.b')],[(0,.box (cC12 1 r_) 160)],6,.a (cC0 2 3 4 r.1),(vV0 2 3 4 r.1 [(5,.sl (rI .u8) r.2.b')]),[(0,.box (cC12 5 r.2) 160)]⟩:=by
 refine Fn.intro _ _ Tryz.func97 rfl (by kernel_rfl) rfl (fun E F w=>?_)
 unfold z97 at h
 refine wq (wg (ws J 1 Q (wn (wq (wg (ws J 1 Q ?_))))))
 obtain ⟨x1,c,h⟩:=ob h
 refine wc (z93_ct N r_ 50 _ c) [(0,.bp 0 0),(1,.sl 1)] [] Q Q Q Q Q Q Q Q (.inl rfl) rfl (wx ⟨[(0,.B 0 0),(2,.B 2 0),(3,.B 4 0)],[(0,.box (cC12 3 x1.2) 160),(2,.box [.s (str []),.nil,.I 0,.nil,.nil] 94),(4,.box [.s x1.1,.nil,.I 0,.nil,.nil] 94)],[(1,.sl (rI .u8) r_.b'),(3,.sl (rI .u8) x1.2.b')],5⟩ J 3 (wn (wq (wg (ws J 1 Q ?_)))))
 obtain ⟨x2,d,h⟩:=ob h
 refine wc (z134_27_ct N x1.2 4 _ d) [(0,.bp 0 0),(1,.sl 3)] [] Q Q Q Q Q Q Q Q (.inl rfl) rfl (wx ⟨[(0,.B 0 0),(2,.B 2 0),(3,.B 4 0)],[(0,.box (cC12 6 x2.2) 160),(2,.box [.s (str []),.nil,.I 0,.nil,.nil] 94),(4,.box [.s x1.1,.sl 5,.I 0,.nil,.nil] 94),(5,.own rR3 x2.1 true)],[(1,.sl (rI .u8) r_.b'),(6,.sl (rI .u8) x2.2.b')],7⟩ J 2 (wn (wq (wg (ws J 1 Q ?_)))))
 obtain ⟨x3,e,h⟩:=ob h
 refine wc (z98_ct N x2.2 _ e) [(0,.bp 0 0),(1,.sl 6)] [] Q Q Q Q Q Q Q Q (.inl rfl) rfl (wx ⟨[(0,.B 0 0),(2,.B 2 0),(3,.B 4 0)],[(0,.box (cC12 7 x3.2) 160),(2,.box [.s (str []),.nil,.I 0,.nil,.nil] 94),(4,.box [.s x1.1,.sl 5,.I x3.1,.nil,.nil] 94),(5,.own rR3 x2.1 true)],[(1,.sl (rI .u8) r_.b'),(7,.sl (rI .u8) x3.2.b')],8⟩ J 2 (wn (wq (wg (ws J 1 Q ?_)))))
 obtain ⟨x4,f,h⟩:=ob h
 refine wc (z136_28_ct N x3.2 20 _ f) [(0,.bp 0 0),(1,.sl 7)] [] Q Q Q Q Q Q Q Q (.inl rfl) rfl (wx ⟨[(0,.B 0 0),(2,.B 2 0),(3,.B 4 0)],[(0,.box (cC12 9 x4.2) 160),(2,.box [.s (str []),.nil,.I 0,.nil,.nil] 94),(4,.box [.s x1.1,.sl 5,.I x3.1,.sl 8,.nil] 94),(5,.own rR3 x2.1 true),(8,.own rR1 x4.1 true)],[(1,.sl (rI .u8) r_.b'),(9,.sl (rI .u8) x4.2.b')],10⟩ J 3 (wn (wq (wg (ws J 1 Q ?_)))))
 obtain ⟨x5,g,h⟩:=ob h
 refine wc (z138_29_ct N x4.2 20 _ g) [(0,.bp 0 0),(1,.sl 9)] [] Q Q Q Q Q Q Q Q (.inl rfl) rfl (wx ⟨[(2,.B 2 0),(3,.B 4 0)],[(0,.box (cC12 11 x5.2) 160),(2,.box [.s (str []),.nil,.I 0,.nil,.nil] 94),(4,.box [.s x1.1,.sl 5,.I x3.1,.sl 8,.sl 10] 94),(5,.own rR3 x2.1 true),(8,.own rR1 x4.1 true),(10,.own (rP (rI .i64) (rI .i64)) x5.1 true)],[(1,.sl (rI .u8) r_.b'),(11,.sl (rI .u8) x5.2.b')],12⟩ J 3 (wn (wq (wg (ws J 2 Q (wn (WP.frz 5 rfl (WP.frz 8 rfl (WP.frz 10 rfl ?_)))))))))
 cases h
 exact we J Tryz.func97 [(2,.sl 5),(3,.sl 8),(4,.sl 10),(5,.sl 11)] Q Q Q Q
theorem z96_30_ct (N:Nat) (r_:T12) (most_:Int) (r:(List T0) × T12) (h:z96_30 N r_ most_=some r) :
 Fn Tryz.prog 96 ⟨2,[.B 0 0,.I most_,.c (.cl 97 [] [])],[(1,.sl (rI .u8) r_.b')],[(0,.box (cC12 1 r_) 160)],4,.S 2,[(3,.sl (rI .u8) r.2.b')],[(2,.own rR0 r.1 true),(0,.box (cC12 3 r.2) 160)]⟩:=by
 refine Fn.intro _ _ Tryz.func96 rfl (by kernel_rfl) rfl (fun E F w=>?_)
 unfold z96_30 at h
 refine wq (wg (ws J 1 Q (wn (wq (wg (ws J 1 Q (wn (wq (wq (wg (xw [2,3] (zz9 r_ r_.b' [(0,.B 0 0),(2,.c (.cl 97 [] [])),(6,.c .nil),(7,.c .nil),(8,.B 0 0),(9,.I most_)]) J 2 ?_)))))))))))
 obtain ⟨x1,d,h⟩:=ob h
 refine wc (z133_ct N r_ 0 most_ _ d) [(0,.bp 0 0),(1,.sl 1)] [] Q Q Q Q Q Q Q Q (.inl rfl) rfl (wx (zz17 x1.2 r_.b' x1.2.b' [(0,.B 0 0),(2,.c (.cl 97 [] [])),(6,.c .nil),(7,.c .nil),(10,.I x1.1),(11,.I 0)]) J 1 (wn ?_))
 refine wC (σ:=(List Int) × Int × Bool × (List T0)) (fun st=>(zz146 st.2.1 st.2.2.1 st.2.2.2 r_.b' st.1 [(7,.S 4)])) (fun st=>z96_30_k1 st.1 st.2.1 st.2.2.1 st.2.2.2=some r) ?_ (fun j1=>?_)
 ·rintro ⟨vbk0_0_0_1,vbk0_0_1_1,vbk0_0_2_1,e⟩ h
  replace h:z96_30_k1 vbk0_0_0_1 vbk0_0_1_1 vbk0_0_2_1 e=some r:=h
  unfold z96_30_k1 at h
  refine wq (wg (ws J 2 Q (wn ?_)))
  cases h
  exact we J Tryz.func96 [(2,.sl 4),(3,.sl 3)] Q Q Q Q
 refine wo ?_
 refine wI (σ:=(List Int) × Int × Bool × (List T0) × Int) (fun st=>(zz146 st.2.1 st.2.2.1 st.2.2.2.1 r_.b' st.1 [(0,.B 0 0),(2,.c (.cl 97 [] [])),(7,.S 4),(10,.I x1.1),(11,.I st.2.2.2.2)])) (fun n st=>z96_30_l2 N x1 n st.1 st.2.1 st.2.2.1 st.2.2.2.1 st.2.2.2.2) (r:=r) (fun _=>rfl) ?_ (fun ih=>?_)
 ·intro n2 ih3
  rintro ⟨vbk0_0_0_3,vbk0_0_1_3,vbk0_0_2_3,f,g⟩ h
  replace h:z96_30_l2 N x1 (n2+1) vbk0_0_0_3 vbk0_0_1_3 vbk0_0_2_3 f g=some r:=h
  unfold z96_30_l2 at h
  refine wq (wg (ws J 1 Q (wn (wq ?_))))
  rcases oc' h with ⟨hc,h⟩ | ⟨hc,h⟩
  ·exact wf hc Q (wz rfl (wu [] (j1 (vbk0_0_0_3,vbk0_0_1_3,vbk0_0_2_3,f) h) Q Q Q Q))
  refine wt hc Q (wi (wq (wo (wg (xw [3,4,5,6] (zz146 vbk0_0_1_3 vbk0_0_2_3 f r_.b' vbk0_0_0_3 [(0,.B 0 0),(2,.c (.cl 97 [] [])),(10,.I x1.1),(11,.I g),(13,.S 4),(14,.c (.cl 97 [] [])),(15,.B 0 0)]) J 3 ?_)))))
  obtain ⟨i,j,h⟩:=ob h
  refine WPr.callc (z97_ct N (⟨vbk0_0_0_3,vbk0_0_1_3,vbk0_0_2_3⟩:T12) _ j) [(0,.bp 0 0),(1,.sl 3)] [] Q Q Q Q Q Q Q Q Q (.inl rfl) rfl (xw [4,5,6] ⟨[(0,.B 0 0),(2,.c (.cl 97 [] [])),(10,.I x1.1),(11,.I g),(13,.S 4),(16,.a (cC0 5 6 7 i.1))],[(0,.box (cC12 8 i.2) 160),(4,.own rR0 f true)],((1,.sl (rI .u8) r_.b')::vV0 5 6 7 i.1 [(8,.sl (rI .u8) i.2.b')]),9⟩ J 0 (WPr.bs (cs:=(cC0 5 6 7 i.1)) oO0 J ([i.1]:List T0) Q Q Q Q Q Q (by kernel_rfl) (by exact (an (an rfl (an rfl (an rfl (an Q Q)))) rfl)) rfl ?_))
  obtain ⟨k,l,h⟩:=ob h
  exact WPr.app J l (by exact (srcO rfl)) Q Q Q Q Q Q Q Q Q Q (wx ⟨[(0,.B 0 0),(2,.c (.cl 97 [] [])),(7,.S 10),(10,.I x1.1),(11,.I g)],[(0,.box (cC12 8 i.2) 160),(10,.own rR0 k true)],[(1,.sl (rI .u8) r_.b'),(8,.sl (rI .u8) i.2.b')],11⟩ J 1 (wn (wb (wg (ws J 2 Q (wn (wu [(3,.sl 8),(4,.sl 10)] (ih3 (i.2.b',i.2.at',i.2.failed',k,(w64 (g+1))) h) Q Q Q Q)))))))
 exact wu [(3,.sl 2),(4,.nil)] (ih N (x1.2.b',x1.2.at',x1.2.failed',([]:List T0),0) h) Q Q Q Q
theorem z167_ct (N:Nat) (r_:T12) (r:Bool × T12) (h:z167 N r_=some r) :
 Fn Tryz.prog 167 ⟨2,[.B 0 0],[(1,.sl (rI .u8) r_.b')],[(0,.box (cC12 1 r_) 160)],3,.O r.1,[(2,.sl (rI .u8) r.2.b')],[(0,.box (cC12 2 r.2) 160)]⟩:=by
 refine Fn.intro _ _ Tryz.func167 rfl (by kernel_rfl) rfl (fun E F w=>?_)
 unfold z167 at h
 refine wq (wg (ws J 1 Q (wn (wq (wg (ws J 1 Q ?_))))))
 obtain ⟨x1,c,h⟩:=ob h
 refine wc (z165_ct N r_ 1 _ c) [(0,.bp 0 0),(1,.sl 1)] [] Q Q Q Q Q Q Q Q (.inl rfl) rfl (wx ⟨[(0,.B 0 0),(2,.O false),(3,.S 2)],[(0,.box (cC12 3 x1.2) 160)],[(1,.sl (rI .u8) r_.b'),(2,.sl (rI .u8) x1.1),(3,.sl (rI .u8) x1.2.b')],4⟩ J 1 (wn (wq (wg (xw (rg 6 8) ⟨[(0,.B 0 0),(2,.O false),(3,.S 2),(6,.B 0 0),(11,.O x1.2.failed')],[(0,.box (cC12 3 x1.2) 160)],[(1,.sl (rI .u8) r_.b'),(2,.sl (rI .u8) x1.1),(3,.sl (rI .u8) x1.2.b')],4⟩ J 6 ?_)))))
 rcases oc h with ⟨hc,h⟩ | ⟨hc,h⟩
 ·refine wy 11 hc Q (wx ⟨[(0,.B 0 0),(2,.O false),(3,.S 2)],[(0,.box [.sl 3,.I x1.2.at',.b true] 160)],[(1,.sl (rI .u8) r_.b'),(2,.sl (rI .u8) x1.1),(3,.sl (rI .u8) x1.2.b')],4⟩ J 8 (wn (wq (wg (wx ⟨[(2,.O false)],[(0,.box [.sl 3,.I x1.2.at',.b true] 160)],[(1,.sl (rI .u8) r_.b'),(3,.sl (rI .u8) x1.2.b')],4⟩ J 12 (wn ?_))))))
  cases h
  exact we J Tryz.func167 [(2,.sl 3)] Q Q Q Q
 refine wy 11 hc Q (ws J 1 Q ?_)
 obtain ⟨x2,d,h⟩:=ob h
 refine wj (oI .u8) J d Q Q Q Q Q Q Q Q Q (wx ⟨[(0,.B 0 0),(2,.O false),(3,.S 2)],[(0,.box [.sl 3,.I x1.2.at',.b (decide (x2 > 1))] 160)],[(1,.sl (rI .u8) r_.b'),(2,.sl (rI .u8) x1.1),(3,.sl (rI .u8) x1.2.b')],5⟩ J 6 (wn (wq (wg (xw (rg 6 6) ⟨[(3,.S 2),(24,.O (!(decide (x2 > 1))))],[(0,.box [.sl 3,.I x1.2.at',.b (decide (x2 > 1))] 160)],[(1,.sl (rI .u8) r_.b'),(2,.sl (rI .u8) x1.1),(3,.sl (rI .u8) x1.2.b')],5⟩ J 6 ?_)))))
 rcases oc' h with ⟨hc,h⟩ | ⟨hc,h⟩
 ·refine wy 24 hc Q (wx ⟨[(2,.O false)],[(0,.box [.sl 3,.I x1.2.at',.b (decide (x2 > 1))] 160)],[(1,.sl (rI .u8) r_.b'),(3,.sl (rI .u8) x1.2.b')],5⟩ J 6 (wn ?_))
  cases h
  exact we J Tryz.func167 [(2,.sl 3)] Q Q Q Q
 refine wy 24 hc Q (ws J 1 Q ?_)
 obtain ⟨x3,e,h⟩:=ob h
 refine wj (oI .u8) J e Q Q Q Q Q Q Q Q Q (wx ⟨[(2,.O (x3==1))],[(0,.box [.sl 3,.I x1.2.at',.b (decide (x2 > 1))] 160)],[(1,.sl (rI .u8) r_.b'),(3,.sl (rI .u8) x1.2.b')],6⟩ J 4 (wn ?_))
 cases h
 exact we J Tryz.func167 [(2,.sl 3)] Q Q Q Q
theorem z166_31_ct (N:Nat) (c0_:T12) (r:Bool × T12) (h:z166_31 N c0_=some r) :
 Fn Tryz.prog 166 ⟨2,[.B 0 0,.c (.cl 167 [0] [])],[(1,.sl (rI .u8) c0_.b')],[(0,.box (cC12 1 c0_) 160)],3,.O r.1,[(2,.sl (rI .u8) r.2.b')],[(0,.box (cC12 2 r.2) 160)]⟩:=by
 refine Fn.intro _ _ Tryz.func166 rfl (by kernel_rfl) rfl (fun E F w=>?_)
 unfold z166_31 at h
 refine wq (wg (ws J 1 Q (wn (wq (wg (ws J 1 Q (wn (wq (wq (wg (xw (rg 1 7) (zz9 c0_ c0_.b' [(0,.B 0 0),(1,.c (.cl 167 [0] [])),(4,.O false),(5,.O false),(8,.B 0 0)]) J 1 (WPr.pnil (el:=160) false Q Q Q Q (by kernel_rfl) Q Q Q (wx (zz9 c0_ c0_.b' [(0,.B 0 0),(1,.c (.cl 167 [0] [])),(4,.O false),(5,.O false),(15,.O c0_.failed')]) J 6 (wn ?_))))))))))))))
 rcases oc h with ⟨hc,h⟩ | ⟨hc,h⟩
 ·refine wt hc Q (wq (wg (ws J 2 Q (wn ?_))))
  cases h
  exact we J Tryz.func166 [(2,.sl 1)] Q Q Q Q
 refine wf hc Q (wi (wq (wg (wx (zz9 c0_ c0_.b' [(0,.B 0 0),(1,.c (.cl 167 [0] [])),(4,.O false),(5,.O false),(6,.I c0_.at')]) J 5 (wn (wq (wg (ws J 1 Q ?_))))))))
 obtain ⟨x1,d,h⟩:=ob h
 refine WPr.callc (z167_ct N c0_ _ d) [(0,.bp 0 0),(1,.sl 1)] [] Q Q Q Q Q Q Q Q Q (.inl rfl) rfl (wx (zz17 x1.2 c0_.b' x1.2.b' [(0,.B 0 0),(4,.O false),(5,.O false),(6,.I c0_.at'),(7,.O x1.1)]) J 1 (wn (wq (wq (wg (wx (zz17 x1.2 c0_.b' x1.2.b' [(0,.B 0 0),(4,.O false),(5,.O false),(6,.I c0_.at'),(7,.O x1.1),(26,.O x1.2.failed')]) J 4 (wn ?_)))))))
 rcases oc h with ⟨hc,h⟩ | ⟨hc,h⟩
 ·refine wt hc Q (wq (wg (wx (zz66 c0_.at' x1.2.failed' c0_.b' x1.2.b' [(4,.O false),(5,.O false)]) J 5 (wn (wq (wg (ws J 2 Q (wn ?_))))))))
  cases h
  exact we J Tryz.func166 [(2,.sl 2)] Q Q Q Q
 refine wf hc Q (wi (wq (wg (ws J 2 Q (wn ?_)))))
 cases h
 exact we J Tryz.func166 [(2,.sl 2)] Q Q Q Q
theorem z142_ct (N:Nat) (r_:T12) (r:Bool × T12) (h:z142 N r_=some r) :
 Fn Tryz.prog 142 ⟨2,[.B 0 0],[(1,.sl (rI .u8) r_.b')],[(0,.box (cC12 1 r_) 160)],3,.O r.1,[(2,.sl (rI .u8) r.2.b')],[(0,.box (cC12 2 r.2) 160)]⟩:=by
 refine Fn.intro _ _ Tryz.func142 rfl (by kernel_rfl) rfl (fun E F w=>?_)
 unfold z142 at h
 refine wq (wg (ws J 1 Q (wn (wq (wg (xw [3,4] (zz9 r_ r_.b' [(3,.B 0 0),(5,.c (.cl 167 [0] []))]) J 3 ?_))))))
 obtain ⟨x1,d,h⟩:=ob h
 refine wc (z166_31_ct N r_ _ d) [(0,.bp 0 0),(1,.sl 1)] [] Q Q Q Q Q Q Q Q (.inl rfl) rfl (wx (zz17 x1.2 r_.b' x1.2.b' [(2,.O x1.1)]) J 1 (wn ?_))
 cases h
 exact we J Tryz.func142 [(2,.sl 2)] Q Q Q Q
theorem z100_ct (N:Nat) (r_:T12) (r:T2 × T12) (h:z100 N r_=some r) :
 Fn Tryz.prog 100 ⟨2,[.B 0 0],[(1,.sl (rI .u8) r_.b')],[(0,.box (cC12 1 r_) 160)],3,.a (cC2 r.1),[(2,.sl (rI .u8) r.2.b')],[(0,.box (cC12 2 r.2) 160)]⟩:=by
 refine Fn.intro _ _ Tryz.func100 rfl (by kernel_rfl) rfl (fun E F w=>?_)
 unfold z100 at h
 refine wq (wg (ws J 1 Q (wn (wq (wg (ws J 1 Q ?_))))))
 obtain ⟨x1,c,h⟩:=ob h
 refine wc (z98_ct N r_ _ c) [(0,.bp 0 0),(1,.sl 1)] [] Q Q Q Q Q Q Q Q (.inl rfl) rfl (wx ⟨[(0,.B 0 0),(2,.B 2 0),(3,.B 4 0)],[(0,.box (cC12 3 x1.2) 160),(2,.box [.I 0,.I 0,.I 0,.I 0,.I 0,.b false] 43),(4,.box [.I x1.1,.I 0,.I 0,.I 0,.I 0,.b false] 43)],[(1,.sl (rI .u8) r_.b'),(3,.sl (rI .u8) x1.2.b')],5⟩ J 3 (wn (wq (wg (ws J 1 Q ?_)))))
 obtain ⟨x2,d,h⟩:=ob h
 refine wc (z98_ct N x1.2 _ d) [(0,.bp 0 0),(1,.sl 3)] [] Q Q Q Q Q Q Q Q (.inl rfl) rfl (wx ⟨[(0,.B 0 0),(2,.B 2 0),(3,.B 4 0)],[(0,.box (cC12 5 x2.2) 160),(2,.box [.I 0,.I 0,.I 0,.I 0,.I 0,.b false] 43),(4,.box [.I x1.1,.I x2.1,.I 0,.I 0,.I 0,.b false] 43)],[(1,.sl (rI .u8) r_.b'),(5,.sl (rI .u8) x2.2.b')],6⟩ J 3 (wn (wq (wg (ws J 1 Q ?_)))))
 obtain ⟨x3,e,h⟩:=ob h
 refine wc (z98_ct N x2.2 _ e) [(0,.bp 0 0),(1,.sl 5)] [] Q Q Q Q Q Q Q Q (.inl rfl) rfl (wx ⟨[(0,.B 0 0),(2,.B 2 0),(3,.B 4 0)],[(0,.box (cC12 6 x3.2) 160),(2,.box [.I 0,.I 0,.I 0,.I 0,.I 0,.b false] 43),(4,.box [.I x1.1,.I x2.1,.I x3.1,.I 0,.I 0,.b false] 43)],[(1,.sl (rI .u8) r_.b'),(6,.sl (rI .u8) x3.2.b')],7⟩ J 3 (wn (wq (wg (ws J 1 Q ?_)))))
 obtain ⟨x4,f,h⟩:=ob h
 refine wc (z98_ct N x3.2 _ f) [(0,.bp 0 0),(1,.sl 6)] [] Q Q Q Q Q Q Q Q (.inl rfl) rfl (wx ⟨[(0,.B 0 0),(2,.B 2 0),(3,.B 4 0)],[(0,.box (cC12 7 x4.2) 160),(2,.box [.I 0,.I 0,.I 0,.I 0,.I 0,.b false] 43),(4,.box [.I x1.1,.I x2.1,.I x3.1,.I x4.1,.I 0,.b false] 43)],[(1,.sl (rI .u8) r_.b'),(7,.sl (rI .u8) x4.2.b')],8⟩ J 3 (wn (wq (wg (ws J 1 Q ?_)))))
 obtain ⟨x5,g,h⟩:=ob h
 refine wc (z98_ct N x4.2 _ g) [(0,.bp 0 0),(1,.sl 7)] [] Q Q Q Q Q Q Q Q (.inl rfl) rfl (wx ⟨[(0,.B 0 0),(2,.B 2 0),(3,.B 4 0)],[(0,.box (cC12 8 x5.2) 160),(2,.box [.I 0,.I 0,.I 0,.I 0,.I 0,.b false] 43),(4,.box [.I x1.1,.I x2.1,.I x3.1,.I x4.1,.I x5.1,.b false] 43)],[(1,.sl (rI .u8) r_.b'),(8,.sl (rI .u8) x5.2.b')],9⟩ J 2 (wn (wq (wg (ws J 1 Q ?_)))))
 obtain ⟨x6,i,h⟩:=ob h
 refine wc (z142_ct N x5.2 _ i) [(0,.bp 0 0),(1,.sl 8)] [] Q Q Q Q Q Q Q Q (.inl rfl) rfl (wx ⟨[(2,.B 2 0),(3,.B 4 0)],[(0,.box (cC12 9 x6.2) 160),(2,.box [.I 0,.I 0,.I 0,.I 0,.I 0,.b false] 43),(4,.box [.I x1.1,.I x2.1,.I x3.1,.I x4.1,.I x5.1,.b x6.1] 43)],[(1,.sl (rI .u8) r_.b'),(9,.sl (rI .u8) x6.2.b')],10⟩ J 2 (wn (wq (wg (ws J 2 Q (wn ?_))))))
 cases h
 exact we J Tryz.func100 [(2,.sl 9)] Q Q Q Q
theorem z99_32_ct (N:Nat) (r_:T12) (most_:Int) (r:(List T2) × T12) (h:z99_32 N r_ most_=some r) :
 Fn Tryz.prog 99 ⟨2,[.B 0 0,.I most_,.c (.cl 100 [] [])],[(1,.sl (rI .u8) r_.b')],[(0,.box (cC12 1 r_) 160)],4,.S 2,[(3,.sl (rI .u8) r.2.b')],[(2,.own rR2 r.1 true),(0,.box (cC12 3 r.2) 160)]⟩:=by
 refine Fn.intro _ _ Tryz.func99 rfl (by kernel_rfl) rfl (fun E F w=>?_)
 unfold z99_32 at h
 refine wq (wg (ws J 1 Q (wn (wq (wg (ws J 1 Q (wn (wq (wq (wg (xw [2,3] (zz9 r_ r_.b' [(0,.B 0 0),(2,.c (.cl 100 [] [])),(6,.c .nil),(7,.c .nil),(8,.B 0 0),(9,.I most_)]) J 2 ?_)))))))))))
 obtain ⟨x1,d,h⟩:=ob h
 refine wc (z133_ct N r_ 0 most_ _ d) [(0,.bp 0 0),(1,.sl 1)] [] Q Q Q Q Q Q Q Q (.inl rfl) rfl (wx (zz17 x1.2 r_.b' x1.2.b' [(0,.B 0 0),(2,.c (.cl 100 [] [])),(6,.c .nil),(7,.c .nil),(10,.I x1.1),(11,.I 0)]) J 1 (wn ?_))
 refine wC (σ:=(List Int) × Int × Bool × (List T2)) (fun st=>(zz147 st.2.1 st.2.2.1 st.2.2.2 r_.b' st.1 [(7,.S 4)])) (fun st=>z99_32_k1 st.1 st.2.1 st.2.2.1 st.2.2.2=some r) ?_ (fun j1=>?_)
 ·rintro ⟨vbk0_0_0_1,vbk0_0_1_1,vbk0_0_2_1,e⟩ h
  replace h:z99_32_k1 vbk0_0_0_1 vbk0_0_1_1 vbk0_0_2_1 e=some r:=h
  unfold z99_32_k1 at h
  refine wq (wg (ws J 2 Q (wn ?_)))
  cases h
  exact we J Tryz.func99 [(2,.sl 4),(3,.sl 3)] Q Q Q Q
 refine wo ?_
 refine wI (σ:=(List Int) × Int × Bool × (List T2) × Int) (fun st=>(zz147 st.2.1 st.2.2.1 st.2.2.2.1 r_.b' st.1 [(0,.B 0 0),(2,.c (.cl 100 [] [])),(7,.S 4),(10,.I x1.1),(11,.I st.2.2.2.2)])) (fun n st=>z99_32_l2 N x1 n st.1 st.2.1 st.2.2.1 st.2.2.2.1 st.2.2.2.2) (r:=r) (fun _=>rfl) ?_ (fun ih=>?_)
 ·intro n2 ih3
  rintro ⟨vbk0_0_0_3,vbk0_0_1_3,vbk0_0_2_3,f,g⟩ h
  replace h:z99_32_l2 N x1 (n2+1) vbk0_0_0_3 vbk0_0_1_3 vbk0_0_2_3 f g=some r:=h
  unfold z99_32_l2 at h
  refine wq (wg (ws J 1 Q (wn (wq ?_))))
  rcases oc' h with ⟨hc,h⟩ | ⟨hc,h⟩
  ·exact wf hc Q (wz rfl (wu [] (j1 (vbk0_0_0_3,vbk0_0_1_3,vbk0_0_2_3,f) h) Q Q Q Q))
  refine wt hc Q (wi (wq (wo (wg (xw [3,4,5,6] (zz147 vbk0_0_1_3 vbk0_0_2_3 f r_.b' vbk0_0_0_3 [(0,.B 0 0),(2,.c (.cl 100 [] [])),(10,.I x1.1),(11,.I g),(13,.S 4),(14,.c (.cl 100 [] [])),(15,.B 0 0)]) J 3 ?_)))))
  obtain ⟨i,j,h⟩:=ob h
  refine WPr.callc (z100_ct N (⟨vbk0_0_0_3,vbk0_0_1_3,vbk0_0_2_3⟩:T12) _ j) [(0,.bp 0 0),(1,.sl 3)] [] Q Q Q Q Q Q Q Q Q (.inl rfl) rfl (xw [4,5,6] ⟨[(0,.B 0 0),(2,.c (.cl 100 [] [])),(10,.I x1.1),(11,.I g),(13,.S 4),(16,.a (cC2 i.1))],[(0,.box (cC12 5 i.2) 160),(4,.own rR2 f true)],[(1,.sl (rI .u8) r_.b'),(5,.sl (rI .u8) i.2.b')],6⟩ J 0 (WPr.bs (cs:=(cC2 i.1)) oO2 J ([i.1]:List T2) Q Q Q Q Q Q (by kernel_rfl) (by exact (an (an rfl (an (an rfl (an Q Q)) (an Q Q))) rfl)) rfl ?_))
  obtain ⟨k,l,h⟩:=ob h
  exact WPr.app J l (by exact (srcO rfl)) Q Q Q Q Q Q Q Q Q Q (wx ⟨[(0,.B 0 0),(2,.c (.cl 100 [] [])),(7,.S 7),(10,.I x1.1),(11,.I g)],[(0,.box (cC12 5 i.2) 160),(7,.own rR2 k true)],[(1,.sl (rI .u8) r_.b'),(5,.sl (rI .u8) i.2.b')],8⟩ J 1 (wn (wb (wg (ws J 2 Q (wn (wu [(3,.sl 5),(4,.sl 7)] (ih3 (i.2.b',i.2.at',i.2.failed',k,(w64 (g+1))) h) Q Q Q Q)))))))
 exact wu [(3,.sl 2),(4,.nil)] (ih N (x1.2.b',x1.2.at',x1.2.failed',([]:List T2),0) h) Q Q Q Q
theorem z102_ct (N:Nat) (r_:T12) (r:T8 × T12) (h:z102 N r_=some r) :
 Fn Tryz.prog 102 ⟨2,[.B 0 0],[(1,.sl (rI .u8) r_.b')],[(0,.box (cC12 1 r_) 160)],3,.a (cC8 r.1),[(2,.sl (rI .u8) r.2.b')],[(0,.box (cC12 2 r.2) 160)]⟩:=by
 refine Fn.intro _ _ Tryz.func102 rfl (by kernel_rfl) rfl (fun E F w=>?_)
 unfold z102 at h
 refine wq (wg (ws J 1 Q (wn (wq (wg (ws J 1 Q ?_))))))
 obtain ⟨x1,c,h⟩:=ob h
 refine wc (z98_ct N r_ _ c) [(0,.bp 0 0),(1,.sl 1)] [] Q Q Q Q Q Q Q Q (.inl rfl) rfl (wx ⟨[(0,.B 0 0),(2,.B 2 0),(3,.B 4 0)],[(0,.box (cC12 3 x1.2) 160),(2,.box [.I 0,.I 0,.I 0] 79),(4,.box [.I x1.1,.I 0,.I 0] 79)],[(1,.sl (rI .u8) r_.b'),(3,.sl (rI .u8) x1.2.b')],5⟩ J 3 (wn (wq (wg (ws J 1 Q ?_)))))
 obtain ⟨x2,d,h⟩:=ob h
 refine wc (z98_ct N x1.2 _ d) [(0,.bp 0 0),(1,.sl 3)] [] Q Q Q Q Q Q Q Q (.inl rfl) rfl (wx ⟨[(0,.B 0 0),(2,.B 2 0),(3,.B 4 0)],[(0,.box (cC12 5 x2.2) 160),(2,.box [.I 0,.I 0,.I 0] 79),(4,.box [.I x1.1,.I x2.1,.I 0] 79)],[(1,.sl (rI .u8) r_.b'),(5,.sl (rI .u8) x2.2.b')],6⟩ J 2 (wn (wq (wg (ws J 1 Q ?_)))))
 obtain ⟨x3,e,h⟩:=ob h
 refine wc (z98_ct N x2.2 _ e) [(0,.bp 0 0),(1,.sl 5)] [] Q Q Q Q Q Q Q Q (.inl rfl) rfl (wx ⟨[(2,.B 2 0),(3,.B 4 0)],[(0,.box (cC12 6 x3.2) 160),(2,.box [.I 0,.I 0,.I 0] 79),(4,.box [.I x1.1,.I x2.1,.I x3.1] 79)],[(1,.sl (rI .u8) r_.b'),(6,.sl (rI .u8) x3.2.b')],7⟩ J 2 (wn (wq (wg (ws J 2 Q (wn ?_))))))
 cases h
 exact we J Tryz.func102 [(2,.sl 6)] Q Q Q Q
theorem z101_33_ct (N:Nat) (r_:T12) (most_:Int) (r:(List T8) × T12) (h:z101_33 N r_ most_=some r) :
 Fn Tryz.prog 101 ⟨2,[.B 0 0,.I most_,.c (.cl 102 [] [])],[(1,.sl (rI .u8) r_.b')],[(0,.box (cC12 1 r_) 160)],4,.S 2,[(3,.sl (rI .u8) r.2.b')],[(2,.own rR8 r.1 true),(0,.box (cC12 3 r.2) 160)]⟩:=by
 refine Fn.intro _ _ Tryz.func101 rfl (by kernel_rfl) rfl (fun E F w=>?_)
 unfold z101_33 at h
 refine wq (wg (ws J 1 Q (wn (wq (wg (ws J 1 Q (wn (wq (wq (wg (xw [2,3] (zz9 r_ r_.b' [(0,.B 0 0),(2,.c (.cl 102 [] [])),(6,.c .nil),(7,.c .nil),(8,.B 0 0),(9,.I most_)]) J 2 ?_)))))))))))
 obtain ⟨x1,d,h⟩:=ob h
 refine wc (z133_ct N r_ 0 most_ _ d) [(0,.bp 0 0),(1,.sl 1)] [] Q Q Q Q Q Q Q Q (.inl rfl) rfl (wx (zz17 x1.2 r_.b' x1.2.b' [(0,.B 0 0),(2,.c (.cl 102 [] [])),(6,.c .nil),(7,.c .nil),(10,.I x1.1),(11,.I 0)]) J 1 (wn ?_))
 refine wC (σ:=(List Int) × Int × Bool × (List T8)) (fun st=>(zz148 st.2.1 st.2.2.1 st.2.2.2 r_.b' st.1 [(7,.S 4)])) (fun st=>z101_33_k1 st.1 st.2.1 st.2.2.1 st.2.2.2=some r) ?_ (fun j1=>?_)
 ·rintro ⟨vbk0_0_0_1,vbk0_0_1_1,vbk0_0_2_1,e⟩ h
  replace h:z101_33_k1 vbk0_0_0_1 vbk0_0_1_1 vbk0_0_2_1 e=some r:=h
  unfold z101_33_k1 at h
  refine wq (wg (ws J 2 Q (wn ?_)))
  cases h
  exact we J Tryz.func101 [(2,.sl 4),(3,.sl 3)] Q Q Q Q
 refine wo ?_
 refine wI (σ:=(List Int) × Int × Bool × (List T8) × Int) (fun st=>(zz148 st.2.1 st.2.2.1 st.2.2.2.1 r_.b' st.1 [(0,.B 0 0),(2,.c (.cl 102 [] [])),(7,.S 4),(10,.I x1.1),(11,.I st.2.2.2.2)])) (fun n st=>z101_33_l2 N x1 n st.1 st.2.1 st.2.2.1 st.2.2.2.1 st.2.2.2.2) (r:=r) (fun _=>rfl) ?_ (fun ih=>?_)
 ·intro n2 ih3
  rintro ⟨vbk0_0_0_3,vbk0_0_1_3,vbk0_0_2_3,f,g⟩ h
  replace h:z101_33_l2 N x1 (n2+1) vbk0_0_0_3 vbk0_0_1_3 vbk0_0_2_3 f g=some r:=h
  unfold z101_33_l2 at h
  refine wq (wg (ws J 1 Q (wn (wq ?_))))
  rcases oc' h with ⟨hc,h⟩ | ⟨hc,h⟩
  ·exact wf hc Q (wz rfl (wu [] (j1 (vbk0_0_0_3,vbk0_0_1_3,vbk0_0_2_3,f) h) Q Q Q Q))
  refine wt hc Q (wi (wq (wo (wg (xw [3,4,5,6] (zz148 vbk0_0_1_3 vbk0_0_2_3 f r_.b' vbk0_0_0_3 [(0,.B 0 0),(2,.c (.cl 102 [] [])),(10,.I x1.1),(11,.I g),(13,.S 4),(14,.c (.cl 102 [] [])),(15,.B 0 0)]) J 3 ?_)))))
  obtain ⟨i,j,h⟩:=ob h
  refine WPr.callc (z102_ct N (⟨vbk0_0_0_3,vbk0_0_1_3,vbk0_0_2_3⟩:T12) _ j) [(0,.bp 0 0),(1,.sl 3)] [] Q Q Q Q Q Q Q Q Q (.inl rfl) rfl (xw [4,5,6] ⟨[(0,.B 0 0),(2,.c (.cl 102 [] [])),(10,.I x1.1),(11,.I g),(13,.S 4),(16,.a (cC8 i.1))],[(0,.box (cC12 5 i.2) 160),(4,.own rR8 f true)],[(1,.sl (rI .u8) r_.b'),(5,.sl (rI .u8) i.2.b')],6⟩ J 0 (WPr.bs (cs:=(cC8 i.1)) oO8 J ([i.1]:List T8) Q Q Q Q Q Q (by kernel_rfl) (by exact (an (an rfl (an Q Q)) rfl)) rfl ?_))
  obtain ⟨k,l,h⟩:=ob h
  exact WPr.app J l (by exact (srcO rfl)) Q Q Q Q Q Q Q Q Q Q (wx ⟨[(0,.B 0 0),(2,.c (.cl 102 [] [])),(7,.S 7),(10,.I x1.1),(11,.I g)],[(0,.box (cC12 5 i.2) 160),(7,.own rR8 k true)],[(1,.sl (rI .u8) r_.b'),(5,.sl (rI .u8) i.2.b')],8⟩ J 1 (wn (wb (wg (ws J 2 Q (wn (wu [(3,.sl 5),(4,.sl 7)] (ih3 (i.2.b',i.2.at',i.2.failed',k,(w64 (g+1))) h) Q Q Q Q)))))))
 exact wu [(3,.sl 2),(4,.nil)] (ih N (x1.2.b',x1.2.at',x1.2.failed',([]:List T8),0) h) Q Q Q Q
theorem z143_ct (N:Nat) (r_:T12) (r:Int) (h:z143 N r_=some r) :
 Fn Tryz.prog 143 ⟨2,[.B 0 0],[(1,.sl (rI .u8) r_.b')],[(0,.box (cC12 1 r_) 160)],2,.I r,[],[(0,.box (cC12 1 r_) 160)]⟩:=by
 refine Fn.intro _ _ Tryz.func143 rfl (by kernel_rfl) rfl (fun E F w=>?_)
 unfold z143 at h
 refine wq (wg (ws J 1 Q (wn (wq (wq (wg (ws J 1 Q (WPr.pnil (el:=160) false Q Q Q Q (by kernel_rfl) Q Q Q (wx (zz9 r_ r_.b' [(0,.B 0 0),(2,.I 0),(4,.O false)]) J 0 (wn (wf Q Q (wi (wq (wQ (by kernel_rfl) (by kernel_rfl) (qx (zz9 r_ r_.b' [(2,.I (w64 ((r_.b'.length:Int)-r_.at')))]) J 11 (qn ?_))))))))))))))))
 cases h
 exact we J Tryz.func143 [] Q Q Q Q
theorem z103_ct (N:Nat) (r_:T12) (r:Int) (h:z103 N r_=some r) :
 Fn Tryz.prog 103 ⟨2,[.B 0 0],[(1,.sl (rI .u8) r_.b')],[(0,.box (cC12 1 r_) 160)],2,.I r,[],[(0,.box (cC12 1 r_) 160)]⟩:=by
 refine Fn.intro _ _ Tryz.func103 rfl (by kernel_rfl) rfl (fun E F w=>?_)
 unfold z103 at h
 refine wq (wg (ws J 1 Q (wn (wq (wo (wq (wg (ws J 1 Q (WPr.pnil (el:=160) false Q Q Q Q (by kernel_rfl) Q Q Q (wx (zz9 r_ r_.b' [(0,.B 0 0),(2,.I 0),(3,.O false)]) J 1 (wn (wf Q Q (wq (wg (xw [5,6,7,8,9] (zz9 r_ r_.b' [(0,.B 0 0),(2,.I 0),(11,.O r_.failed')]) J 5 ?_)))))))))))))))
 rcases oc h with ⟨hc,h⟩ | ⟨hc,h⟩
 ·refine wy 11 hc Q (wx (zz9 r_ r_.b' [(2,.I 0),(6,.O true)]) J 5 (wn (wt Q Q (wq (wg (ws J 1 Q (wn ?_)))))))
  cases h
  exact we J Tryz.func103 [] Q Q Q Q
 refine wy 11 hc Q (ws J 1 Q ?_)
 obtain ⟨x1,c,h⟩:=ob h
 refine wc (z143_ct N r_ _ c) [(0,.bp 0 0),(1,.sl 1)] [] Q Q Q Q Q Q Q Q (.inl rfl) rfl (wx (zz9 r_ r_.b' [(2,.I 0),(6,.O (decide (x1 > 0)))]) J 3 (wn ?_))
 rcases oc h with ⟨hc,h⟩ | ⟨hc,h⟩
 ·refine wt hc Q (wq (wg (ws J 1 Q (wn ?_))))
  cases h
  exact we J Tryz.func103 [] Q Q Q Q
 refine wf hc Q (wi (wb (wq (wg (ws J 1 Q (wn ?_))))))
 cases h
 exact we J Tryz.func103 [] Q Q Q Q
end Gx
end
