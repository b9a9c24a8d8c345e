/- Each function of the statement computes what its plain definition says, part 1. -/
import Derived.Test.YtenajajnbmfijaaGreatDoorGlobalDecodeBase
set_option linter.all false
section
set_option maxRecDepth 10000
set_option maxHeartbeats 4000000
open Go Go.Kx Go.Proofs
namespace Gx
theorem z43_ct (N:Nat) (r:T4) (h:z43 N=some r) :
 Fn Tryz.prog 43 ⟨0,[],[],[],4,.a (cC4 0 1 2 3 r),(vV4 0 1 2 3 r []),[]⟩:=by
 refine Fn.intro _ _ Tryz.func43 rfl (by kernel_rfl) rfl (fun E F w=>?_)
 unfold z43 at h
 refine wq (wg (ws J 1 Q (wn (wq (wg (WPr.bs (cs:=[.s (str [65]),.s (str [66])]) oS J ([(str [65]),(str [66])]:List ByteArray) Q Q Q Q Q Q (by kernel_rfl) (by exact (an rfl (an Q Q))) rfl (xw (rg 2 6) ⟨[(0,.B 0 0),(1,.S 1),(2,.a [.s (str [120]),.nil,.I 0,.nil,.nil])],[(0,.box [.s (str []),.nil,.nil,.I 0,.I 0,.I 0,.nil,.nil] 27),(1,.own rS ([(str [65]),(str [66])]:List ByteArray) true)],[],2⟩ J 1 (WPr.bs (cs:=[.s (str [120]),.nil,.I 0,.nil,.nil]) oO0 J ([(⟨(str [120]),([]:List T3),0,(⟨([]:List T1),([]:List (Int × Int))⟩:T5)⟩:T0)]:List T0) Q Q Q Q Q Q (by kernel_rfl) (by exact (an (an rfl (an rfl (an rfl (an Q Q)))) rfl)) rfl (xw [5,6,7] ⟨[(0,.B 0 0),(1,.S 1),(3,.S 2),(5,.a [.I 0,.I 0,.I 1,.I 0,.I 1,.b false])],[(0,.box [.s (str []),.nil,.nil,.I 0,.I 0,.I 0,.nil,.nil] 27),(1,.own rS ([(str [65]),(str [66])]:List ByteArray) true),(2,.own rR0 ([(⟨(str [120]),([]:List T3),0,(⟨([]:List T1),([]:List (Int × Int))⟩:T5)⟩:T0)]:List T0) true)],[],3⟩ J 2 (WPr.bs (cs:=[.I 0,.I 0,.I 1,.I 0,.I 1,.b false]) oO2 J ([(⟨0,(⟨0,1,0⟩:T6),1,false⟩:T2)]:List T2) Q Q Q Q Q Q (by kernel_rfl) (by exact (an (an rfl (an (an rfl (an Q Q)) (an Q Q))) rfl)) rfl (wx ⟨[(0,.B 0 0)],[(0,.box [.s (str [80]),.sl 1,.sl 2,.I 2,.I 0,.I 1,.sl 3,.nil] 27),(1,.own rS ([(str [65]),(str [66])]:List ByteArray) true),(2,.own rR0 ([(⟨(str [120]),([]:List T3),0,(⟨([]:List T1),([]:List (Int × Int))⟩:T5)⟩:T0)]:List T0) true),(3,.own rR2 ([(⟨0,(⟨0,1,0⟩:T6),1,false⟩:T2)]:List T2) true)],[],4⟩ J 2 (wn (WP.frz 1 rfl (WP.frz 2 rfl (WP.frz 3 rfl ?_)))))))))))))))
 cases h
 exact we J Tryz.func43 [(0,.sl 1),(1,.sl 2),(2,.sl 3),(3,.nil)] Q Q Q Q
theorem z173_ct (N:Nat) (c_:Int) (r:Bool) (h:z173 N c_=some r) :
 Fn Tryz.prog 173 ⟨0,[.c (.i .u8 c_)],[],[],0,.O r,[],[]⟩:=by
 refine Fn.intro _ _ Tryz.func173 rfl (by kernel_rfl) rfl (fun E F w=>?_)
 unfold z173 at h
 refine wq (wg (ws J 1 Q (wn (wq (wg (xw (rg 3 12) (zz0 [(0,.c (.i .u8 c_)),(5,.O (decide (97≤c_)))]) J 3 ?_))))))
 rcases oc' h with ⟨hc,h⟩ | ⟨hc,h⟩
 ·refine wy 5 hc Q (xw [10,11,12,13,14] (zz0 [(0,.c (.i .u8 c_)),(9,.O false),(12,.O (decide (65≤c_)))]) J 7 ?_)
  rcases oc h with ⟨hc,h⟩ | ⟨hc,h⟩
  ·refine wy 12 hc Q (wx (zz0 [(2,.O (decide (c_≤90)))]) J 5 (wn ?_))
   cases h
   exact we J Tryz.func173 [] Q Q Q Q
  refine wy 12 hc Q (wx (zz0 [(2,.O false)]) J 5 (wn ?_))
  cases h
  exact we J Tryz.func173 [] Q Q Q Q
 refine wy 5 hc Q (xw (rg 7 8) (zz0 [(0,.c (.i .u8 c_)),(9,.O (decide (c_≤122)))]) J 4 ?_)
 rcases oc h with ⟨hc,h⟩ | ⟨hc,h⟩
 ·refine wy 9 hc Q (wx (zz0 [(2,.O true)]) J 8 (wn ?_))
  cases h
  exact we J Tryz.func173 [] Q Q Q Q
 refine wy 9 hc Q (xw [10,11,12,13,14] (zz0 [(0,.c (.i .u8 c_)),(9,.O false),(12,.O (decide (65≤c_)))]) J 3 ?_)
 rcases oc h with ⟨hc,h⟩ | ⟨hc,h⟩
 ·refine wy 12 hc Q (wx (zz0 [(2,.O (decide (c_≤90)))]) J 5 (wn ?_))
  cases h
  exact we J Tryz.func173 [] Q Q Q Q
 refine wy 12 hc Q (wx (zz0 [(2,.O false)]) J 5 (wn ?_))
 cases h
 exact we J Tryz.func173 [] Q Q Q Q
theorem z186_ct (N:Nat) (c_:Int) (r:Bool) (h:z186 N c_=some r) :
 Fn Tryz.prog 186 ⟨0,[.c (.i .u8 c_)],[],[],0,.O r,[],[]⟩:=by
 refine Fn.intro _ _ Tryz.func186 rfl (by kernel_rfl) rfl (fun E F w=>?_)
 unfold z186 at h
 refine wq (wg (ws J 1 Q (wn (wq (wg (xw [3,4,5,6] (zz0 [(0,.c (.i .u8 c_)),(5,.O (decide (48≤c_)))]) J 3 ?_))))))
 rcases oc h with ⟨hc,h⟩ | ⟨hc,h⟩
 ·refine wy 5 hc Q (wx (zz0 [(2,.O (decide (c_≤57)))]) J 4 (wn ?_))
  cases h
  exact we J Tryz.func186 [] Q Q Q Q
 refine wy 5 hc Q (wx (zz0 [(2,.O false)]) J 4 (wn ?_))
 cases h
 exact we J Tryz.func186 [] Q Q Q Q
theorem z174_ct (N:Nat) (c_:Int) (r:Bool) (h:z174 N c_=some r) :
 Fn Tryz.prog 174 ⟨0,[.c (.i .u8 c_)],[],[],0,.O r,[],[]⟩:=by
 refine Fn.intro _ _ Tryz.func174 rfl (by kernel_rfl) rfl (fun E F w=>?_)
 unfold z174 at h
 refine wq (wg (ws J 1 Q (wn (wq (wg (ws J 1 Q ?_))))))
 obtain ⟨x1,d,h⟩:=ob h
 refine wc (z173_ct N c_ _ d) [] [] Q Q Q Q Q Q Q Q (.inl rfl) rfl (xw (rg 3 8) (zz0 [(0,.c (.i .u8 c_)),(5,.O x1)]) J 1 ?_)
 rcases oc h with ⟨hc,h⟩ | ⟨hc,h⟩
 ·refine wy 5 hc Q (wx (zz0 [(2,.O true)]) J 8 (wn ?_))
  cases h
  exact we J Tryz.func174 [] Q Q Q Q
 refine wy 5 hc Q (ws J 1 Q ?_)
 obtain ⟨x2,e,h⟩:=ob h
 refine wc (z186_ct N c_ _ e) [] [] Q Q Q Q Q Q Q Q (.inl rfl) rfl (xw [7,8,9,10] (zz0 [(0,.c (.i .u8 c_)),(9,.O x2)]) J 2 ?_)
 rcases oc h with ⟨hc,h⟩ | ⟨hc,h⟩
 ·refine wy 9 hc Q (wx (zz0 [(2,.O true)]) J 4 (wn ?_))
  cases h
  exact we J Tryz.func174 [] Q Q Q Q
 refine wy 9 hc Q (wx (zz0 [(2,.O (c_==95))]) J 4 (wn ?_))
 cases h
 exact we J Tryz.func174 [] Q Q Q Q
theorem z157_ct (N:Nat) (s_:ByteArray) (r:Bool) (h:z157 N s_=some r) :
 Fn Tryz.prog 157 ⟨0,[.c (.s s_)],[],[],0,.O r,[],[]⟩:=by
 refine Fn.intro _ _ Tryz.func157 rfl (by kernel_rfl) rfl (fun E F w=>?_)
 unfold z157 at h
 refine wq (wg (ws J 1 Q (wn (wq (wq (wg (xw (rg 3 10) (zz0 [(0,.c (.s s_)),(2,.O false),(6,.O (s_.toList==(str []).toList))]) J 3 ?_)))))))
 rcases oc h with ⟨hc,h⟩ | ⟨hc,h⟩
 ·refine wy 6 hc Q (wx (zz0 [(0,.c (.s s_)),(2,.O false),(16,.O true)]) J 10 (wn (wt Q Q (wq (wg (ws J 1 Q (wn ?_)))))))
  cases h
  exact we J Tryz.func157 [] Q Q Q Q
 refine wy 6 hc Q (xw [8,9,10,11,12] (zz0 [(0,.c (.s s_)),(2,.O false),(11,.O (decide ((s_.size:Int) > 16)))]) J 5 ?_)
 rcases oc h with ⟨hc,h⟩ | ⟨hc,h⟩
 ·refine wy 11 hc Q (wx (zz0 [(0,.c (.s s_)),(2,.O false),(16,.O true)]) J 5 (wn (wt Q Q (wq (wg (ws J 1 Q (wn ?_)))))))
  cases h
  exact we J Tryz.func157 [] Q Q Q Q
 refine wy 11 hc Q (ws J 1 Q ?_)
 obtain ⟨x1,d,h⟩:=ob h
 refine WPr.sx J d Q Q Q Q Q Q Q Q Q ?_
 obtain ⟨x2,e,h⟩:=ob h
 refine wc (z173_ct N x1 _ e) [] [] Q Q Q Q Q Q Q Q (.inl rfl) rfl (wx (zz0 [(0,.c (.s s_)),(2,.O false),(16,.O (!x2))]) J 2 (wn ?_))
 rcases oc h with ⟨hc,h⟩ | ⟨hc,h⟩
 ·refine wt hc Q (wq (wg (ws J 1 Q (wn ?_))))
  cases h
  exact we J Tryz.func157 [] Q Q Q Q
 refine wf hc Q (wi (wq (wq (wg (wx (zz0 [(0,.c (.s s_)),(2,.O false),(18,.I (s_.size:Int)),(19,.I 0)]) J 3 (wn ?_))))))
 refine wC (σ:=Unit) (fun st=>(zz0 [])) (fun st=>z157_k1=some r) ?_ (fun j1=>?_)
 ·intro _ h
  replace h:z157_k1=some r:=h
  unfold z157_k1 at h
  refine wq (wg (ws J 1 Q (wn ?_)))
  cases h
  exact we J Tryz.func157 [] Q Q Q Q
 refine wo ?_
 refine wI (σ:=Int) (fun st=>(zz0 [(0,.c (.s s_)),(18,.I (s_.size:Int)),(19,.I st)])) (fun n st=>z157_l2 N s_ n st) (r:=r) (fun _=>rfl) ?_ (fun ih=>?_)
 ·intro n2 ih3
  intro f h
  replace h:z157_l2 N s_ (n2+1) f=some r:=h
  unfold z157_l2 at h
  refine wq (wg (ws J 1 Q (wn (wq ?_))))
  rcases oc' h with ⟨hc,h⟩ | ⟨hc,h⟩
  ·exact wf hc Q (wz rfl (wu [] (j1 () h) Q Q Q Q))
  refine wt hc Q (wi (wq (wo (wq (wg (wx (zz0 [(0,.c (.s s_)),(3,.I f),(18,.I (s_.size:Int)),(19,.I f)]) J 2 (wn (wq (wg (ws J 2 Q ?_))))))))))
  obtain ⟨g,j,h⟩:=ob h
  refine WPr.sx J j Q Q Q Q Q Q Q Q Q (xw [3,4] (zz0 [(0,.c (.s s_)),(18,.I (s_.size:Int)),(19,.I f),(24,.c (.i .u8 g))]) J 0 ?_)
  obtain ⟨k,l,h⟩:=ob h
  refine wc (z174_ct N g _ l) [] [] Q Q Q Q Q Q Q Q (.inl rfl) rfl (wx (zz0 [(0,.c (.s s_)),(18,.I (s_.size:Int)),(19,.I f),(26,.O (!k))]) J 1 (wn ?_))
  rcases oc h with ⟨hc,h⟩ | ⟨hc,h⟩
  ·refine wt hc Q (wq (wg (ws J 1 Q (wn ?_))))
   cases h
   exact we J Tryz.func157 [] Q Q Q Q
  exact wf hc Q (wi (wb (wg (ws J 2 Q (wn (wu [] (ih3 (w64 (f+1)) h) Q Q Q Q))))))
 exact wu [] (ih N 0 h) Q Q Q Q
theorem z75_ct (N:Nat) (s_:(List ByteArray)) (v_:ByteArray) (r:Int) (h:z75 N s_ v_=some r) :
 Fn Tryz.prog 75 ⟨1,[.S 0,.c (.s v_)],[(0,.sl rS s_)],[],1,.I r,[],[]⟩:=by
 refine Fn.intro _ _ Tryz.func75 rfl (by kernel_rfl) rfl (fun E F w=>?_)
 unfold z75 at h
 refine wq (wg (ws J 1 Q (wn (wq (wq (wg (wx (zz13 s_ [(0,.S 0),(1,.c (.s v_)),(4,.I 0),(7,.I (s_.length:Int)),(8,.I 0)]) J 3 (wn ?_))))))))
 refine wC (σ:=Unit) (fun st=>(zz13 s_ [])) (fun st=>z75_k1=some r) ?_ (fun j1=>?_)
 ·intro _ h
  replace h:z75_k1=some r:=h
  unfold z75_k1 at h
  refine wq (wg (ws J 1 Q (wn ?_)))
  cases h
  exact we J Tryz.func75 [] Q Q Q Q
 refine wo ?_
 refine wI (σ:=Int) (fun st=>(zz13 s_ [(0,.S 0),(1,.c (.s v_)),(7,.I (s_.length:Int)),(8,.I st)])) (fun n st=>z75_l2 s_ v_ n st) (r:=r) (fun _=>rfl) ?_ (fun ih=>?_)
 ·intro n2 ih3
  intro d h
  replace h:z75_l2 s_ v_ (n2+1) d=some r:=h
  unfold z75_l2 at h
  refine wq (wg (ws J 1 Q (wn (wq ?_))))
  rcases oc' h with ⟨hc,h⟩ | ⟨hc,h⟩
  ·exact wf hc Q (wz rfl (wu [] (j1 () h) Q Q Q Q))
  refine wt hc Q (wi (wq (wo (wq (wg (wx (zz13 s_ [(0,.S 0),(1,.c (.s v_)),(5,.I d),(7,.I (s_.length:Int)),(8,.I d)]) J 2 (wn (wq (wg (xw [3,4,5] (zz13 s_ [(0,.S 0),(1,.c (.s v_)),(5,.I d),(7,.I (s_.length:Int)),(8,.I d),(11,.c (.s v_)),(12,.S 0),(13,.I d)]) J 3 ?_))))))))))
  obtain ⟨x9,e,h⟩:=ob h
  refine wj oS J e Q Q Q Q Q Q Q Q Q (wx (zz59 s_ [(0,.S 0),(1,.c (.s v_)),(5,.I d),(7,.I (s_.length:Int)),(8,.I d),(16,.O (v_.toList==x9.toList))]) J 2 (wn ?_))
  rcases oc h with ⟨hc,h⟩ | ⟨hc,h⟩
  ·refine wt hc Q (wq (wg (ws J 2 Q (wn ?_))))
   cases h
   exact we J Tryz.func75 [] Q Q Q Q
  exact wf hc Q (wi (wb (wg (ws J 2 Q (wn (wu [] (ih3 (w64 (d+1)) h) Q Q Q Q))))))
 exact wu [] (ih N 0 h) Q Q Q Q
theorem z121_ct (N:Nat) (s_:(List ByteArray)) (v_:ByteArray) (r:Bool) (h:z121 N s_ v_=some r) :
 Fn Tryz.prog 121 ⟨1,[.S 0,.c (.s v_)],[(0,.sl rS s_)],[],1,.O r,[],[]⟩:=by
 refine Fn.intro _ _ Tryz.func121 rfl (by kernel_rfl) rfl (fun E F w=>?_)
 unfold z121 at h
 refine wq (wg (ws J 1 Q (wn (wq (wg (xw [2,3,4] (zz13 s_ [(5,.S 0),(6,.c (.s v_))]) J 2 ?_))))))
 obtain ⟨x1,d,h⟩:=ob h
 refine wc (z75_ct N s_ v_ _ d) [(0,.sl 0)] [] Q Q Q Q Q Q Q Q (.inl rfl) rfl (wx (zz13 s_ [(4,.O (decide (x1≥0)))]) J 2 (wn ?_))
 cases h
 exact we J Tryz.func121 [] Q Q Q Q
theorem z120_ct (N:Nat) (s_:ByteArray) (r:Bool) (h:z120 N s_=some r) :
 Fn Tryz.prog 120 ⟨0,[.c (.s s_)],[],[],0,.O r,[],[]⟩:=by
 refine Fn.intro _ _ Tryz.func120 rfl (by kernel_rfl) rfl (fun E F w=>?_)
 unfold z120 at h
 refine wq (wg (ws J 1 Q (wn (wq (wg (wx (zz152 [(0,.c (.s s_)),(2,.O false),(3,.B 0 0)]) J 3 (wn (wq (wg (ws J 1 Q ?_))))))))))
 obtain ⟨x1,d,h⟩:=ob h
 refine wc (z157_ct N s_ _ d) [] [] Q Q Q Q Q Q Q Q (.inl rfl) rfl (xw (rg 3 6) (zz152 [(0,.c (.s s_)),(3,.B 0 0),(7,.O x1)]) J 1 ?_)
 rcases oc' h with ⟨hc,h⟩ | ⟨hc,h⟩
 ·refine wy 7 hc Q (wx (zz23 [(2,.O false)]) J 6 (wn ?_))
  cases h
  exact we J Tryz.func120 [] Q Q Q Q
 refine wy 7 hc Q (WPr.slb (len:=28) (el:=9) oS ([(str [97,103,97,105,110]),(str [97,110,100]),(str [97,115]),(str [97,116]),(str [99,97,108,108]),(str [99,104,111,105,99,101]),(str [101,108,115,101]),(str [102,114,111,109]),(str [105,102]),(str [105,110,116]),(str [108,101,110]),(str [108,111,111,112]),(str [109,101,115,115,97,103,101]),(str [111,102]),(str [111,102,102,101,114]),(str [111,110]),(str [111,114]),(str [112,97,114]),(str [112,108,97,121,115]),(str [112,114,111,116,111,99,111,108]),(str [115,101,114,118,105,99,101]),(str [116,101,120,116]),(str [116,105,109,101,115]),(str [116,111]),(str [118,97,114]),(str [119,104,101,114,101]),(str [119,104,105,108,101]),(str [119,105,116,104,105,110])]:List ByteArray) (by exact (an rfl (an rfl (an rfl (an rfl (an rfl (an rfl (an rfl (an rfl (an rfl (an rfl (an rfl (an rfl (an rfl (an rfl (an rfl (an rfl (an rfl (an rfl (an rfl (an rfl (an rfl (an rfl (an rfl (an rfl (an rfl (an rfl (an rfl (an Q Q))))))))))))))))))))))))))))) Q Q Q Q (by kernel_rfl) (by kernel_rfl) Q Q Q (ws J 1 Q ?_))
 obtain ⟨x2,e,h⟩:=ob h
 refine wc (z121_ct N ([(str [97,103,97,105,110]),(str [97,110,100]),(str [97,115]),(str [97,116]),(str [99,97,108,108]),(str [99,104,111,105,99,101]),(str [101,108,115,101]),(str [102,114,111,109]),(str [105,102]),(str [105,110,116]),(str [108,101,110]),(str [108,111,111,112]),(str [109,101,115,115,97,103,101]),(str [111,102]),(str [111,102,102,101,114]),(str [111,110]),(str [111,114]),(str [112,97,114]),(str [112,108,97,121,115]),(str [112,114,111,116,111,99,111,108]),(str [115,101,114,118,105,99,101]),(str [116,101,120,116]),(str [116,105,109,101,115]),(str [116,111]),(str [118,97,114]),(str [119,104,101,114,101]),(str [119,104,105,108,101]),(str [119,105,116,104,105,110])]:List ByteArray) s_ _ e) [(0,.sl 1)] [1] Q Q Q Q Q Q Q Q (.inr ⟨rfl,trivial⟩) rfl (wx ⟨[(2,.O (!x2))],[],[],2⟩ J 3 (wn ?_))
 cases h
 exact we J Tryz.func120 [] Q Q Q Q
theorem z61_ct (N:Nat) (g_:T4) (r:Bool) (h:z61 N g_=some r) :
 Fn Tryz.prog 61 ⟨4,[.a (cC4 0 1 2 3 g_)],(vV4 0 1 2 3 g_ []),[],4,.O r,[],[]⟩:=by
 refine Fn.intro _ _ Tryz.func61 rfl (by kernel_rfl) rfl (fun E F w=>?_)
 unfold z61 at h
 refine wq (wg (ws J 2 Q (wn (wq (wq (wg (xw (rg 2 14) (zz2 g_ [(1,.B 4 0),(2,.O false),(6,.c (.s g_.Name))]) J 2 ?_)))))))
 obtain ⟨x1,d,h⟩:=ob h
 refine wc (z120_ct N g_.Name _ d) [] [] Q Q Q Q Q Q Q Q (.inl rfl) rfl (xw (rg 5 11) (zz2 g_ [(1,.B 4 0),(2,.O false),(9,.O (!x1))]) J 2 ?_)
 rcases oc h with ⟨hc,h⟩ | ⟨hc,h⟩
 ·refine wy 9 hc Q (wx (zz2 g_ [(1,.B 4 0),(2,.O false),(20,.O true)]) J 11 (wn (wt Q Q (wq (wg (ws J 1 Q (wn ?_)))))))
  cases h
  exact we J Tryz.func61 [] Q Q Q Q
 refine wy 9 hc Q (xw [11,12,13,14,15] (zz2 g_ [(1,.B 4 0),(2,.O false),(15,.O (decide ((g_.Roles.length:Int) < 1)))]) J 6 ?_)
 rcases oc h with ⟨hc,h⟩ | ⟨hc,h⟩
 ·refine wy 15 hc Q (wx (zz2 g_ [(1,.B 4 0),(2,.O false),(20,.O true)]) J 5 (wn (wt Q Q (wq (wg (ws J 1 Q (wn ?_)))))))
  cases h
  exact we J Tryz.func61 [] Q Q Q Q
 refine wy 15 hc Q (wx (zz2 g_ [(1,.B 4 0),(2,.O false),(20,.O (decide ((g_.Roles.length:Int) > 6)))]) J 5 (wn ?_))
 rcases oc h with ⟨hc,h⟩ | ⟨hc,h⟩
 ·refine wt hc Q (wq (wg (ws J 1 Q (wn ?_))))
  cases h
  exact we J Tryz.func61 [] Q Q Q Q
 refine wf hc Q (wi (wq (wq (wg (wx (zz2 g_ [(1,.B 4 0),(2,.O false),(22,.S 0),(23,.I (g_.Roles.length:Int)),(24,.I 0)]) J 4 (wn ?_))))))
 refine wC (σ:=Unit) (fun st=>(zz7 g_ [])) (fun st=>z61_k1=some r) ?_ (fun j1=>?_)
 ·intro _ h
  replace h:z61_k1=some r:=h
  unfold z61_k1 at h
  refine wq (wg (ws J 1 Q (wn ?_)))
  cases h
  exact we J Tryz.func61 [] Q Q Q Q
 refine wo ?_
 refine wI (σ:=Int) (fun st=>(zz2 g_ [(1,.B 4 0),(22,.S 0),(23,.I (g_.Roles.length:Int)),(24,.I st)])) (fun n st=>z61_l2 N g_ n st) (r:=r) (fun _=>rfl) ?_ (fun ih=>?_)
 ·intro n2 ih3
  intro e h
  replace h:z61_l2 N g_ (n2+1) e=some r:=h
  unfold z61_l2 at h
  refine wq (wg (ws J 1 Q (wn (wq ?_))))
  rcases oc' h with ⟨hc,h⟩ | ⟨hc,h⟩
  ·exact wf hc Q (wz rfl (wu [] (j1 () h) Q Q Q Q))
  refine wt hc Q (wi (wq (wo (wq (wg (ws J 1 Q ?_))))))
  obtain ⟨f,g,h⟩:=ob h
  refine wj oS J g Q Q Q Q Q Q Q Q Q (wx (zz42 g_ [(1,.B 4 0),(3,.I e),(4,.c (.s f)),(22,.S 0),(23,.I (g_.Roles.length:Int)),(24,.I e)]) J 3 (wn (wq (wg (ws J 1 Q ?_)))))
  obtain ⟨i,j,h⟩:=ob h
  refine wc (z120_ct N f _ j) [] [] Q Q Q Q Q Q Q Q (.inl rfl) rfl (xw (rg 4 7) (zz42 g_ [(1,.B 4 0),(3,.I e),(4,.c (.s f)),(22,.S 0),(23,.I (g_.Roles.length:Int)),(24,.I e),(32,.O (!i))]) J 2 ?_)
  rcases oc h with ⟨hc,h⟩ | ⟨hc,h⟩
  ·refine wy 32 hc Q (wx (zz42 g_ [(1,.B 4 0),(22,.S 0),(23,.I (g_.Roles.length:Int)),(24,.I e),(39,.O true)]) J 7 (wn (wt Q Q (wq (wg (ws J 1 Q (wn ?_)))))))
   cases h
   exact we J Tryz.func61 [] Q Q Q Q
  refine wy 32 hc Q (xw [7,8,9,10] (zz42 g_ [(1,.B 4 0),(4,.c (.s f)),(22,.S 0),(23,.I (g_.Roles.length:Int)),(24,.I e),(32,.O false),(34,.S 0),(35,.I e)]) J 3 ?_)
  obtain ⟨k,m,h⟩:=ob h
  refine WPr.isl J (l:=none) (h:=some (.i64,e)) m Q Q Q Q Q Q Q Q Q Q (ws J 1 Q ?_)
  obtain ⟨o,p,h⟩:=ob h
  refine wc (z121_ct N k f _ p) [(0,.sl 6)] [] Q Q Q Q Q Q Q Q (.inl rfl) rfl (wx (zz14 g_ [(1,.B 4 0),(22,.S 0),(23,.I (g_.Roles.length:Int)),(24,.I e),(39,.O o)]) J 1 (wn ?_))
  rcases oc h with ⟨hc,h⟩ | ⟨hc,h⟩
  ·refine wt hc Q (wq (wg (ws J 1 Q (wn ?_))))
   cases h
   exact we J Tryz.func61 [] Q Q Q Q
  exact wf hc Q (wi (wb (wg (ws J 2 Q (wn (wu [] (ih3 (w64 (e+1)) h) Q Q Q Q))))))
 exact wu [] (ih N 0 h) Q Q Q Q
theorem z62_ct (N:Nat) (g_:T4) (r:Bool) (h:z62 N g_=some r) :
 Fn Tryz.prog 62 ⟨4,[.a (cC4 0 1 2 3 g_)],(vV4 0 1 2 3 g_ []),[],4,.O r,[],[]⟩:=by
 refine Fn.intro _ _ Tryz.func62 rfl (by kernel_rfl) rfl (fun E F w=>?_)
 unfold z62 at h
 refine wq (wg (ws J 2 Q (wn (wq (wq (wg (xw (rg 4 28) (zz2 g_ [(1,.B 4 0),(2,.O false),(9,.O (decide (g_.States < 1)))]) J 4 ?_)))))))
 rcases oc h with ⟨hc,h⟩ | ⟨hc,h⟩
 ·refine wy 9 hc Q (wx (zz2 g_ [(1,.B 4 0),(2,.O false),(37,.O true)]) J 28 (wn (wt Q Q (wq (wg (ws J 1 Q (wn ?_)))))))
  cases h
  exact we J Tryz.func62 [] Q Q Q Q
 refine wy 9 hc Q (xw (rg 9 23) (zz2 g_ [(1,.B 4 0),(2,.O false),(14,.O (decide (g_.States > 200)))]) J 5 ?_)
 rcases oc h with ⟨hc,h⟩ | ⟨hc,h⟩
 ·refine wy 14 hc Q (wx (zz2 g_ [(1,.B 4 0),(2,.O false),(37,.O true)]) J 23 (wn (wt Q Q (wq (wg (ws J 1 Q (wn ?_)))))))
  cases h
  exact we J Tryz.func62 [] Q Q Q Q
 refine wy 14 hc Q (xw (rg 17 15) (zz2 g_ [(1,.B 4 0),(2,.O false),(22,.O (decide ((minI g_.Start g_.End) < 0)))]) J 8 ?_)
 rcases oc h with ⟨hc,h⟩ | ⟨hc,h⟩
 ·refine wy 22 hc Q (wx (zz2 g_ [(1,.B 4 0),(2,.O false),(37,.O true)]) J 15 (wn (wt Q Q (wq (wg (ws J 1 Q (wn ?_)))))))
  cases h
  exact we J Tryz.func62 [] Q Q Q Q
 refine wy 22 hc Q (xw [27,28,29,30,31] (zz2 g_ [(1,.B 4 0),(2,.O false),(32,.O (decide ((maxI g_.Start g_.End)≥g_.States)))]) J 10 ?_)
 rcases oc h with ⟨hc,h⟩ | ⟨hc,h⟩
 ·refine wy 32 hc Q (wx (zz2 g_ [(1,.B 4 0),(2,.O false),(37,.O true)]) J 5 (wn (wt Q Q (wq (wg (ws J 1 Q (wn ?_)))))))
  cases h
  exact we J Tryz.func62 [] Q Q Q Q
 refine wy 32 hc Q (wx (zz2 g_ [(1,.B 4 0),(2,.O false),(37,.O (decide ((g_.Edges.length:Int) > 400)))]) J 5 (wn ?_))
 rcases oc h with ⟨hc,h⟩ | ⟨hc,h⟩
 ·refine wt hc Q (wq (wg (ws J 1 Q (wn ?_))))
  cases h
  exact we J Tryz.func62 [] Q Q Q Q
 refine wf hc Q (wi (wq (wq (wg (wx (zz2 g_ [(1,.B 4 0),(2,.O false),(39,.S 2),(40,.I (g_.Edges.length:Int)),(41,.I 0)]) J 4 (wn ?_))))))
 refine wC (σ:=Unit) (fun st=>(zz7 g_ [])) (fun st=>z62_k1=some r) ?_ (fun j1=>?_)
 ·intro _ h
  replace h:z62_k1=some r:=h
  unfold z62_k1 at h
  refine wq (wg (ws J 1 Q (wn ?_)))
  cases h
  exact we J Tryz.func62 [] Q Q Q Q
 refine wo ?_
 refine wI (σ:=Int) (fun st=>(zz2 g_ [(1,.B 4 0),(39,.S 2),(40,.I (g_.Edges.length:Int)),(41,.I st)])) (fun n st=>z62_l2 g_ n st) (r:=r) (fun _=>rfl) ?_ (fun ih=>?_)
 ·intro n2 ih3
  intro c h
  replace h:z62_l2 g_ (n2+1) c=some r:=h
  unfold z62_l2 at h
  refine wq (wg (ws J 1 Q (wn (wq ?_))))
  rcases oc' h with ⟨hc,h⟩ | ⟨hc,h⟩
  ·exact wf hc Q (wz rfl (wu [] (j1 () h) Q Q Q Q))
  refine wt hc Q (wi (wq (wo (wq (wg ?_)))))
  obtain ⟨x9,d,h⟩:=ob h
  refine wj oO2 J d Q Q Q Q Q Q Q Q Q (wx (zz6 g_ x9 [(1,.B 4 0),(4,.B 6 0),(39,.S 2),(40,.I (g_.Edges.length:Int)),(41,.I c)]) J 3 (wn (wq (wg (wx (zz153 g_ x9 x9.Act [(1,.B 4 0),(4,.B 6 0),(5,.B 7 0),(39,.S 2),(40,.I (g_.Edges.length:Int)),(41,.I c)]) J 4 (wn (wq (wg (xw (rg 13 35) (zz153 g_ x9 x9.Act [(1,.B 4 0),(4,.B 6 0),(5,.B 7 0),(39,.S 2),(40,.I (g_.Edges.length:Int)),(41,.I c),(59,.O (decide ((minI (minI (minI (minI x9.From x9.To) x9.Act.From) x9.Act.To) x9.Act.Label) < 0)))]) J 13 ?_)))))))))
  rcases oc h with ⟨hc,h⟩ | ⟨hc,h⟩
  ·refine wy 59 hc Q (wx (zz18 g_ [(1,.B 4 0),(39,.S 2),(40,.I (g_.Edges.length:Int)),(41,.I c),(94,.O true)]) J 35 (wn (wt Q Q (wq (wg (ws J 1 Q (wn ?_)))))))
   cases h
   exact we J Tryz.func62 [] Q Q Q Q
  refine wy 59 hc Q (xw (rg 23 25) (zz116 g_ x9.Act [(1,.B 4 0),(5,.B 7 0),(39,.S 2),(40,.I (g_.Edges.length:Int)),(41,.I c),(69,.O (decide ((maxI x9.From x9.To)≥g_.States)))]) J 10 ?_)
  rcases oc h with ⟨hc,h⟩ | ⟨hc,h⟩
  ·refine wy 69 hc Q (wx (zz18 g_ [(1,.B 4 0),(39,.S 2),(40,.I (g_.Edges.length:Int)),(41,.I c),(94,.O true)]) J 25 (wn (wt Q Q (wq (wg (ws J 1 Q (wn ?_)))))))
   cases h
   exact we J Tryz.func62 [] Q Q Q Q
  refine wy 69 hc Q (xw (rg 34 14) (zz116 g_ x9.Act [(1,.B 4 0),(5,.B 7 0),(39,.S 2),(40,.I (g_.Edges.length:Int)),(41,.I c),(80,.O (decide ((maxI x9.Act.From x9.Act.To)≥(g_.Roles.length:Int))))]) J 11 ?_)
  rcases oc h with ⟨hc,h⟩ | ⟨hc,h⟩
  ·refine wy 80 hc Q (wx (zz18 g_ [(1,.B 4 0),(39,.S 2),(40,.I (g_.Edges.length:Int)),(41,.I c),(94,.O true)]) J 14 (wn (wt Q Q (wq (wg (ws J 1 Q (wn ?_)))))))
   cases h
   exact we J Tryz.func62 [] Q Q Q Q
  refine wy 80 hc Q (xw (rg 41 7) (zz116 g_ x9.Act [(1,.B 4 0),(5,.B 7 0),(39,.S 2),(40,.I (g_.Edges.length:Int)),(41,.I c),(87,.O (x9.Act.From==x9.Act.To))]) J 7 ?_)
  rcases oc h with ⟨hc,h⟩ | ⟨hc,h⟩
  ·refine wy 87 hc Q (wx (zz18 g_ [(1,.B 4 0),(39,.S 2),(40,.I (g_.Edges.length:Int)),(41,.I c),(94,.O true)]) J 7 (wn (wt Q Q (wq (wg (ws J 1 Q (wn ?_)))))))
   cases h
   exact we J Tryz.func62 [] Q Q Q Q
  refine wy 87 hc Q (wx (zz18 g_ [(1,.B 4 0),(39,.S 2),(40,.I (g_.Edges.length:Int)),(41,.I c),(94,.O (decide (x9.Act.Label≥(g_.Decls.length:Int))))]) J 7 (wn ?_))
  rcases oc h with ⟨hc,h⟩ | ⟨hc,h⟩
  ·refine wt hc Q (wq (wg (ws J 1 Q (wn ?_))))
   cases h
   exact we J Tryz.func62 [] Q Q Q Q
  exact wf hc Q (wi (wb (wg (ws J 2 Q (wn (wu [] (ih3 (w64 (c+1)) h) Q Q Q Q))))))
 exact wu [] (ih N 0 h) Q Q Q Q
theorem z175_ct (N:Nat) (l_:(List T0)) (r:(List T3)) (h:z175 N l_=some r) :
 Fn Tryz.prog 175 ⟨1,[.S 0],[(0,.sl rR0 l_)],[],2,.S 1,[],[(1,.own rR3 r true)]⟩:=by
 refine Fn.intro _ _ Tryz.func175 rfl (by kernel_rfl) rfl (fun E F w=>?_)
 unfold z175 at h
 refine wq (wg (ws J 1 Q (wn (wq (wg (ws J 1 Q (wn (wq (wq (wg (wx (zz10 l_ [(2,.c .nil),(3,.c .nil),(6,.S 0),(7,.I (l_.length:Int)),(8,.I 0)]) J 3 (wn ?_))))))))))))
 refine wC (σ:=(List T3)) (fun st=>(zz60 st l_ [(3,.S 1)])) (fun st=>z175_k1 st=some r) ?_ (fun j1=>?_)
 ·intro d h
  replace h:z175_k1 d=some r:=h
  unfold z175_k1 at h
  refine wq (wg (ws J 2 Q (wn ?_)))
  cases h
  exact we J Tryz.func175 [(1,.sl 1)] Q Q Q Q
 refine wo ?_
 refine wI (σ:=(List T3) × Int) (fun st=>(zz60 st.1 l_ [(3,.S 1),(6,.S 0),(7,.I (l_.length:Int)),(8,.I st.2)])) (fun n st=>z175_l2 l_ n st.1 st.2) (r:=r) (fun _=>rfl) ?_ (fun ih=>?_)
 ·intro n2 ih3
  rintro ⟨e,f⟩ h
  replace h:z175_l2 l_ (n2+1) e f=some r:=h
  unfold z175_l2 at h
  refine wq (wg (ws J 1 Q (wn (wq ?_))))
  rcases oc' h with ⟨hc,h⟩ | ⟨hc,h⟩
  ·exact wf hc Q (wz rfl (wu [] (j1 e h) Q Q Q Q))
  refine wt hc Q (wi (wq (wo (wq (wg ?_)))))
  obtain ⟨g,i,h⟩:=ob h
  refine wj oO0 J i Q Q Q Q Q Q Q Q Q (wx (zz43 e g l_ [(3,.S 1),(5,.B 6 0),(6,.S 0),(7,.I (l_.length:Int)),(8,.I f)]) J 3 (wn (wg (xw [3,4] ⟨[(6,.S 0),(7,.I (l_.length:Int)),(8,.I f),(12,.S 1),(14,.S 3)],[(1,.own rR3 e true)],[(0,.sl rR0 l_),(3,.sl rR3 g.Fields)],7⟩ J 3 ?_))))
  obtain ⟨j,k,h⟩:=ob h
  exact WPr.app J k (by exact (srcI rfl)) Q Q Q Q Q Q Q Q Q Q (wx ⟨[(3,.S 7),(6,.S 0),(7,.I (l_.length:Int)),(8,.I f)],[(7,.own rR3 j true)],[(0,.sl rR0 l_)],8⟩ J 1 (wn (wb (wg (ws J 2 Q (wn (wu [(1,.sl 7)] (ih3 (j,(w64 (f+1))) h) Q Q Q Q)))))))
 exact wu [(1,.nil)] (ih N (([]:List T3),0) h) Q Q Q Q
theorem z196_ct (N:Nat) (s_:ByteArray) (r:Int) (h:z196 N s_=some r) :
 Fn Tryz.prog 196 ⟨0,[.c (.s s_)],[],[],0,.I r,[],[]⟩:=by
 refine Fn.intro _ _ Tryz.func196 rfl (by kernel_rfl) rfl (fun E F w=>?_)
 unfold z196 at h
 refine wq (wg (ws J 1 Q (wn (wq (wq (wg (ws J 1 Q ?_)))))))
 cases h
theorem z200_ct (N:Nat) (s_:ByteArray) (r:Int × Int) (h:z200 N s_=some r) :
 Fn Tryz.prog 200 ⟨0,[.c (.s s_)],[],[],0,.t [.inl (.i .i32 r.1),.inl (.I r.2)],[],[]⟩:=by
 refine Fn.intro _ _ Tryz.func200 rfl (by kernel_rfl) rfl (fun E F w=>?_)
 unfold z200 at h
 refine wq (wg (ws J 2 Q (wn (wq (wg (wx (zz0 [(0,.c (.s s_)),(2,.c (.i .i32 0)),(3,.I 0),(4,.I (s_.size:Int))]) J 3 (wn (wq (wq (wg (ws J 2 Q (wn ?_))))))))))))
 rcases oc h with ⟨hc,h⟩ | ⟨hc,h⟩
 ·refine wt hc Q (wq (wg (wx (zz0 [(2,.c (.i .i32 65533)),(3,.I 0)]) J 2 (wn ?_))))
  cases h
  exact we J Tryz.func200 [] Q Q Q Q
 refine wf hc Q (wi (wq (wg (xw [1,2] (zz0 [(0,.c (.s s_)),(2,.c (.i .i32 0)),(3,.I 0),(4,.I (s_.size:Int)),(17,.c (.s s_))]) J 1 ?_))))
 obtain ⟨x1,d,h⟩:=ob h
 refine WPr.sx J d Q Q Q Q Q Q Q Q Q (ws J 1 Q (wn (wq (wg (xw [1,2,3] (zz0 [(0,.c (.s s_)),(2,.c (.i .i32 0)),(3,.I 0),(4,.I (s_.size:Int)),(5,.c (.i .u8 x1)),(19,.c (.i .u8 x1))]) J 1 ?_)))))
 cases h
theorem z197_ct (N:Nat) (s_:ByteArray) (r:Int × Int) (h:z197 N s_=some r) :
 Fn Tryz.prog 197 ⟨0,[.c (.s s_)],[],[],0,.t [.inl (.i .i32 r.1),.inl (.I r.2)],[],[]⟩:=by
 refine Fn.intro _ _ Tryz.func197 rfl (by kernel_rfl) rfl (fun E F w=>?_)
 unfold z197 at h
 refine wq (wg (ws J 2 Q (wn (wq (wq (wg (xw [3,4,5,6] (zz0 [(0,.c (.s s_)),(2,.c (.i .i32 0)),(3,.I 0),(6,.O (!(s_.toList==(str []).toList)))]) J 3 ?_)))))))
 rcases oc' h with ⟨hc,h⟩ | ⟨hc,h⟩
 ·refine wy 6 hc Q (wx (zz0 [(0,.c (.s s_)),(2,.c (.i .i32 0)),(3,.I 0),(10,.O false)]) J 4 (wn (wf Q Q (wg (ws J 1 Q ?_)))))
  obtain ⟨x4,d,h⟩:=ob h
  refine wc (z200_ct N s_ _ d) [] [] Q Q Q Q Q Q Q Q (.inl rfl) rfl (wx (zz0 [(2,.c (.i .i32 x4.1)),(3,.I x4.2)]) J 5 (wn ?_))
  cases h
  exact we J Tryz.func197 [] Q Q Q Q
 refine wy 6 hc Q (ws J 1 Q ?_)
 obtain ⟨x1,e,h⟩:=ob h
 refine WPr.sx J e Q Q Q Q Q Q Q Q Q (wx (zz0 [(0,.c (.s s_)),(2,.c (.i .i32 0)),(3,.I 0),(10,.O (decide (x1 < 128)))]) J 2 (wn ?_))
 rcases oc h with ⟨hc,h⟩ | ⟨hc,h⟩
 ·refine wt hc Q (wq (wg (ws J 1 Q ?_)))
  obtain ⟨x2,f,h⟩:=ob h
  refine WPr.sx J f Q Q Q Q Q Q Q Q Q (wx (zz0 [(2,.c (.i .i32 (wk .i32 (x2)))),(3,.I 1)]) J 3 (wn ?_))
  cases h
  exact we J Tryz.func197 [] Q Q Q Q
 refine wf hc Q (wg (ws J 1 Q ?_))
 obtain ⟨x3,g,h⟩:=ob h
 refine wc (z200_ct N s_ _ g) [] [] Q Q Q Q Q Q Q Q (.inl rfl) rfl (wx (zz0 [(2,.c (.i .i32 x3.1)),(3,.I x3.2)]) J 5 (wn ?_))
 cases h
 exact we J Tryz.func197 [] Q Q Q Q
theorem z193_ct (N:Nat) (s_:ByteArray) (n_:Int) (r:(List ByteArray)) (h:z193 N s_ n_=some r) :
 Fn Tryz.prog 193 ⟨0,[.c (.s s_),.I n_],[],[],1,.S 0,[],[(0,.own rS r true)]⟩:=by
 refine Fn.intro _ _ Tryz.func193 rfl (by kernel_rfl) rfl (fun E F w=>?_)
 unfold z193 at h
 refine wq (wg (ws J 1 Q (wn (wq (wg (ws J 1 Q ?_))))))
 obtain ⟨x1,d,h⟩:=ob h
 refine wc (z196_ct N s_ _ d) [] [] Q Q Q Q Q Q Q Q (.inl rfl) rfl (wx (zz0 [(0,.c (.s s_)),(1,.I n_),(4,.c .nil),(5,.I x1)]) J 1 (wn (wq (wq (wg (xw [3,4,5,6] (zz0 [(0,.c (.s s_)),(1,.I n_),(4,.c .nil),(5,.I x1),(14,.O (decide (n_ < 0)))]) J 3 ?_))))))
 refine WP.cutr (σ:=Bool) (fun st=>(zz0 [(0,.c (.s s_)),(1,.I n_),(5,.I x1),(18,.O st)])) (fun st=>z193_k4 N s_ n_ x1 st=some r) ?_ (fun j1=>?_)
 ·intro e h
  replace h:z193_k4 N s_ n_ x1 e=some r:=h
  unfold z193_k4 at h
  refine wC (σ:=Int) (fun st=>(zz0 [(0,.c (.s s_)),(1,.I st)])) (fun st=>z193_k3 N s_ st=some r) ?_ (fun j2=>?_)
  ·intro f h
   replace h:z193_k3 N s_ f=some r:=h
   unfold z193_k3 at h
   refine wq (wg (ws J 1 Q ?_))
   obtain ⟨x2,g,h⟩:=ob h
   refine WPr.mk oS J (str []) g Q Q Q Q Q Q Q Q (by exact an Q Q) rfl (wx (zz16 x2 [(0,.c (.s s_)),(1,.I f),(6,.S 0)]) J 1 (wn (wq (wq (wg (ws J 1 Q (wn ?_)))))))
   refine wC (σ:=ByteArray × (List ByteArray)) (fun st=>(zz16 st.2 [(0,.c (.s st.1)),(1,.I f),(6,.S 0)])) (fun st=>z193_k1 f st.1 st.2=some r) ?_ (fun j3=>?_)
   ·rintro ⟨i,j⟩ h
    replace h:z193_k1 f i j=some r:=h
    unfold z193_k1 at h
    refine wq (wq (wg (ws J 2 Q (wn ?_))))
    rcases oc' h with ⟨hc,h⟩ | ⟨hc,h⟩
    ·refine wf hc Q (wi (wq (wg (wx (zz16 j [(4,.S 0)]) J 2 (wn ?_)))))
     cases h
     exact we J Tryz.func193 [(0,.sl 0)] Q Q Q Q
    refine wt hc Q (wg (xw [4,5] (zz16 j [(6,.S 0),(44,.S 0),(46,.I (w64 (f-1))),(47,.c (.s i))]) J 4 ?_))
    obtain ⟨k,m,h⟩:=ob h
    refine wX J m Q Q Q Q Q Q Q Q Q (WPr.sto oS J i m Q Q Q Q Q Q Q Q Q Q (by exact rfl) rfl (wn (wq (wg (wx (zz44 (setL' j (w64 (f-1)) i) [(4,.S 0)]) J 2 (wn ?_))))))
    cases h
    exact we J Tryz.func193 [(0,.sl 0)] Q Q Q Q
   refine wo ?_
   refine wI (σ:=ByteArray × (List ByteArray) × Int) (fun st=>(zz16 st.2.1 [(0,.c (.s st.1)),(1,.I f),(6,.S 0),(7,.I st.2.2)])) (fun n st=>z193_l2 N f n st.1 st.2.1 st.2.2) (r:=r) (fun _=>rfl) ?_ (fun ih=>?_)
   ·intro n2 ih5
    rintro ⟨o,p,q⟩ h
    replace h:z193_l2 N f (n2+1) o p q=some r:=h
    unfold z193_l2 at h
    refine wq (wq (wg (wx (zz16 p [(0,.c (.s o)),(1,.I f),(6,.S 0),(7,.I q),(25,.O (decide (q < (w64 (f-1)))))]) J 4 (wn ?_))))
    rcases oc' h with ⟨hc,h⟩ | ⟨hc,h⟩
    ·exact wf hc Q (wz rfl (wu [] (j3 (o,p) h) Q Q Q Q))
    refine wt hc Q (wi (wq (wo (wq (wg (ws J 1 Q ?_))))))
    obtain ⟨t,u,h⟩:=ob h
    refine wc (z197_ct N o _ u) [] [] Q Q Q Q Q Q Q Q (.inl rfl) rfl (wx (zz16 p [(0,.c (.s o)),(1,.I f),(6,.S 0),(7,.I q),(9,.I t.2)]) J 5 (wn (wq (wg (xw [4,5,6] (zz16 p [(0,.c (.s o)),(1,.I f),(6,.S 0),(7,.I q),(9,.I t.2),(33,.S 0),(34,.I q),(35,.c (.s o)),(36,.I t.2)]) J 4 ?_)))))
    obtain ⟨v,x,h⟩:=ob h
    refine WPr.ssl J (l:=none) (h:=some (.i64,t.2)) x Q Q Q Q Q Q Q Q Q Q ?_
    obtain ⟨y,z,h⟩:=ob h
    refine wX J z Q Q Q Q Q Q Q Q Q (WPr.sto oS J v z Q Q Q Q Q Q Q Q Q Q (by exact rfl) rfl (wx (zz44 (setL' p q v) [(0,.c (.s o)),(1,.I f),(6,.S 0),(7,.I q),(9,.I t.2)]) J 0 (wn (wg (ws J 2 Q ?_)))))
    obtain ⟨A,C,h⟩:=ob h
    exact WPr.ssl J (l:=some (.i64,t.2)) (h:=none) C Q Q Q Q Q Q Q Q Q Q (wx (zz44 (setL' p q v) [(0,.c (.s A)),(1,.I f),(6,.S 0),(7,.I q)]) J 1 (wn (wb (wg (wx (zz44 (setL' p q v) [(0,.c (.s A)),(1,.I f),(6,.S 0),(7,.I (w64 (q+1)))]) J 3 (wn (wu [] (ih5 (A,(setL' p q v),(w64 (q+1))) h) Q Q Q Q)))))))
   exact wu [] (ih N (s_,x2,0) h) Q Q Q Q
  rcases oc h with ⟨hc,h⟩ | ⟨hc,h⟩
  ·exact wt hc Q (wg (ws J 2 Q (wn (wu [] (j2 x1 h) Q Q Q Q))))
  exact wf hc Q (wi (wu [] (j2 n_ h) Q Q Q Q))
 rcases oc h with ⟨hc,h⟩ | ⟨hc,h⟩
 ·exact wy 14 hc Q (wx (zz0 [(0,.c (.s s_)),(1,.I n_),(4,.c .nil),(5,.I x1),(18,.O true)]) J 4 (wn (wu [] (j1 true h) Q Q Q Q)))
 exact wy 14 hc Q (wx (zz0 [(0,.c (.s s_)),(1,.I n_),(4,.c .nil),(5,.I x1),(18,.O (decide (n_ > x1)))]) J 4 (wn (wu [] (j1 (decide (n_ > x1)) h) Q Q Q Q)))
theorem z201_ct (N:Nat) (s_:ByteArray) (c_:Int) (r:Int) (h:z201 N s_ c_=some r) :
 Fn Tryz.prog 201 ⟨0,[.c (.s s_),.c (.i .u8 c_)],[],[],0,.I r,[],[]⟩:=by
 refine Fn.intro _ _ Tryz.func201 rfl (by kernel_rfl) rfl (fun E F w=>?_)
 unfold z201 at h
 refine wq (wg (ws J 1 Q (wn (wq (wg (xw [2,3] (zz0 [(5,.c (.s s_)),(6,.c (.i .u8 c_))]) J 2 (WPr.ext (ext_indexByte Tryz.func205 (by kernel_rfl) (by kernel_rfl) (by kernel_rfl) (by kernel_rfl) s_ c_) (fun _=>trivial) Q Q Q Q Q Q (wx (zz0 [(4,.I (firstB s_ c_))]) J 1 (wn ?_)))))))))
 cases h
 exact we J Tryz.func201 [] Q Q Q Q
theorem z199_ct (N:Nat) (s_:ByteArray) (substr_:ByteArray) (r:Int) (h:z199 N s_ substr_=some r) :
 Fn Tryz.prog 199 ⟨0,[.c (.s s_),.c (.s substr_)],[],[],0,.I r,[],[]⟩:=by
 refine Fn.intro _ _ Tryz.func199 rfl (by kernel_rfl) rfl (fun E F w=>?_)
 unfold z199 at h
 refine wq (wg (ws J 1 Q (wn (wq (wg (wx (zz0 [(0,.c (.s s_)),(1,.c (.s substr_)),(4,.I 0),(5,.I (substr_.size:Int))]) J 3 (wn (wq (wo (wq (wg (xw [3,4,5,6,7] (zz0 [(0,.c (.s s_)),(1,.c (.s substr_)),(4,.I 0),(5,.I (substr_.size:Int)),(19,.O ((substr_.size:Int)==0))]) J 3 ?_))))))))))))
 rcases oc h with ⟨hc,h⟩ | ⟨hc,h⟩
 ·refine wy 19 hc Q (wx (zz0 [(0,.c (.s s_)),(1,.c (.s substr_)),(4,.I 0),(5,.I (substr_.size:Int)),(16,.O true)]) J 5 (wn (wt Q Q (wq (wg (ws J 1 Q (wn ?_)))))))
  cases h
  exact we J Tryz.func199 [] Q Q Q Q
 refine wy 19 hc Q (wx (zz0 [(0,.c (.s s_)),(1,.c (.s substr_)),(4,.I 0),(5,.I (substr_.size:Int)),(16,.O (substr_.toList==s_.toList))]) J 5 (wn ?_))
 rcases oc h with ⟨hc,h⟩ | ⟨hc,h⟩
 ·refine wt hc Q (wq (wg (ws J 1 Q (wn ?_))))
  cases h
  exact we J Tryz.func199 [] Q Q Q Q
 refine wf hc Q (wq (wg (wx (zz0 [(0,.c (.s s_)),(1,.c (.s substr_)),(4,.I 0),(5,.I (substr_.size:Int)),(24,.O ((substr_.size:Int)==1))]) J 3 (wn ?_))))
 rcases oc h with ⟨hc,h⟩ | ⟨hc,h⟩
 ·refine wt hc Q (wq (wg (ws J 2 Q ?_)))
  obtain ⟨x1,d,h⟩:=ob h
  refine WPr.sx J d Q Q Q Q Q Q Q Q Q (xw [3,4] (zz0 [(27,.c (.s s_)),(29,.c (.i .u8 x1))]) J 0 ?_)
  obtain ⟨x2,e,h⟩:=ob h
  refine wc (z201_ct N s_ x1 _ e) [] [] Q Q Q Q Q Q Q Q (.inl rfl) rfl (wx (zz0 [(4,.I x2)]) J 1 (wn ?_))
  cases h
  exact we J Tryz.func199 [] Q Q Q Q
 refine wf hc Q (wq (wg (wx (zz0 [(0,.c (.s s_)),(1,.c (.s substr_)),(4,.I 0),(5,.I (substr_.size:Int)),(31,.O (decide ((substr_.size:Int)≥(s_.size:Int))))]) J 5 (wn ?_))))
 rcases oc h with ⟨hc,h⟩ | ⟨hc,h⟩
 ·refine wt hc Q (wq (wg (ws J 1 Q (wn ?_))))
  cases h
  exact we J Tryz.func199 [] Q Q Q Q
 refine wf hc Q (wq (wg (ws J 1 Q ?_)))
 cases h
theorem z195_ct (N:Nat) (s_:ByteArray) (substr_:ByteArray) (r:Int) (h:z195 N s_ substr_=some r) :
 Fn Tryz.prog 195 ⟨0,[.c (.s s_),.c (.s substr_)],[],[],0,.I r,[],[]⟩:=by
 refine Fn.intro _ _ Tryz.func195 rfl (by kernel_rfl) rfl (fun E F w=>?_)
 unfold z195 at h
 refine wq (wg (ws J 1 Q (wn (wq (wg (xw [2,3] (zz0 [(5,.c (.s s_)),(6,.c (.s substr_))]) J 2 ?_))))))
 obtain ⟨x1,d,h⟩:=ob h
 refine wc (z199_ct N s_ substr_ _ d) [] [] Q Q Q Q Q Q Q Q (.inl rfl) rfl (wx (zz0 [(4,.I x1)]) J 1 (wn ?_))
 cases h
 exact we J Tryz.func195 [] Q Q Q Q
theorem z194_ct (N:Nat) (s_:ByteArray) (substr_:ByteArray) (r:Int) (h:z194 N s_ substr_=some r) :
 Fn Tryz.prog 194 ⟨0,[.c (.s s_),.c (.s substr_)],[],[],0,.I r,[],[]⟩:=by
 refine Fn.intro _ _ Tryz.func194 rfl (by kernel_rfl) rfl (fun E F w=>?_)
 unfold z194 at h
 refine wq (wg (ws J 1 Q (wn (wq (wq (wg (wx (zz0 [(0,.c (.s s_)),(1,.c (.s substr_)),(4,.I 0),(9,.O ((substr_.size:Int)==0))]) J 3 (wn ?_))))))))
 rcases oc h with ⟨hc,h⟩ | ⟨hc,h⟩
 ·refine wt hc Q (wq (wg (ws J 1 Q ?_)))
  obtain ⟨x1,d,h⟩:=ob h
  refine wc (z196_ct N s_ _ d) [] [] Q Q Q Q Q Q Q Q (.inl rfl) rfl (wx (zz0 [(4,.I (w64 (x1+1)))]) J 2 (wn ?_))
  cases h
  exact we J Tryz.func194 [] Q Q Q Q
 refine wf hc Q (wi (wq (wq (wg (wx (zz0 [(0,.c (.s s_)),(1,.c (.s substr_)),(4,.I 0),(15,.O ((substr_.size:Int)==1))]) J 3 (wn ?_))))))
 rcases oc h with ⟨hc,h⟩ | ⟨hc,h⟩
 ·refine wt hc Q (wq (wg (ws J 2 Q ?_)))
  obtain ⟨x2,e,h⟩:=ob h
  refine WPr.sx J e Q Q Q Q Q Q Q Q Q (xw [3,4] (zz0 [(16,.c (.s s_)),(18,.c (.i .u8 x2))]) J 0 (WPr.ext (ext_countByte Tryz.func198 (by kernel_rfl) (by kernel_rfl) (by kernel_rfl) (by kernel_rfl) s_ x2) (fun _=>trivial) Q Q Q Q Q Q (wx (zz0 [(4,.I (countB s_ x2))]) J 1 (wn ?_))))
  cases h
  exact we J Tryz.func194 [] Q Q Q Q
 refine wf hc Q (wi (wq (wg (ws J 1 Q (wn (wo ?_))))))
 refine wI (σ:=ByteArray × Int) (fun st=>(zz0 [(0,.c (.s st.1)),(1,.c (.s substr_)),(5,.I st.2)])) (fun n st=>z194_l1 N substr_ n st.1 st.2) (r:=r) (fun _=>rfl) ?_ (fun ih=>?_)
 ·intro n1 ih1
  rintro ⟨f,g⟩ h
  replace h:z194_l1 N substr_ (n1+1) f g=some r:=h
  unfold z194_l1 at h
  refine wo (wq (wg (ws J 2 Q ?_)))
  obtain ⟨j,k,h⟩:=ob h
  refine wc (z195_ct N f substr_ _ k) [] [] Q Q Q Q Q Q Q Q (.inl rfl) rfl (wx (zz0 [(0,.c (.s f)),(1,.c (.s substr_)),(5,.I g),(6,.I j)]) J 1 (wn (wq (wq (wg (ws J 2 Q (wn ?_)))))))
  rcases oc h with ⟨hc,h⟩ | ⟨hc,h⟩
  ·refine wt hc Q (wq (wg (wx (zz0 [(4,.I g)]) J 2 (wn ?_))))
   cases h
   exact we J Tryz.func194 [] Q Q Q Q
  refine wf hc Q (wi (wq (wg (wx (zz0 [(0,.c (.s f)),(1,.c (.s substr_)),(5,.I (w64 (g+1))),(6,.I j)]) J 3 (wn (wg (xw [5,6] (zz0 [(1,.c (.s substr_)),(5,.I (w64 (g+1))),(28,.c (.s f)),(32,.I (w64 (j+(substr_.size:Int))))]) J 5 ?_)))))))
  obtain ⟨m,o,h⟩:=ob h
  exact WPr.ssl J (l:=some (.i64,(w64 (j+(substr_.size:Int))))) (h:=none) o Q Q Q Q Q Q Q Q Q Q (ws J 1 Q (wn (wb (wu [] (ih1 (m,(w64 (g+1))) h) Q Q Q Q))))
 exact wu [] (ih N (s_,0) h) Q Q Q Q
theorem z192_ct (N:Nat) (s_:ByteArray) (sep_:ByteArray) (sepSave_:Int) (n_:Int) (r:(List ByteArray)) (h:z192 N s_ sep_ sepSave_ n_=some r) :
 Fn Tryz.prog 192 ⟨0,[.c (.s s_),.c (.s sep_),.I sepSave_,.I n_],[],[],1,.S 0,[],[(0,.own rS r true)]⟩:=by
 refine Fn.intro _ _ Tryz.func192 rfl (by kernel_rfl) rfl (fun E F w=>?_)
 unfold z192 at h
 refine wq (wg (ws J 1 Q (wn (wq (wq (wg (wx (zz0 [(0,.c (.s s_)),(1,.c (.s sep_)),(2,.I sepSave_),(3,.I n_),(8,.c .nil),(13,.O (n_==0))]) J 2 (wn ?_))))))))
 rcases oc h with ⟨hc,h⟩ | ⟨hc,h⟩
 ·refine wt hc Q (wq (wg (ws J 1 Q (wn ?_))))
  cases h
  exact we J Tryz.func192 [(0,.nil)] Q Q Q Q
 refine wf hc Q (wi (wq (wq (wg (ws J 2 Q (wn ?_))))))
 rcases oc h with ⟨hc,h⟩ | ⟨hc,h⟩
 ·refine wt hc Q (wq (wg (xw [2,3] (zz0 [(16,.c (.s s_)),(17,.I n_)]) J 2 ?_)))
  obtain ⟨x1,d,h⟩:=ob h
  refine wc (z193_ct N s_ n_ _ d) [] [] Q Q Q Q Q Q Q Q (.inl rfl) rfl (wx (zz16 x1 [(8,.S 0)]) J 1 (wn ?_))
  cases h
  exact we J Tryz.func192 [(0,.sl 0)] Q Q Q Q
 refine wf hc Q (wi (wq (wq (wg (wx (zz0 [(0,.c (.s s_)),(1,.c (.s sep_)),(2,.I sepSave_),(3,.I n_),(8,.c .nil),(20,.O (decide (n_ < 0)))]) J 2 (wn ?_))))))
 refine wC (σ:=Int) (fun st=>(zz0 [(0,.c (.s s_)),(1,.c (.s sep_)),(2,.I sepSave_),(3,.I st)])) (fun st=>z192_k3 N s_ sep_ sepSave_ st=some r) ?_ (fun j1=>?_)
 ·intro e h
  replace h:z192_k3 N s_ sep_ sepSave_ e=some r:=h
  unfold z192_k3 at h
  refine wq (wg (wx (zz0 [(0,.c (.s s_)),(1,.c (.s sep_)),(2,.I sepSave_),(3,.I (minI e (w64 ((s_.size:Int)+1))))]) J 6 (wn (wq (wg (ws J 1 Q ?_))))))
  obtain ⟨x3,f,h⟩:=ob h
  refine WPr.mk oS J (str []) f Q Q Q Q Q Q Q Q (by exact an Q Q) rfl (wx (zz16 x3 [(0,.c (.s s_)),(1,.c (.s sep_)),(2,.I sepSave_),(3,.I (minI e (w64 ((s_.size:Int)+1)))),(9,.S 0)]) J 1 (wn (wq (wg (wx (zz16 x3 [(0,.c (.s s_)),(1,.c (.s sep_)),(2,.I sepSave_),(3,.I (w64 ((minI e (w64 ((s_.size:Int)+1)))-1))),(9,.S 0)]) J 3 (wn (wq (wg (ws J 1 Q (wn (wq ?_)))))))))))
  refine wC (σ:=ByteArray × (List ByteArray) × Int) (fun st=>(zz16 st.2.1 [(0,.c (.s st.1)),(9,.S 0),(10,.I st.2.2)])) (fun st=>z192_k1 st.1 st.2.1 st.2.2=some r) ?_ (fun j2=>?_)
  ·rintro ⟨g,i,j⟩ h
   replace h:z192_k1 g i j=some r:=h
   unfold z192_k1 at h
   refine wq (wg (xw [3,4] (zz16 i [(9,.S 0),(10,.I j),(58,.S 0),(59,.I j),(60,.c (.s g))]) J 3 ?_))
   obtain ⟨k,m,h⟩:=ob h
   refine wX J m Q Q Q Q Q Q Q Q Q (WPr.sto oS J g m Q Q Q Q Q Q Q Q Q Q (by exact rfl) rfl (wn (wq (wg (xw [3,4] (zz44 (setL' i j g) [(62,.S 0),(64,.I (w64 (j+1)))]) J 3 ?_)))))
   obtain ⟨o,p,h⟩:=ob h
   refine WPr.vw J (l:=none) (h:=some (.i64,(w64 (j+1)))) p Q Q Q Q Q Q Q Q Q Q (ws J 1 Q (wn (WP.stl 2 p Q Q Q ?_)))
   cases h
   exact we J Tryz.func192 [(0,.sl 2)] Q Q Q Q
  refine wo ?_
  refine wI (σ:=ByteArray × (List ByteArray) × Int) (fun st=>(zz16 st.2.1 [(0,.c (.s st.1)),(1,.c (.s sep_)),(2,.I sepSave_),(3,.I (w64 ((minI e (w64 ((s_.size:Int)+1)))-1))),(9,.S 0),(10,.I st.2.2)])) (fun n st=>z192_l2 N s_ sep_ sepSave_ e n st.1 st.2.1 st.2.2) (r:=r) (fun _=>rfl) ?_ (fun ih=>?_)
  ·intro n2 ih4
   rintro ⟨q,t,u⟩ h
   replace h:z192_l2 N s_ sep_ sepSave_ e (n2+1) q t u=some r:=h
   unfold z192_l2 at h
   refine wq (wq (wg (wx (zz16 t [(0,.c (.s q)),(1,.c (.s sep_)),(2,.I sepSave_),(3,.I (w64 ((minI e (w64 ((s_.size:Int)+1)))-1))),(9,.S 0),(10,.I u),(36,.O (decide (u < (w64 ((minI e (w64 ((s_.size:Int)+1)))-1)))))]) J 3 (wn ?_))))
   rcases oc' h with ⟨hc,h⟩ | ⟨hc,h⟩
   ·exact wf hc Q (wz rfl (wu [] (j2 (q,t,u) h) Q Q Q Q))
   refine wt hc Q (wi (wo (wq (wg (ws J 2 Q ?_)))))
   obtain ⟨v,x,h⟩:=ob h
   refine wc (z195_ct N q sep_ _ x) [] [] Q Q Q Q Q Q Q Q (.inl rfl) rfl (wx (zz16 t [(0,.c (.s q)),(1,.c (.s sep_)),(2,.I sepSave_),(3,.I (w64 ((minI e (w64 ((s_.size:Int)+1)))-1))),(9,.S 0),(10,.I u),(11,.I v)]) J 1 (wn (wq (wq (wg (ws J 2 Q (wn ?_)))))))
   rcases oc h with ⟨hc,h⟩ | ⟨hc,h⟩
   ·exact wt hc Q (wz rfl (wu [] (j2 (q,t,u) h) Q Q Q Q))
   refine wf hc Q (wi (wq (wg (xw [6,7,8] (zz16 t [(0,.c (.s q)),(1,.c (.s sep_)),(2,.I sepSave_),(3,.I (w64 ((minI e (w64 ((s_.size:Int)+1)))-1))),(9,.S 0),(10,.I u),(11,.I v),(42,.S 0),(43,.I u),(44,.c (.s q)),(47,.I (w64 (v+sepSave_)))]) J 6 ?_))))
   obtain ⟨y,z,h⟩:=ob h
   refine WPr.ssl J (l:=none) (h:=some (.i64,(w64 (v+sepSave_)))) z Q Q Q Q Q Q Q Q Q Q ?_
   obtain ⟨A,C,h⟩:=ob h
   refine wX J C Q Q Q Q Q Q Q Q Q (WPr.sto oS J y C Q Q Q Q Q Q Q Q Q Q (by exact rfl) rfl (wx (zz44 (setL' t u y) [(0,.c (.s q)),(1,.c (.s sep_)),(2,.I sepSave_),(3,.I (w64 ((minI e (w64 ((s_.size:Int)+1)))-1))),(9,.S 0),(10,.I u),(11,.I v)]) J 0 (wn (wq (wg (xw [5,6] (zz44 (setL' t u y) [(1,.c (.s sep_)),(2,.I sepSave_),(3,.I (w64 ((minI e (w64 ((s_.size:Int)+1)))-1))),(9,.S 0),(10,.I u),(50,.c (.s q)),(54,.I (w64 (v+(sep_.size:Int))))]) J 5 ?_))))))
   obtain ⟨D,G,h⟩:=ob h
   exact WPr.ssl J (l:=some (.i64,(w64 (v+(sep_.size:Int))))) (h:=none) G Q Q Q Q Q Q Q Q Q Q (ws J 1 Q (wn (wg (wx (zz44 (setL' t u y) [(0,.c (.s D)),(1,.c (.s sep_)),(2,.I sepSave_),(3,.I (w64 ((minI e (w64 ((s_.size:Int)+1)))-1))),(9,.S 0),(10,.I (w64 (u+1)))]) J 3 (wn (wb (wu [] (ih4 (D,(setL' t u y),(w64 (u+1))) h) Q Q Q Q)))))))
  exact wu [] (ih N (s_,x3,0) h) Q Q Q Q
 rcases oc' h with ⟨hc,h⟩ | ⟨hc,h⟩
 ·exact wf hc Q (wi (wu [] (j1 n_ h) Q Q Q Q))
 refine wt hc Q (wg (ws J 2 Q ?_))
 obtain ⟨H,K,h⟩:=ob h
 exact wc (z194_ct N s_ sep_ _ K) [] [] Q Q Q Q Q Q Q Q (.inl rfl) rfl (wx (zz0 [(0,.c (.s s_)),(1,.c (.s sep_)),(2,.I sepSave_),(3,.I (w64 (H+1))),(8,.c .nil)]) J 2 (wn (wu [] (j1 (w64 (H+1)) h) Q Q Q Q)))
theorem z188_ct (N:Nat) (s_:ByteArray) (sep_:ByteArray) (r:(List ByteArray)) (h:z188 N s_ sep_=some r) :
 Fn Tryz.prog 188 ⟨0,[.c (.s s_),.c (.s sep_)],[],[],1,.S 0,[],[(0,.own rS r true)]⟩:=by
 refine Fn.intro _ _ Tryz.func188 rfl (by kernel_rfl) rfl (fun E F w=>?_)
 unfold z188 at h
 refine wq (wg (ws J 1 Q (wn (wq (wg (xw [2,3] (zz0 [(5,.c (.s s_)),(6,.c (.s sep_))]) J 2 ?_))))))
 obtain ⟨x1,d,h⟩:=ob h
 refine wc (z192_ct N s_ sep_ 0 (-1) _ d) [] [] Q Q Q Q Q Q Q Q (.inl rfl) rfl (wx (zz16 x1 [(4,.S 0)]) J 1 (wn ?_))
 cases h
 exact we J Tryz.func188 [(0,.sl 0)] Q Q Q Q
theorem z189_ct (N:Nat) (w_:ByteArray) (r:Bool) (h:z189 N w_=some r) :
 Fn Tryz.prog 189 ⟨0,[.c (.s w_)],[],[],0,.O r,[],[]⟩:=by
 refine Fn.intro _ _ Tryz.func189 rfl (by kernel_rfl) rfl (fun E F w=>?_)
 unfold z189 at h
 refine wq (wg (ws J 1 Q (wn (wq (wg (ws J 1 Q ?_))))))
 obtain ⟨x1,d,h⟩:=ob h
 refine wc (z120_ct N w_ _ d) [] [] Q Q Q Q Q Q Q Q (.inl rfl) rfl (wx (zz0 [(2,.O (!x1))]) J 2 (wn ?_))
 cases h
 exact we J Tryz.func189 [] Q Q Q Q
theorem z191_0_ct (N:Nat) (s_:(List ByteArray)) (r:Int) (h:z191_0 N s_=some r) :
 Fn Tryz.prog 191 ⟨1,[.S 0,.c (.cl 189 [] [])],[(0,.sl rS s_)],[],1,.I r,[],[]⟩:=by
 refine Fn.intro _ _ Tryz.func191 rfl (by kernel_rfl) rfl (fun E F w=>?_)
 unfold z191_0 at h
 refine wq (wg (ws J 1 Q (wn (wq (wq (wg (wx (zz13 s_ [(0,.S 0),(1,.c (.cl 189 [] [])),(4,.I 0),(7,.I (s_.length:Int)),(8,.I 0)]) J 3 (wn ?_))))))))
 refine wC (σ:=Unit) (fun st=>(zz13 s_ [])) (fun st=>z191_0_k1=some r) ?_ (fun j1=>?_)
 ·intro _ h
  replace h:z191_0_k1=some r:=h
  unfold z191_0_k1 at h
  refine wq (wg (ws J 1 Q (wn ?_)))
  cases h
  exact we J Tryz.func191 [] Q Q Q Q
 refine wo ?_
 refine wI (σ:=Int) (fun st=>(zz13 s_ [(0,.S 0),(1,.c (.cl 189 [] [])),(7,.I (s_.length:Int)),(8,.I st)])) (fun n st=>z191_0_l2 N s_ n st) (r:=r) (fun _=>rfl) ?_ (fun ih=>?_)
 ·intro n2 ih3
  intro d h
  replace h:z191_0_l2 N s_ (n2+1) d=some r:=h
  unfold z191_0_l2 at h
  refine wq (wg (ws J 1 Q (wn (wq ?_))))
  rcases oc' h with ⟨hc,h⟩ | ⟨hc,h⟩
  ·exact wf hc Q (wz rfl (wu [] (j1 () h) Q Q Q Q))
  refine wt hc Q (wi (wq (wo (wq (wg (wx (zz13 s_ [(0,.S 0),(1,.c (.cl 189 [] [])),(5,.I d),(7,.I (s_.length:Int)),(8,.I d)]) J 2 (wn (wq (wg (xw [3,4,5] (zz13 s_ [(0,.S 0),(1,.c (.cl 189 [] [])),(5,.I d),(7,.I (s_.length:Int)),(8,.I d),(11,.c (.cl 189 [] [])),(12,.S 0),(13,.I d)]) J 3 ?_))))))))))
  obtain ⟨e,f,h⟩:=ob h
  refine wj oS J f Q Q Q Q Q Q Q Q Q (ws J 1 Q ?_)
  obtain ⟨g,i,h⟩:=ob h
  refine WPr.callc (z189_ct N e _ i) [] [] Q Q Q Q Q Q Q Q Q (.inl rfl) rfl (wx (zz59 s_ [(0,.S 0),(1,.c (.cl 189 [] [])),(5,.I d),(7,.I (s_.length:Int)),(8,.I d),(16,.O g)]) J 0 (wn ?_))
  rcases oc h with ⟨hc,h⟩ | ⟨hc,h⟩
  ·refine wt hc Q (wq (wg (ws J 2 Q (wn ?_))))
   cases h
   exact we J Tryz.func191 [] Q Q Q Q
  exact wf hc Q (wi (wb (wg (ws J 2 Q (wn (wu [] (ih3 (w64 (d+1)) h) Q Q Q Q))))))
 exact wu [] (ih N 0 h) Q Q Q Q
theorem z187_1_ct (N:Nat) (s_:(List ByteArray)) (r:Bool) (h:z187_1 N s_=some r) :
 Fn Tryz.prog 187 ⟨1,[.S 0,.c (.cl 189 [] [])],[(0,.sl rS s_)],[],1,.O r,[],[]⟩:=by
 refine Fn.intro _ _ Tryz.func187 rfl (by kernel_rfl) rfl (fun E F w=>?_)
 unfold z187_1 at h
 refine wq (wg (ws J 1 Q (wn (wq (wg (xw [2,3,4] (zz13 s_ [(5,.S 0),(6,.c (.cl 189 [] []))]) J 2 ?_))))))
 obtain ⟨x1,d,h⟩:=ob h
 refine wc (z191_0_ct N s_ _ d) [(0,.sl 0)] [] Q Q Q Q Q Q Q Q (.inl rfl) rfl (wx (zz13 s_ [(4,.O (decide (x1≥0)))]) J 2 (wn ?_))
 cases h
 exact we J Tryz.func187 [] Q Q Q Q
theorem z176_ct (N:Nat) (s_:ByteArray) (r:Bool) (h:z176 N s_=some r) :
 Fn Tryz.prog 176 ⟨0,[.c (.s s_)],[],[],0,.O r,[],[]⟩:=by
 refine Fn.intro _ _ Tryz.func176 rfl (by kernel_rfl) rfl (fun E F w=>?_)
 unfold z176 at h
 refine wq (wg (ws J 1 Q (wn (wq (wg (xw (rg 4 6) (zz0 [(0,.c (.s s_)),(6,.O (decide ((s_.size:Int)≤50)))]) J 4 ?_))))))
 rcases oc' h with ⟨hc,h⟩ | ⟨hc,h⟩
 ·refine wy 6 hc Q (wx (zz0 [(2,.O false)]) J 6 (wn ?_))
  cases h
  exact we J Tryz.func176 [] Q Q Q Q
 refine wy 6 hc Q (ws J 1 Q ?_)
 obtain ⟨x1,d,h⟩:=ob h
 refine wc (z188_ct N s_ (str [46]) _ d) [] [] Q Q Q Q Q Q Q Q (.inl rfl) rfl (xw [6,7,8,9] (zz16 x1 [(6,.O true),(8,.S 0)]) J 0 ?_)
 obtain ⟨x2,e,h⟩:=ob h
 refine wc (z187_1_ct N x1 _ e) [(0,.sl 0)] [0] Q Q Q Q Q Q Q Q (.inr ⟨rfl,trivial⟩) rfl (wx (zz23 [(2,.O (!x2))]) J 3 (wn ?_))
 cases h
 exact we J Tryz.func176 [] Q Q Q Q
theorem z178_2_ct (N:Nat) (x_:T0) (c0_:T0) (r:Bool) (h:z178_2 N x_ c0_=some r) :
 Fn Tryz.prog 178 ⟨7,[.a (cC0 0 1 2 x_),.B 3 0],(vV0 0 1 2 x_ (vV0 4 5 6 c0_ [])),[(3,.box (cC0 4 5 6 c0_) 94)],7,.O r,[],[(3,.box (cC0 4 5 6 c0_) 94)]⟩:=by
 refine Fn.intro _ _ Tryz.func178 rfl (by kernel_rfl) rfl (fun E F w=>?_)
 unfold z178_2 at h
 refine wq (wg (ws J 2 Q (wn (wq (wg (wx ⟨[(3,.O (x_.Name.toList==c0_.Name.toList))],[(3,.box (cC0 4 5 6 c0_) 94)],(vV0 0 1 2 x_ (vV0 4 5 6 c0_ [])),8⟩ J 6 (wn ?_)))))))
 cases h
 exact we J Tryz.func178 [] Q Q Q Q
theorem z77_3_ct (N:Nat) (s_:(List T0)) (c0_:T0) (r:Int) (h:z77_3 N s_ c0_=some r) :
 Fn Tryz.prog 77 ⟨5,[.S 0,.c (.cl 178 [] [1])],((0,.sl rR0 s_)::vV0 2 3 4 c0_ []),[(1,.box (cC0 2 3 4 c0_) 94)],5,.I r,[],[(1,.box (cC0 2 3 4 c0_) 94)]⟩:=by
 refine Fn.intro _ _ Tryz.func77 rfl (by kernel_rfl) rfl (fun E F w=>?_)
 unfold z77_3 at h
 refine wq (wg (ws J 1 Q (wn (wq (wq (wg (wx (zz47 c0_ s_ [(0,.S 0),(1,.c (.cl 178 [] [1])),(4,.I 0),(7,.I (s_.length:Int)),(8,.I 0)]) J 3 (wn ?_))))))))
 refine wC (σ:=Unit) (fun st=>(zz47 c0_ s_ [])) (fun st=>z77_3_k1=some r) ?_ (fun j1=>?_)
 ·intro _ h
  replace h:z77_3_k1=some r:=h
  unfold z77_3_k1 at h
  refine wq (wg (ws J 1 Q (wn ?_)))
  cases h
  exact we J Tryz.func77 [] Q Q Q Q
 refine wo ?_
 refine wI (σ:=Int) (fun st=>(zz47 c0_ s_ [(0,.S 0),(1,.c (.cl 178 [] [1])),(7,.I (s_.length:Int)),(8,.I st)])) (fun n st=>z77_3_l2 N s_ c0_ n st) (r:=r) (fun _=>rfl) ?_ (fun ih=>?_)
 ·intro n2 ih3
  intro d h
  replace h:z77_3_l2 N s_ c0_ (n2+1) d=some r:=h
  unfold z77_3_l2 at h
  refine wq (wg (ws J 1 Q (wn (wq ?_))))
  rcases oc' h with ⟨hc,h⟩ | ⟨hc,h⟩
  ·exact wf hc Q (wz rfl (wu [] (j1 () h) Q Q Q Q))
  refine wt hc Q (wi (wq (wo (wq (wg (wx (zz47 c0_ s_ [(0,.S 0),(1,.c (.cl 178 [] [1])),(5,.I d),(7,.I (s_.length:Int)),(8,.I d)]) J 2 (wn (wq (wg (xw [3,4,5] (zz47 c0_ s_ [(0,.S 0),(1,.c (.cl 178 [] [1])),(5,.I d),(7,.I (s_.length:Int)),(8,.I d),(11,.c (.cl 178 [] [1])),(12,.S 0),(13,.I d)]) J 3 ?_))))))))))
  obtain ⟨e,f,h⟩:=ob h
  refine wj oO0 J f Q Q Q Q Q Q Q Q Q (ws J 1 Q ?_)
  obtain ⟨g,i,h⟩:=ob h
  refine WPr.callc (z178_2_ct N e c0_ _ i) [(0,.sl 6),(1,.sl 7),(2,.sl 8),(3,.bp 1 0),(4,.sl 2),(5,.sl 3),(6,.sl 4)] [] Q Q Q Q Q Q Q Q Q (.inl rfl) rfl (wx ⟨[(0,.S 0),(1,.c (.cl 178 [] [1])),(5,.I d),(7,.I (s_.length:Int)),(8,.I d),(16,.O g)],[(1,.box (cC0 2 3 4 c0_) 94)],((0,.sl rR0 s_)::vV0 2 3 4 c0_ []),9⟩ J 0 (wn ?_))
  rcases oc h with ⟨hc,h⟩ | ⟨hc,h⟩
  ·refine wt hc Q (wq (wg (ws J 2 Q (wn ?_))))
   cases h
   exact we J Tryz.func77 [] Q Q Q Q
  exact wf hc Q (wi (wb (wg (ws J 2 Q (wn (wu [] (ih3 (w64 (d+1)) h) Q Q Q Q))))))
 exact wu [] (ih N 0 h) Q Q Q Q
theorem z177_4_ct (N:Nat) (s_:(List T0)) (c0_:T0) (r:Bool) (h:z177_4 N s_ c0_=some r) :
 Fn Tryz.prog 177 ⟨5,[.S 0,.c (.cl 178 [] [1])],((0,.sl rR0 s_)::vV0 2 3 4 c0_ []),[(1,.box (cC0 2 3 4 c0_) 94)],5,.O r,[],[(1,.box (cC0 2 3 4 c0_) 94)]⟩:=by
 refine Fn.intro _ _ Tryz.func177 rfl (by kernel_rfl) rfl (fun E F w=>?_)
 unfold z177_4 at h
 refine wq (wg (ws J 1 Q (wn (wq (wg (xw [2,3,4] (zz47 c0_ s_ [(5,.S 0),(6,.c (.cl 178 [] [1]))]) J 2 ?_))))))
 obtain ⟨x1,d,h⟩:=ob h
 refine wc (z77_3_ct N s_ c0_ _ d) [(0,.sl 0),(1,.bp 1 0),(2,.sl 2),(3,.sl 3),(4,.sl 4)] [] Q Q Q Q Q Q Q Q (.inl rfl) rfl (wx (zz47 c0_ s_ [(4,.O (decide (x1≥0)))]) J 2 (wn ?_))
 cases h
 exact we J Tryz.func177 [] Q Q Q Q
theorem z179_ct (N:Nat) (s_:T7) (r:Bool) (h:z179 N s_=some r) :
 Fn Tryz.prog 179 ⟨0,[.a (cC7 s_)],[],[],0,.O r,[],[]⟩:=by
 refine Fn.intro _ _ Tryz.func179 rfl (by kernel_rfl) rfl (fun E F w=>?_)
 unfold z179 at h
 refine wq (wg (ws J 2 Q (wn (wq (wq (wg (wx (zz25 s_ [(1,.B 0 0),(2,.O false),(4,.I s_.Kind)]) J 2 (wn (wo (wq (wg (ws J 2 Q (wn ?_)))))))))))))
 rcases oc h with ⟨hc,h⟩ | ⟨hc,h⟩
 ·refine wt hc Q (wq (wg (xw (rg 4 12) (zz25 s_ [(1,.B 0 0),(10,.O (decide (s_.Lo≥(-1000))))]) J 4 ?_)))
  rcases oc' h with ⟨hc,h⟩ | ⟨hc,h⟩
  ·refine wy 10 hc Q (wx (zz23 [(2,.O false)]) J 12 (wn ?_))
   cases h
   exact we J Tryz.func179 [] Q Q Q Q
  refine wy 10 hc Q (xw [11,12,13,14,15] (zz25 s_ [(1,.B 0 0),(17,.O (decide (s_.Lo≤s_.Hi)))]) J 7 ?_)
  rcases oc h with ⟨hc,h⟩ | ⟨hc,h⟩
  ·refine wy 17 hc Q (wx (zz23 [(2,.O (decide (s_.Hi≤1000)))]) J 5 (wn ?_))
   cases h
   exact we J Tryz.func179 [] Q Q Q Q
  refine wy 17 hc Q (wx (zz23 [(2,.O false)]) J 5 (wn ?_))
  cases h
  exact we J Tryz.func179 [] Q Q Q Q
 refine wf hc Q (wq (wg (wx (zz25 s_ [(1,.B 0 0),(2,.O false),(22,.O (s_.Kind==2))]) J 2 (wn ?_))))
 rcases oc' h with ⟨hc,h⟩ | ⟨hc,h⟩
 ·refine wf hc Q (wi (wb (wq (wg (ws J 1 Q (wn ?_))))))
  cases h
  exact we J Tryz.func179 [] Q Q Q Q
 refine wt hc Q (wq (wg (xw (rg 4 12) (zz25 s_ [(1,.B 0 0),(27,.O (decide (s_.Lo≥0)))]) J 4 ?_)))
 rcases oc' h with ⟨hc,h⟩ | ⟨hc,h⟩
 ·refine wy 27 hc Q (wx (zz23 [(2,.O false)]) J 12 (wn ?_))
  cases h
  exact we J Tryz.func179 [] Q Q Q Q
 refine wy 27 hc Q (xw [11,12,13,14,15] (zz25 s_ [(1,.B 0 0),(34,.O (decide (s_.Lo≤s_.Hi)))]) J 7 ?_)
 rcases oc h with ⟨hc,h⟩ | ⟨hc,h⟩
 ·refine wy 34 hc Q (wx (zz23 [(2,.O (decide (s_.Hi≤40)))]) J 5 (wn ?_))
  cases h
  exact we J Tryz.func179 [] Q Q Q Q
 refine wy 34 hc Q (wx (zz23 [(2,.O false)]) J 5 (wn ?_))
 cases h
 exact we J Tryz.func179 [] Q Q Q Q
theorem z181_5_ct (N:Nat) (x_:T3) (c0_:T3) (r:Bool) (h:z181_5 N x_ c0_=some r) :
 Fn Tryz.prog 181 ⟨1,[.a (cC3 x_),.B 0 0],[],[(0,.box (cC3 c0_) 141)],1,.O r,[],[(0,.box (cC3 c0_) 141)]⟩:=by
 refine Fn.intro _ _ Tryz.func181 rfl (by kernel_rfl) rfl (fun E F w=>?_)
 unfold z181_5 at h
 refine wq (wg (ws J 2 Q (wn (wq (wg (wx ⟨[(3,.O (x_.Name.toList==c0_.Name.toList))],[(0,.box (cC3 c0_) 141)],[],2⟩ J 6 (wn ?_)))))))
 cases h
 exact we J Tryz.func181 [] Q Q Q Q
theorem z190_6_ct (N:Nat) (s_:(List T3)) (c0_:T3) (r:Int) (h:z190_6 N s_ c0_=some r) :
 Fn Tryz.prog 190 ⟨2,[.S 0,.c (.cl 181 [] [1])],[(0,.sl rR3 s_)],[(1,.box (cC3 c0_) 141)],2,.I r,[],[(1,.box (cC3 c0_) 141)]⟩:=by
 refine Fn.intro _ _ Tryz.func190 rfl (by kernel_rfl) rfl (fun E F w=>?_)
 unfold z190_6 at h
 refine wq (wg (ws J 1 Q (wn (wq (wq (wg (wx (zz48 c0_ s_ [(0,.S 0),(1,.c (.cl 181 [] [1])),(4,.I 0),(7,.I (s_.length:Int)),(8,.I 0)]) J 3 (wn ?_))))))))
 refine wC (σ:=Unit) (fun st=>(zz48 c0_ s_ [])) (fun st=>z190_6_k1=some r) ?_ (fun j1=>?_)
 ·intro _ h
  replace h:z190_6_k1=some r:=h
  unfold z190_6_k1 at h
  refine wq (wg (ws J 1 Q (wn ?_)))
  cases h
  exact we J Tryz.func190 [] Q Q Q Q
 refine wo ?_
 refine wI (σ:=Int) (fun st=>(zz48 c0_ s_ [(0,.S 0),(1,.c (.cl 181 [] [1])),(7,.I (s_.length:Int)),(8,.I st)])) (fun n st=>z190_6_l2 N s_ c0_ n st) (r:=r) (fun _=>rfl) ?_ (fun ih=>?_)
 ·intro n2 ih3
  intro d h
  replace h:z190_6_l2 N s_ c0_ (n2+1) d=some r:=h
  unfold z190_6_l2 at h
  refine wq (wg (ws J 1 Q (wn (wq ?_))))
  rcases oc' h with ⟨hc,h⟩ | ⟨hc,h⟩
  ·exact wf hc Q (wz rfl (wu [] (j1 () h) Q Q Q Q))
  refine wt hc Q (wi (wq (wo (wq (wg (wx (zz48 c0_ s_ [(0,.S 0),(1,.c (.cl 181 [] [1])),(5,.I d),(7,.I (s_.length:Int)),(8,.I d)]) J 2 (wn (wq (wg (xw [3,4,5] (zz48 c0_ s_ [(0,.S 0),(1,.c (.cl 181 [] [1])),(5,.I d),(7,.I (s_.length:Int)),(8,.I d),(11,.c (.cl 181 [] [1])),(12,.S 0),(13,.I d)]) J 3 ?_))))))))))
  obtain ⟨e,f,h⟩:=ob h
  refine wj oO3 J f Q Q Q Q Q Q Q Q Q (ws J 1 Q ?_)
  obtain ⟨g,i,h⟩:=ob h
  refine WPr.callc (z181_5_ct N e c0_ _ i) [(0,.bp 1 0)] [] Q Q Q Q Q Q Q Q Q (.inl rfl) rfl (wx ⟨[(0,.S 0),(1,.c (.cl 181 [] [1])),(5,.I d),(7,.I (s_.length:Int)),(8,.I d),(16,.O g)],[(1,.box (cC3 c0_) 141)],[(0,.sl rR3 s_)],3⟩ J 0 (wn ?_))
  rcases oc h with ⟨hc,h⟩ | ⟨hc,h⟩
  ·refine wt hc Q (wq (wg (ws J 2 Q (wn ?_))))
   cases h
   exact we J Tryz.func190 [] Q Q Q Q
  exact wf hc Q (wi (wb (wg (ws J 2 Q (wn (wu [] (ih3 (w64 (d+1)) h) Q Q Q Q))))))
 exact wu [] (ih N 0 h) Q Q Q Q
theorem z180_7_ct (N:Nat) (s_:(List T3)) (c0_:T3) (r:Bool) (h:z180_7 N s_ c0_=some r) :
 Fn Tryz.prog 180 ⟨2,[.S 0,.c (.cl 181 [] [1])],[(0,.sl rR3 s_)],[(1,.box (cC3 c0_) 141)],2,.O r,[],[(1,.box (cC3 c0_) 141)]⟩:=by
 refine Fn.intro _ _ Tryz.func180 rfl (by kernel_rfl) rfl (fun E F w=>?_)
 unfold z180_7 at h
 refine wq (wg (ws J 1 Q (wn (wq (wg (xw [2,3,4] (zz48 c0_ s_ [(5,.S 0),(6,.c (.cl 181 [] [1]))]) J 2 ?_))))))
 obtain ⟨x1,d,h⟩:=ob h
 refine wc (z190_6_ct N s_ c0_ _ d) [(0,.sl 0),(1,.bp 1 0)] [] Q Q Q Q Q Q Q Q (.inl rfl) rfl (wx (zz48 c0_ s_ [(4,.O (decide (x1≥0)))]) J 2 (wn ?_))
 cases h
 exact we J Tryz.func180 [] Q Q Q Q
theorem z182_ct (N:Nat) (g_:T5) (all_:(List T3)) (r:Bool) (h:z182 N g_ all_=some r) :
 Fn Tryz.prog 182 ⟨3,[.a [.sl 0,.sl 1],.S 2],[(0,.sl rR1 g_.Diffs),(1,.sl (rP (rI .i64) (rI .i64)) g_.Equals),(2,.sl rR3 all_)],[],3,.O r,[],[]⟩:=by
 refine Fn.intro _ _ Tryz.func182 rfl (by kernel_rfl) rfl (fun E F w=>?_)
 unfold z182 at h
 refine wq (wg (ws J 2 Q (wn (wq (wq (wg (xw [5,6,7,8,9] (zz61 g_.Diffs g_.Equals all_ [(1,.S 2),(2,.B 3 0),(4,.O false),(15,.O (decide ((g_.Diffs.length:Int) > 20)))]) J 5 ?_)))))))
 rcases oc h with ⟨hc,h⟩ | ⟨hc,h⟩
 ·refine wy 15 hc Q (wx (zz61 g_.Diffs g_.Equals all_ [(1,.S 2),(2,.B 3 0),(4,.O false),(20,.O true)]) J 5 (wn (wt Q Q (wq (wg (ws J 1 Q (wn ?_)))))))
  cases h
  exact we J Tryz.func182 [] Q Q Q Q
 refine wy 15 hc Q (wx (zz61 g_.Diffs g_.Equals all_ [(1,.S 2),(2,.B 3 0),(4,.O false),(20,.O (decide ((g_.Equals.length:Int) > 20)))]) J 5 (wn ?_))
 rcases oc h with ⟨hc,h⟩ | ⟨hc,h⟩
 ·refine wt hc Q (wq (wg (ws J 1 Q (wn ?_))))
  cases h
  exact we J Tryz.func182 [] Q Q Q Q
 refine wf hc Q (wi (wq (wq (wg (wx (zz61 g_.Diffs g_.Equals all_ [(1,.S 2),(2,.B 3 0),(4,.O false),(22,.S 0),(23,.I (g_.Diffs.length:Int)),(24,.I 0)]) J 4 (wn ?_))))))
 refine wC (σ:=Unit) (fun st=>(zz61 g_.Diffs g_.Equals all_ [(1,.S 2),(2,.B 3 0)])) (fun st=>z182_k5 N g_ all_=some r) ?_ (fun j1=>?_)
 ·intro _ h
  replace h:z182_k5 N g_ all_=some r:=h
  unfold z182_k5 at h
  refine wq (wq (wg (wx (zz117 g_.Diffs g_.Equals all_ [(1,.S 2),(56,.S 1),(57,.I (g_.Equals.length:Int)),(58,.I 0)]) J 4 (wn ?_))))
  refine wC (σ:=Unit) (fun st=>(zz117 g_.Diffs g_.Equals all_ [])) (fun st=>z182_k1=some r) ?_ (fun j3=>?_)
  ·intro _ h
   replace h:z182_k1=some r:=h
   unfold z182_k1 at h
   refine wq (wg (ws J 1 Q (wn ?_)))
   cases h
   exact we J Tryz.func182 [] Q Q Q Q
  refine wo ?_
  refine wI (σ:=Int) (fun st=>(zz117 g_.Diffs g_.Equals all_ [(1,.S 2),(56,.S 1),(57,.I (g_.Equals.length:Int)),(58,.I st)])) (fun n st=>z182_l2 N g_ all_ n st) (r:=r) (fun _=>rfl) ?_ (fun ih=>?_)
  ·intro n13 ih14
   intro c h
   replace h:z182_l2 N g_ all_ (n13+1) c=some r:=h
   unfold z182_l2 at h
   refine wq (wg (ws J 1 Q (wn (wq ?_))))
   rcases oc' h with ⟨hc,h⟩ | ⟨hc,h⟩
   ·exact wf hc Q (wz rfl (wu [] (j3 () h) Q Q Q Q))
   refine wt hc Q (wi (wq (wo (wq (wg ?_)))))
   obtain ⟨d,e,h⟩:=ob h
   refine wj (oP (oI .i64) (oI .i64)) J e Q Q Q Q Q Q Q Q Q (wx ⟨[(1,.S 2),(8,.B 5 0),(56,.S 1),(57,.I (g_.Equals.length:Int)),(58,.I c)],[(5,.box [.I d.1,.I d.2] 146)],[(0,.sl rR1 g_.Diffs),(1,.sl (rP (rI .i64) (rI .i64)) g_.Equals),(2,.sl rR3 all_)],6⟩ J 3 (wn (wq (wg (ws J 2 Q (wn ?_))))))
   refine wC (σ:=Unit) (fun st=>(zz49 g_.Diffs g_.Equals all_ [(1,.S 2),(56,.S 1),(57,.I (g_.Equals.length:Int)),(58,.I c)])) (fun st=>z182_k3 c (z182_l2 N g_ all_ n13)=some r) ?_ (fun j21=>?_)
   ·intro _ h
    replace h:z182_k3 c (z182_l2 N g_ all_ n13)=some r:=h
    unfold z182_k3 at h
    exact wb (wg (ws J 2 Q (wn (wu [] (ih14 (w64 (c+1)) h) Q Q Q Q))))
   refine wo ?_
   refine wI (σ:=Int) (fun st=>(zz49 g_.Diffs g_.Equals all_ [(1,.S 2),(56,.S 1),(57,.I (g_.Equals.length:Int)),(58,.I c),(62,.a [.I d.1,.I d.2]),(63,.I st)])) (fun n st=>z182_l4 all_ c (z182_l2 N g_ all_ n13) d n st) (r:=r) (fun _=>rfl) ?_ (fun ih=>?_)
   ·intro n15 ih23
    intro f h
    replace h:z182_l4 all_ c (z182_l2 N g_ all_ n13) d (n15+1) f=some r:=h
    unfold z182_l4 at h
    refine wq (wg (ws J 1 Q (wn (wq ?_))))
    rcases oc' h with ⟨hc,h⟩ | ⟨hc,h⟩
    ·exact wf hc Q (wz rfl (wu [] (j21 () h) Q Q Q Q))
    refine wt hc Q (wi (wq (wo (wq (wg ?_)))))
    obtain ⟨g,j,h⟩:=ob h
    refine WPr.ax (len:=2) (el:=3) (SC.i .i64) ([d.1,d.2]:List Int) j Q Q Q Q (by kernel_rfl) (by kernel_rfl) (by kernel_rfl) (by kernel_rfl) Q Q Q Q (wx (zz49 g_.Diffs g_.Equals all_ [(1,.S 2),(10,.I g),(56,.S 1),(57,.I (g_.Equals.length:Int)),(58,.I c),(62,.a [.I d.1,.I d.2]),(63,.I f)]) J 1 (wn (wq (wg (xw (rg 3 14) (zz49 g_.Diffs g_.Equals all_ [(1,.S 2),(10,.I g),(56,.S 1),(57,.I (g_.Equals.length:Int)),(58,.I c),(62,.a [.I d.1,.I d.2]),(63,.I f),(68,.O (decide (g < 0)))]) J 3 ?_)))))
    rcases oc h with ⟨hc,h⟩ | ⟨hc,h⟩
    ·refine wy 68 hc Q (wx (zz49 g_.Diffs g_.Equals all_ [(1,.S 2),(56,.S 1),(57,.I (g_.Equals.length:Int)),(58,.I c),(62,.a [.I d.1,.I d.2]),(63,.I f),(82,.O true)]) J 14 (wn (wt Q Q (wq (wg (ws J 1 Q (wn ?_)))))))
     cases h
     exact we J Tryz.func182 [] Q Q Q Q
    refine wy 68 hc Q (xw (rg 9 8) (zz49 g_.Diffs g_.Equals all_ [(1,.S 2),(10,.I g),(56,.S 1),(57,.I (g_.Equals.length:Int)),(58,.I c),(62,.a [.I d.1,.I d.2]),(63,.I f),(74,.O (decide (g≥(all_.length:Int))))]) J 6 ?_)
    rcases oc h with ⟨hc,h⟩ | ⟨hc,h⟩
    ·refine wy 74 hc Q (wx (zz49 g_.Diffs g_.Equals all_ [(1,.S 2),(56,.S 1),(57,.I (g_.Equals.length:Int)),(58,.I c),(62,.a [.I d.1,.I d.2]),(63,.I f),(82,.O true)]) J 8 (wn (wt Q Q (wq (wg (ws J 1 Q (wn ?_)))))))
     cases h
     exact we J Tryz.func182 [] Q Q Q Q
    refine wy 74 hc Q (ws J 2 Q ?_)
    obtain ⟨k,l,h⟩:=ob h
    refine wj oO3 J l Q Q Q Q Q Q Q Q Q (wx ⟨[(1,.S 2),(56,.S 1),(57,.I (g_.Equals.length:Int)),(58,.I c),(62,.a [.I d.1,.I d.2]),(63,.I f),(82,.O (k.Sort'.Kind != 2))],[],[(0,.sl rR1 g_.Diffs),(1,.sl (rP (rI .i64) (rI .i64)) g_.Equals),(2,.sl rR3 all_)],7⟩ J 5 (wn ?_))
    rcases oc h with ⟨hc,h⟩ | ⟨hc,h⟩
    ·refine wt hc Q (wq (wg (ws J 1 Q (wn ?_))))
     cases h
     exact we J Tryz.func182 [] Q Q Q Q
    exact wf hc Q (wi (wb (wg (ws J 2 Q (wn (wu [] (ih23 (w64 (f+1)) h) Q Q Q Q))))))
   exact wu [] (ih N 0 h) Q Q Q Q
  exact wu [] (ih N 0 h) Q Q Q Q
 refine wo ?_
 refine wI (σ:=Int) (fun st=>(zz61 g_.Diffs g_.Equals all_ [(1,.S 2),(2,.B 3 0),(22,.S 0),(23,.I (g_.Diffs.length:Int)),(24,.I st)])) (fun n st=>z182_l6 N g_ all_ n st) (r:=r) (fun _=>rfl) ?_ (fun ih=>?_)
 ·intro n16 ih24
  intro m h
  replace h:z182_l6 N g_ all_ (n16+1) m=some r:=h
  unfold z182_l6 at h
  refine wq (wg (ws J 1 Q (wn (wq ?_))))
  rcases oc' h with ⟨hc,h⟩ | ⟨hc,h⟩
  ·exact wf hc Q (wz rfl (wu [] (j1 () h) Q Q Q Q))
  refine wt hc Q (wi (wq (wo (wq (wg ?_)))))
  obtain ⟨o,p,h⟩:=ob h
  refine wj oO1 J p Q Q Q Q Q Q Q Q Q (wx (zz94 o g_.Diffs g_.Equals all_ [(1,.S 2),(2,.B 3 0),(6,.B 5 0),(22,.S 0),(23,.I (g_.Diffs.length:Int)),(24,.I m)]) J 3 (wn (wq (wg (xw (rg 7 19) (zz94 o g_.Diffs g_.Equals all_ [(1,.S 2),(2,.B 3 0),(6,.B 5 0),(22,.S 0),(23,.I (g_.Diffs.length:Int)),(24,.I m),(34,.O (decide ((minI o.X o.Y) < (-1))))]) J 7 ?_)))))
  rcases oc h with ⟨hc,h⟩ | ⟨hc,h⟩
  ·refine wy 34 hc Q (wx (zz95 g_.Diffs g_.Equals all_ [(1,.S 2),(2,.B 3 0),(22,.S 0),(23,.I (g_.Diffs.length:Int)),(24,.I m),(53,.O true)]) J 19 (wn (wt Q Q (wq (wg (ws J 1 Q (wn ?_)))))))
   cases h
   exact we J Tryz.func182 [] Q Q Q Q
  refine wy 34 hc Q (xw (rg 17 9) (zz94 o g_.Diffs g_.Equals all_ [(1,.S 2),(2,.B 3 0),(6,.B 5 0),(22,.S 0),(23,.I (g_.Diffs.length:Int)),(24,.I m),(44,.O (decide ((maxI o.X o.Y)≥(all_.length:Int))))]) J 10 ?_)
  rcases oc h with ⟨hc,h⟩ | ⟨hc,h⟩
  ·refine wy 44 hc Q (wx (zz95 g_.Diffs g_.Equals all_ [(1,.S 2),(2,.B 3 0),(22,.S 0),(23,.I (g_.Diffs.length:Int)),(24,.I m),(53,.O true)]) J 9 (wn (wt Q Q (wq (wg (ws J 1 Q (wn ?_)))))))
   cases h
   exact we J Tryz.func182 [] Q Q Q Q
  refine wy 44 hc Q (xw [22,23,24,25] (zz94 o g_.Diffs g_.Equals all_ [(1,.S 2),(2,.B 3 0),(6,.B 5 0),(22,.S 0),(23,.I (g_.Diffs.length:Int)),(24,.I m),(49,.O (decide (o.C < (-20000))))]) J 5 ?_)
  rcases oc h with ⟨hc,h⟩ | ⟨hc,h⟩
  ·refine wy 49 hc Q (wx (zz95 g_.Diffs g_.Equals all_ [(1,.S 2),(2,.B 3 0),(22,.S 0),(23,.I (g_.Diffs.length:Int)),(24,.I m),(53,.O true)]) J 4 (wn (wt Q Q (wq (wg (ws J 1 Q (wn ?_)))))))
   cases h
   exact we J Tryz.func182 [] Q Q Q Q
  refine wy 49 hc Q (wx (zz95 g_.Diffs g_.Equals all_ [(1,.S 2),(2,.B 3 0),(22,.S 0),(23,.I (g_.Diffs.length:Int)),(24,.I m),(53,.O (decide (o.C > 20000)))]) J 4 (wn ?_))
  rcases oc h with ⟨hc,h⟩ | ⟨hc,h⟩
  ·refine wt hc Q (wq (wg (ws J 1 Q (wn ?_))))
   cases h
   exact we J Tryz.func182 [] Q Q Q Q
  exact wf hc Q (wi (wb (wg (ws J 2 Q (wn (wu [] (ih24 (w64 (m+1)) h) Q Q Q Q))))))
 exact wu [] (ih N 0 h) Q Q Q Q
theorem z158_ct (N:Nat) (l_:(List T0)) (r:Bool) (h:z158 N l_=some r) :
 Fn Tryz.prog 158 ⟨1,[.S 0],[(0,.sl rR0 l_)],[],1,.O r,[],[]⟩:=by
 refine Fn.intro _ _ Tryz.func158 rfl (by kernel_rfl) rfl (fun E F w=>?_)
 unfold z158 at h
 refine wq (wg (ws J 1 Q (wn (wq (wq (wg (wx (zz10 l_ [(0,.S 0),(2,.O false),(11,.O (decide ((l_.length:Int) > 40)))]) J 3 (wn ?_))))))))
 rcases oc h with ⟨hc,h⟩ | ⟨hc,h⟩
 ·refine wt hc Q (wq (wg (ws J 1 Q (wn ?_))))
  cases h
  exact we J Tryz.func158 [] Q Q Q Q
 refine wf hc Q (wi (wq (wg (ws J 1 Q ?_))))
 obtain ⟨x1,d,h⟩:=ob h
 refine wc (z175_ct N l_ _ d) [(0,.sl 0)] [] Q Q Q Q Q Q Q Q (.inl rfl) rfl (wx (zz60 x1 l_ [(0,.S 0),(2,.O false),(3,.S 1)]) J 1 (wn (wq (wq (wg (wx (zz60 x1 l_ [(0,.S 0),(2,.O false),(3,.S 1),(16,.O (decide ((x1.length:Int) > 24)))]) J 3 (wn ?_)))))))
 rcases oc h with ⟨hc,h⟩ | ⟨hc,h⟩
 ·refine wt hc Q (wq (wg (ws J 1 Q (wn ?_))))
  cases h
  exact we J Tryz.func158 [] Q Q Q Q
 refine wf hc Q (wi (wq (wg (ws J 1 Q (wn (wq (wq (wg (wx (zz60 x1 l_ [(0,.S 0),(2,.O false),(3,.S 1),(4,.I 0),(17,.S 0),(18,.I (l_.length:Int)),(19,.I 0)]) J 3 (wn ?_))))))))))
 refine wC (σ:=Unit) (fun st=>⟨[],[],[(0,.sl rR0 l_)],2⟩) (fun st=>z158_k1=some r) ?_ (fun j1=>?_)
 ·intro _ h
  replace h:z158_k1=some r:=h
  unfold z158_k1 at h
  refine wq (wg (ws J 1 Q (wn ?_)))
  cases h
  exact we J Tryz.func158 [] Q Q Q Q
 refine wo ?_
 refine wI (σ:=Int × Int) (fun st=>(zz60 x1 l_ [(0,.S 0),(3,.S 1),(4,.I st.1),(17,.S 0),(18,.I (l_.length:Int)),(19,.I st.2)])) (fun n st=>z158_l2 N l_ x1 n st.1 st.2) (r:=r) (fun _=>rfl) ?_ (fun ih=>?_)
 ·intro n12 ih12
  rintro ⟨e,f⟩ h
  replace h:z158_l2 N l_ x1 (n12+1) e f=some r:=h
  unfold z158_l2 at h
  refine wq (wg (ws J 1 Q (wn (wq ?_))))
  rcases oc' h with ⟨hc,h⟩ | ⟨hc,h⟩
  ·exact wf hc Q (wz rfl (wu [] (j1 () h) Q Q Q Q))
  refine wt hc Q (wi (wq (wo (wq (wg (ws J 1 Q ?_))))))
  obtain ⟨g,i,h⟩:=ob h
  refine wj oO0 J i Q Q Q Q Q Q Q Q Q (wx (zz43 x1 g l_ [(0,.S 0),(3,.S 1),(4,.I e),(5,.I f),(6,.B 6 0),(17,.S 0),(18,.I (l_.length:Int)),(19,.I f)]) J 4 (wn (wq (wq (wg (ws J 2 Q ?_))))))
  obtain ⟨j,k,h⟩:=ob h
  refine wc (z176_ct N g.Name _ k) [] [] Q Q Q Q Q Q Q Q (.inl rfl) rfl (xw (rg 5 18) (zz43 x1 g l_ [(0,.S 0),(3,.S 1),(4,.I e),(5,.I f),(6,.B 6 0),(17,.S 0),(18,.I (l_.length:Int)),(19,.I f),(28,.O (!j))]) J 2 ?_)
  rcases oc h with ⟨hc,h⟩ | ⟨hc,h⟩
  ·refine wy 28 hc Q (wx (zz43 x1 g l_ [(0,.S 0),(3,.S 1),(4,.I e),(6,.B 6 0),(17,.S 0),(18,.I (l_.length:Int)),(19,.I f),(46,.O true)]) J 18 (wn (wt Q Q (wq (wg (ws J 1 Q (wn ?_)))))))
   cases h
   exact we J Tryz.func158 [] Q Q Q Q
  refine wy 28 hc Q (xw (rg 11 12) (zz43 x1 g l_ [(0,.S 0),(3,.S 1),(4,.I e),(5,.I f),(6,.B 6 0),(17,.S 0),(18,.I (l_.length:Int)),(19,.I f),(34,.O (decide ((g.Fields.length:Int) > 4)))]) J 6 ?_)
  rcases oc h with ⟨hc,h⟩ | ⟨hc,h⟩
  ·refine wy 34 hc Q (wx (zz43 x1 g l_ [(0,.S 0),(3,.S 1),(4,.I e),(6,.B 6 0),(17,.S 0),(18,.I (l_.length:Int)),(19,.I f),(46,.O true)]) J 12 (wn (wt Q Q (wq (wg (ws J 1 Q (wn ?_)))))))
   cases h
   exact we J Tryz.func158 [] Q Q Q Q
  refine wy 34 hc Q (xw (rg 17 6) (zz43 x1 g l_ [(0,.S 0),(3,.S 1),(4,.I e),(5,.I f),(6,.B 6 0),(17,.S 0),(18,.I (l_.length:Int)),(19,.I f),(40,.O (g.First != e))]) J 6 ?_)
  rcases oc h with ⟨hc,h⟩ | ⟨hc,h⟩
  ·refine wy 40 hc Q (wx (zz43 x1 g l_ [(0,.S 0),(3,.S 1),(4,.I e),(6,.B 6 0),(17,.S 0),(18,.I (l_.length:Int)),(19,.I f),(46,.O true)]) J 6 (wn (wt Q Q (wq (wg (ws J 1 Q (wn ?_)))))))
   cases h
   exact we J Tryz.func158 [] Q Q Q Q
  refine wy 40 hc Q (ws J 2 Q ?_)
  obtain ⟨m,o,h⟩:=ob h
  refine WPr.isl J (l:=none) (h:=some (.i64,f)) o Q Q Q Q Q Q Q Q Q Q (xw [21,22] ⟨[(0,.S 0),(3,.S 1),(4,.I e),(6,.B 6 0),(17,.S 0),(18,.I (l_.length:Int)),(19,.I f),(40,.O false),(43,.S 7),(44,.c (.cl 178 [] [6]))],[(1,.own rR3 x1 true),(6,.box (cC0 3 4 5 g) 94)],((0,.sl rR0 l_)::vV0 3 4 5 g [(7,.sl rR0 m)]),8⟩ J 1 ?_)
  obtain ⟨p,q,h⟩:=ob h
  refine wc (z177_4_ct N m g _ q) [(0,.sl 7),(1,.bp 6 0),(2,.sl 3),(3,.sl 4),(4,.sl 5)] [] Q Q Q Q Q Q Q Q (.inl rfl) rfl (wx (zz69 x1 g l_ [(0,.S 0),(3,.S 1),(4,.I e),(6,.B 6 0),(17,.S 0),(18,.I (l_.length:Int)),(19,.I f),(46,.O p)]) J 1 (wn ?_))
  rcases oc h with ⟨hc,h⟩ | ⟨hc,h⟩
  ·refine wt hc Q (wq (wg (ws J 1 Q (wn ?_))))
   cases h
   exact we J Tryz.func158 [] Q Q Q Q
  refine wf hc Q (wi (wq (wg (wx (zz69 x1 g l_ [(0,.S 0),(3,.S 1),(4,.I (w64 (e+(g.Fields.length:Int)))),(6,.B 6 0),(17,.S 0),(18,.I (l_.length:Int)),(19,.I f)]) J 6 (wn (wq (wq (wg (wx (zz69 x1 g l_ [(0,.S 0),(3,.S 1),(4,.I (w64 (e+(g.Fields.length:Int)))),(6,.B 6 0),(17,.S 0),(18,.I (l_.length:Int)),(19,.I f),(53,.S 3),(54,.I (g.Fields.length:Int)),(55,.I 0)]) J 4 (wn ?_))))))))))
  refine wC (σ:=Unit) (fun st=>(zz69 x1 g l_ [(0,.S 0),(3,.S 1),(4,.I (w64 (e+(g.Fields.length:Int)))),(6,.B 6 0),(17,.S 0),(18,.I (l_.length:Int)),(19,.I f)])) (fun st=>z158_k3 N x1 e f (z158_l2 N l_ x1 n12) g=some r) ?_ (fun j19=>?_)
  ·intro _ h
   replace h:z158_k3 N x1 e f (z158_l2 N l_ x1 n12) g=some r:=h
   unfold z158_k3 at h
   refine wq (wg (xw [3,4] ⟨[(0,.S 0),(3,.S 1),(4,.I (w64 (e+(g.Fields.length:Int)))),(17,.S 0),(18,.I (l_.length:Int)),(19,.I f),(80,.a [.sl 4,.sl 5]),(81,.S 1)],[(1,.own rR3 x1 true)],[(0,.sl rR0 l_),(4,.sl rR1 g.Guard.Diffs),(5,.sl (rP (rI .i64) (rI .i64)) g.Guard.Equals)],8⟩ J 3 ?_))
   obtain ⟨s,t,h⟩:=ob h
   refine wc (z182_ct N g.Guard x1 _ t) [(0,.sl 4),(1,.sl 5),(2,.sl 1)] [1] Q Q Q Q Q Q Q Q (.inr ⟨rfl,trivial⟩) rfl (wx ⟨[(0,.S 0),(3,.S 1),(4,.I (w64 (e+(g.Fields.length:Int)))),(17,.S 0),(18,.I (l_.length:Int)),(19,.I f),(83,.O (!s))],[(1,.own rR3 x1 true)],[(0,.sl rR0 l_)],8⟩ J 1 (wn ?_))
   rcases oc h with ⟨hc,h⟩ | ⟨hc,h⟩
   ·refine wt hc Q (wq (wg (ws J 1 Q (wn ?_))))
    cases h
    exact we J Tryz.func158 [] Q Q Q Q
   exact wf hc Q (wi (wb (wg (ws J 2 Q (wn (wu [] (ih12 ((w64 (e+(g.Fields.length:Int))),(w64 (f+1))) h) Q Q Q Q))))))
  refine wo ?_
  refine wI (σ:=Int) (fun st=>(zz69 x1 g l_ [(0,.S 0),(3,.S 1),(4,.I (w64 (e+(g.Fields.length:Int)))),(6,.B 6 0),(17,.S 0),(18,.I (l_.length:Int)),(19,.I f),(53,.S 3),(54,.I (g.Fields.length:Int)),(55,.I st)])) (fun n st=>z158_l4 N x1 e f (z158_l2 N l_ x1 n12) g n st) (r:=r) (fun _=>rfl) ?_ (fun ih=>?_)
  ·intro n14 ih21
   intro u h
   replace h:z158_l4 N x1 e f (z158_l2 N l_ x1 n12) g (n14+1) u=some r:=h
   unfold z158_l4 at h
   refine wq (wg (ws J 1 Q (wn (wq ?_))))
   rcases oc' h with ⟨hc,h⟩ | ⟨hc,h⟩
   ·exact wf hc Q (wz rfl (wu [] (j19 () h) Q Q Q Q))
   refine wt hc Q (wi (wq (wo (wq (wg (ws J 1 Q ?_))))))
   obtain ⟨v,x,h⟩:=ob h
   refine wj oO3 J x Q Q Q Q Q Q Q Q Q (wx (zz96 x1 g v l_ [(0,.S 0),(3,.S 1),(4,.I (w64 (e+(g.Fields.length:Int)))),(6,.B 6 0),(7,.I u),(8,.B 9 0),(17,.S 0),(18,.I (l_.length:Int)),(19,.I f),(53,.S 3),(54,.I (g.Fields.length:Int)),(55,.I u)]) J 4 (wn (wq (wg (ws J 2 Q ?_)))))
   obtain ⟨y,z,h⟩:=ob h
   refine wc (z120_ct N v.Name _ z) [] [] Q Q Q Q Q Q Q Q (.inl rfl) rfl (xw (rg 5 13) (zz96 x1 g v l_ [(0,.S 0),(3,.S 1),(4,.I (w64 (e+(g.Fields.length:Int)))),(6,.B 6 0),(7,.I u),(8,.B 9 0),(17,.S 0),(18,.I (l_.length:Int)),(19,.I f),(53,.S 3),(54,.I (g.Fields.length:Int)),(55,.I u),(64,.O (!y))]) J 2 ?_)
   rcases oc h with ⟨hc,h⟩ | ⟨hc,h⟩
   ·refine wy 64 hc Q (wx (zz154 x1 g l_ [(0,.S 0),(3,.S 1),(4,.I (w64 (e+(g.Fields.length:Int)))),(6,.B 6 0),(17,.S 0),(18,.I (l_.length:Int)),(19,.I f),(53,.S 3),(54,.I (g.Fields.length:Int)),(55,.I u),(77,.O true)]) J 13 (wn (wt Q Q (wq (wg (ws J 1 Q (wn ?_)))))))
    cases h
    exact we J Tryz.func158 [] Q Q Q Q
   refine wy 64 hc Q (ws J 2 Q ?_)
   obtain ⟨A,C,h⟩:=ob h
   refine wc (z179_ct N v.Sort' _ C) [] [] Q Q Q Q Q Q Q Q (.inl rfl) rfl (xw (rg 11 7) (zz96 x1 g v l_ [(0,.S 0),(3,.S 1),(4,.I (w64 (e+(g.Fields.length:Int)))),(6,.B 6 0),(7,.I u),(8,.B 9 0),(17,.S 0),(18,.I (l_.length:Int)),(19,.I f),(53,.S 3),(54,.I (g.Fields.length:Int)),(55,.I u),(70,.O (!A))]) J 3 ?_)
   rcases oc h with ⟨hc,h⟩ | ⟨hc,h⟩
   ·refine wy 70 hc Q (wx (zz154 x1 g l_ [(0,.S 0),(3,.S 1),(4,.I (w64 (e+(g.Fields.length:Int)))),(6,.B 6 0),(17,.S 0),(18,.I (l_.length:Int)),(19,.I f),(53,.S 3),(54,.I (g.Fields.length:Int)),(55,.I u),(77,.O true)]) J 7 (wn (wt Q Q (wq (wg (ws J 1 Q (wn ?_)))))))
    cases h
    exact we J Tryz.func158 [] Q Q Q Q
   refine wy 70 hc Q (xw [14,15,16,17] (zz96 x1 g v l_ [(0,.S 0),(3,.S 1),(4,.I (w64 (e+(g.Fields.length:Int)))),(6,.B 6 0),(8,.B 9 0),(17,.S 0),(18,.I (l_.length:Int)),(19,.I f),(53,.S 3),(54,.I (g.Fields.length:Int)),(55,.I u),(70,.O false),(72,.S 3),(73,.I u)]) J 3 ?_)
   obtain ⟨D,G,h⟩:=ob h
   refine WPr.isl J (l:=none) (h:=some (.i64,u)) G Q Q Q Q Q Q Q Q Q Q (ws J 1 Q ?_)
   obtain ⟨H,K,h⟩:=ob h
   refine wc (z180_7_ct N D v _ K) [(0,.sl 10),(1,.bp 9 0)] [] Q Q Q Q Q Q Q Q (.inl rfl) rfl (wx ⟨[(0,.S 0),(3,.S 1),(4,.I (w64 (e+(g.Fields.length:Int)))),(6,.B 6 0),(17,.S 0),(18,.I (l_.length:Int)),(19,.I f),(53,.S 3),(54,.I (g.Fields.length:Int)),(55,.I u),(77,.O H)],[(1,.own rR3 x1 true),(6,.box (cC0 3 4 5 g) 94)],((0,.sl rR0 l_)::vV0 3 4 5 g []),11⟩ J 1 (wn ?_))
   rcases oc h with ⟨hc,h⟩ | ⟨hc,h⟩
   ·refine wt hc Q (wq (wg (ws J 1 Q (wn ?_))))
    cases h
    exact we J Tryz.func158 [] Q Q Q Q
   exact wf hc Q (wi (wb (wg (ws J 2 Q (wn (wu [] (ih21 (w64 (u+1)) h) Q Q Q Q))))))
  exact wu [] (ih N 0 h) Q Q Q Q
 exact wu [] (ih N (0,0) h) Q Q Q Q
theorem z159_ct (N:Nat) (d_:T0) (r:(List T1)) (h:z159 N d_=some r) :
 Fn Tryz.prog 159 ⟨3,[.a (cC0 0 1 2 d_)],(vV0 0 1 2 d_ []),[],4,.S 3,[],[(3,.own rR1 r true)]⟩:=by
 refine Fn.intro _ _ Tryz.func159 rfl (by kernel_rfl) rfl (fun E F w=>?_)
 unfold z159 at h
 refine wq (wg (ws J 2 Q (wn (wq (wg (wx ⟨[(1,.B 3 0),(2,.c .nil),(3,.c .nil)],[(3,.box (cC0 0 1 2 d_) 94)],(vV0 0 1 2 d_ []),4⟩ J 1 (wn (wq (wq (wg (wx ⟨[(1,.B 3 0),(2,.c .nil),(3,.c .nil),(9,.S 0),(10,.I (d_.Fields.length:Int)),(11,.I 0)],[(3,.box (cC0 0 1 2 d_) 94)],(vV0 0 1 2 d_ []),4⟩ J 4 (wn ?_))))))))))))
 refine wC (σ:=(List T1)) (fun st=>(zz118 d_ st [(1,.B 3 0),(3,.S 4)])) (fun st=>z159_k3 N d_ st=some r) ?_ (fun j1=>?_)
 ·intro d h
  replace h:z159_k3 N d_ d=some r:=h
  unfold z159_k3 at h
  refine wq (wg (xw [4,5] (zz118 d_ d [(1,.B 3 0),(37,.S 4),(40,.S 1)]) J 4 ?_))
  obtain ⟨x9,e,h⟩:=ob h
  refine WPr.app J e (by exact (srcI rfl)) Q Q Q Q Q Q Q Q Q Q (wx ⟨[(1,.B 3 0),(3,.S 5)],[(3,.box (cC0 0 1 2 d_) 94),(5,.own rR1 x9 true)],(vV0 0 1 2 d_ []),6⟩ J 1 (wn (wq (wq (wg (wx ⟨[(3,.S 5),(44,.S 2),(45,.I (d_.Guard.Equals.length:Int)),(46,.I 0)],[(5,.own rR1 x9 true)],(vV0 0 1 2 d_ []),6⟩ J 5 (wn ?_)))))))
  refine wC (σ:=(List T1)) (fun st=>⟨[(3,.S 6)],[(6,.own rR1 st true)],(vV0 0 1 2 d_ []),7⟩) (fun st=>z159_k1 st=some r) ?_ (fun j3=>?_)
  ·intro f h
   replace h:z159_k1 f=some r:=h
   unfold z159_k1 at h
   refine wq (wg (ws J 2 Q (wn ?_)))
   cases h
   exact we J Tryz.func159 [(3,.sl 6)] Q Q Q Q
  refine wo ?_
  refine wI (σ:=(List T1) × Int) (fun st=>⟨[(3,.S 6),(44,.S 2),(45,.I (d_.Guard.Equals.length:Int)),(46,.I st.2)],[(6,.own rR1 st.1 true)],(vV0 0 1 2 d_ []),7⟩) (fun n st=>z159_l2 d_ n st.1 st.2) (r:=r) (fun _=>rfl) ?_ (fun ih=>?_)
  ·intro n3 ih5
   rintro ⟨g,i⟩ h
   replace h:z159_l2 d_ (n3+1) g i=some r:=h
   unfold z159_l2 at h
   refine wq (wg (ws J 1 Q (wn (wq ?_))))
   rcases oc' h with ⟨hc,h⟩ | ⟨hc,h⟩
   ·exact wf hc Q (wz rfl (wu [] (j3 g h) Q Q Q Q))
   refine wt hc Q (wi (wq (wo (wq (wg ?_)))))
   obtain ⟨j,k,h⟩:=ob h
   refine wj (oP (oI .i64) (oI .i64)) J k Q Q Q Q Q Q Q Q Q (wx (zz119 g j.1 j.2 d_ [(3,.S 6),(7,.B 8 0),(44,.S 2),(45,.I (d_.Guard.Equals.length:Int)),(46,.I i)]) J 3 (wn (wg (ws J 1 Q (WPr.axb (len:=2) (el:=3) (es:=1) 0 Q Q Q Q Q (by kernel_rfl) (by kernel_rfl) Q Q Q Q (xw (rg 3 11) (zz119 g j.1 j.2 d_ [(7,.B 8 0),(44,.S 2),(45,.I (d_.Guard.Equals.length:Int)),(46,.I i),(50,.S 6),(52,.I j.1)]) J 1 (WPr.axb (len:=2) (el:=3) (es:=1) 1 Q Q Q Q Q (by kernel_rfl) (by kernel_rfl) Q Q Q Q (xw (rg 6 8) (zz119 g j.1 j.2 d_ [(7,.B 8 0),(44,.S 2),(45,.I (d_.Guard.Equals.length:Int)),(46,.I i),(50,.S 6),(55,.a [.I j.1,.I j.2,.I 0])]) J 2 (WPr.axb (len:=2) (el:=3) (es:=1) 1 Q Q Q Q Q (by kernel_rfl) (by kernel_rfl) Q Q Q Q (ws J 1 Q (WPr.axb (len:=2) (el:=3) (es:=1) 0 Q Q Q Q Q (by kernel_rfl) (by kernel_rfl) Q Q Q Q (xw [11,12,13] ⟨[(44,.S 2),(45,.I (d_.Guard.Equals.length:Int)),(46,.I i),(50,.S 6),(55,.a [.I j.1,.I j.2,.I 0]),(60,.a [.I j.2,.I j.1,.I 0])],[(6,.own rR1 g true)],(vV0 0 1 2 d_ []),9⟩ J 2 (WPr.bs (cs:=[.I j.1,.I j.2,.I 0,.I j.2,.I j.1,.I 0]) oO1 J ([(⟨j.1,j.2,0⟩:T1),(⟨j.2,j.1,0⟩:T1)]:List T1) Q Q Q Q Q Q (by kernel_rfl) (by exact (an (an rfl (an Q Q)) (an (an rfl (an Q Q)) rfl))) rfl ?_)))))))))))))
   obtain ⟨l,m,h⟩:=ob h
   exact WPr.app J m (by exact (srcO rfl)) Q Q Q Q Q Q Q Q Q Q (wx ⟨[(3,.S 10),(44,.S 2),(45,.I (d_.Guard.Equals.length:Int)),(46,.I i)],[(10,.own rR1 l true)],(vV0 0 1 2 d_ []),11⟩ J 1 (wn (wb (wg (ws J 2 Q (wn (wu [(6,.sl 10)] (ih5 (l,(w64 (i+1))) h) Q Q Q Q)))))))
  exact wu [(6,.sl 5)] (ih N (x9,0) h) Q Q Q Q
 refine wo ?_
 refine wI (σ:=(List T1) × Int) (fun st=>(zz118 d_ st.1 [(1,.B 3 0),(3,.S 4),(9,.S 0),(10,.I (d_.Fields.length:Int)),(11,.I st.2)])) (fun n st=>z159_l4 N d_ n st.1 st.2) (r:=r) (fun _=>rfl) ?_ (fun ih=>?_)
 ·intro n4 ih6
  rintro ⟨o,p⟩ h
  replace h:z159_l4 N d_ (n4+1) o p=some r:=h
  unfold z159_l4 at h
  refine wq (wg (ws J 1 Q (wn (wq ?_))))
  rcases oc' h with ⟨hc,h⟩ | ⟨hc,h⟩
  ·exact wf hc Q (wz rfl (wu [] (j1 o h) Q Q Q Q))
  refine wt hc Q (wi (wq (wo (wq (wg (ws J 1 Q ?_))))))
  obtain ⟨q,s,h⟩:=ob h
  refine wj oO3 J s Q Q Q Q Q Q Q Q Q (wx ⟨[(1,.B 3 0),(3,.S 4),(4,.I p),(5,.B 6 0),(9,.S 0),(10,.I (d_.Fields.length:Int)),(11,.I p)],[(3,.box (cC0 0 1 2 d_) 94),(4,.own rR1 o true),(6,.box (cC3 q) 141)],(vV0 0 1 2 d_ []),7⟩ J 4 (wn (wg (xw [18,19,20] ⟨[(1,.B 3 0),(9,.S 0),(10,.I (d_.Fields.length:Int)),(11,.I p),(16,.S 4),(24,.a [.I (w64 (d_.First+p)),.I (-1),.I q.Sort'.Hi]),(33,.a [.I (-1),.I (w64 (d_.First+p)),.I (w64 (0-q.Sort'.Lo))])],[(3,.box (cC0 0 1 2 d_) 94),(4,.own rR1 o true)],(vV0 0 1 2 d_ []),7⟩ J 18 (WPr.bs (cs:=[.I (w64 (d_.First+p)),.I (-1),.I q.Sort'.Hi,.I (-1),.I (w64 (d_.First+p)),.I (w64 (0-q.Sort'.Lo))]) oO1 J ([(⟨(w64 (d_.First+p)),(-1),q.Sort'.Hi⟩:T1),(⟨(-1),(w64 (d_.First+p)),(w64 (0-q.Sort'.Lo))⟩:T1)]:List T1) Q Q Q Q Q Q (by kernel_rfl) (by exact (an (an rfl (an Q Q)) (an (an rfl (an Q Q)) rfl))) rfl ?_)))))
  obtain ⟨t,u,h⟩:=ob h
  exact WPr.app J u (by exact (srcO rfl)) Q Q Q Q Q Q Q Q Q Q (wx ⟨[(1,.B 3 0),(3,.S 8),(9,.S 0),(10,.I (d_.Fields.length:Int)),(11,.I p)],[(3,.box (cC0 0 1 2 d_) 94),(8,.own rR1 t true)],(vV0 0 1 2 d_ []),9⟩ J 1 (wn (wb (wg (ws J 2 Q (wn (wu [(4,.sl 8)] (ih6 (t,(w64 (p+1))) h) Q Q Q Q)))))))
 exact wu [(4,.nil)] (ih N (([]:List T1),0) h) Q Q Q Q
theorem z122_ct (N:Nat) (decls_:(List T0)) (label_:Int) (r:(List T1) × Int) (h:z122 N decls_ label_=some r) :
 Fn Tryz.prog 122 ⟨1,[.S 0,.I label_],[(0,.sl rR0 decls_)],[],2,.t [.inl (.sl 1),.inl (.I r.2)],[],[(1,.own rR1 r.1 true)]⟩:=by
 refine Fn.intro _ _ Tryz.func122 rfl (by kernel_rfl) rfl (fun E F w=>?_)
 unfold z122 at h
 refine wq (wg (ws J 2 Q (wn (wq (wq (wg (xw (rg 3 10) (zz10 decls_ [(0,.S 0),(1,.I label_),(4,.c .nil),(5,.I 0),(8,.O (decide (label_ < 0)))]) J 3 ?_)))))))
 rcases oc h with ⟨hc,h⟩ | ⟨hc,h⟩
 ·refine wy 8 hc Q (wx (zz10 decls_ [(0,.S 0),(1,.I label_),(4,.c .nil),(5,.I 0),(18,.O true)]) J 10 (wn (wt Q Q (wq (wg (ws J 2 Q (wn ?_)))))))
  cases h
  exact we J Tryz.func122 [(1,.nil)] Q Q Q Q
 refine wy 8 hc Q (xw [9,10,11,12] (zz10 decls_ [(0,.S 0),(1,.I label_),(4,.c .nil),(5,.I 0),(14,.O (decide (label_≥(decls_.length:Int))))]) J 6 ?_)
 rcases oc h with ⟨hc,h⟩ | ⟨hc,h⟩
 ·refine wy 14 hc Q (wx (zz10 decls_ [(0,.S 0),(1,.I label_),(4,.c .nil),(5,.I 0),(18,.O true)]) J 4 (wn (wt Q Q (wq (wg (ws J 2 Q (wn ?_)))))))
  cases h
  exact we J Tryz.func122 [(1,.nil)] Q Q Q Q
 refine wy 14 hc Q (ws J 1 Q ?_)
 obtain ⟨x1,d,h⟩:=ob h
 refine wc (z158_ct N decls_ _ d) [(0,.sl 0)] [] Q Q Q Q Q Q Q Q (.inl rfl) rfl (wx (zz10 decls_ [(0,.S 0),(1,.I label_),(4,.c .nil),(5,.I 0),(18,.O (!x1))]) J 2 (wn ?_))
 rcases oc h with ⟨hc,h⟩ | ⟨hc,h⟩
 ·refine wt hc Q (wq (wg (ws J 2 Q (wn ?_))))
  cases h
  exact we J Tryz.func122 [(1,.nil)] Q Q Q Q
 refine wf hc Q (wi (wq (wg (ws J 2 Q ?_))))
 obtain ⟨x2,e,h⟩:=ob h
 refine wj oO0 J e Q Q Q Q Q Q Q Q Q (xw [4,5,6] ⟨[(22,.a (cC0 2 3 4 x2))],[],((0,.sl rR0 decls_)::vV0 2 3 4 x2 []),5⟩ J 1 ?_)
 obtain ⟨x3,f,h⟩:=ob h
 refine wc (z159_ct N x2 _ f) [(0,.sl 2),(1,.sl 3),(2,.sl 4)] [] Q Q Q Q Q Q Q Q (.inl rfl) rfl (wx ⟨[(4,.S 5),(5,.I 0)],[(5,.own rR1 x3 true)],[(0,.sl rR0 decls_)],6⟩ J 2 (wn ?_))
 cases h
 exact we J Tryz.func122 [(1,.sl 5)] Q Q Q Q
theorem z63_ct (N:Nat) (l_:(List T0)) (r:Bool) (h:z63 N l_=some r) :
 Fn Tryz.prog 63 ⟨1,[.S 0],[(0,.sl rR0 l_)],[],1,.O r,[],[]⟩:=by
 refine Fn.intro _ _ Tryz.func63 rfl (by kernel_rfl) rfl (fun E F w=>?_)
 unfold z63 at h
 refine wq (wg (ws J 1 Q (wn (wq (wq (wg (wx (zz10 l_ [(0,.S 0),(2,.O false),(7,.O ((l_.length:Int)==0))]) J 3 (wn ?_))))))))
 rcases oc h with ⟨hc,h⟩ | ⟨hc,h⟩
 ·refine wt hc Q (wq (wg (ws J 1 Q (wn ?_))))
  cases h
  exact we J Tryz.func63 [] Q Q Q Q
 refine wf hc Q (wi (wq (wg (ws J 1 Q ?_))))
 obtain ⟨x1,c,h⟩:=ob h
 refine wc (z122_ct N l_ 0 _ c) [(0,.sl 0)] [] Q Q Q Q Q Q Q Q (.inl rfl) rfl (wx ⟨[(2,.O false),(4,.I x1.2)],[],[(0,.sl rR0 l_)],2⟩ J 5 (wn (wq (wg (wx ⟨[(2,.O (x1.2==0))],[],[(0,.sl rR0 l_)],2⟩ J 3 (wn ?_))))))
 cases h
 exact we J Tryz.func63 [] Q Q Q Q
theorem z64_ct (N:Nat) (g_:T4) (r:Bool) (h:z64 N g_=some r) :
 Fn Tryz.prog 64 ⟨4,[.a (cC4 0 1 2 3 g_)],(vV4 0 1 2 3 g_ []),[],4,.O r,[],[]⟩:=by
 refine Fn.intro _ _ Tryz.func64 rfl (by kernel_rfl) rfl (fun E F w=>?_)
 unfold z64 at h
 refine wq (wg (ws J 2 Q (wn (wq (wq (wg (wx (zz2 g_ [(1,.B 4 0),(2,.O false),(8,.S 2),(9,.I (g_.Edges.length:Int)),(10,.I 0)]) J 4 (wn ?_))))))))
 refine wC (σ:=Unit) (fun st=>(zz7 g_ [])) (fun st=>z64_k1=some r) ?_ (fun j1=>?_)
 ·intro _ h
  replace h:z64_k1=some r:=h
  unfold z64_k1 at h
  refine wq (wg (ws J 1 Q (wn ?_)))
  cases h
  exact we J Tryz.func64 [] Q Q Q Q
 refine wo ?_
 refine wI (σ:=Int) (fun st=>(zz2 g_ [(1,.B 4 0),(8,.S 2),(9,.I (g_.Edges.length:Int)),(10,.I st)])) (fun n st=>z64_l2 N g_ n st) (r:=r) (fun _=>rfl) ?_ (fun ih=>?_)
 ·intro n12 ih33
  intro c h
  replace h:z64_l2 N g_ (n12+1) c=some r:=h
  unfold z64_l2 at h
  refine wq (wg (ws J 1 Q (wn (wq ?_))))
  rcases oc' h with ⟨hc,h⟩ | ⟨hc,h⟩
  ·exact wf hc Q (wz rfl (wu [] (j1 () h) Q Q Q Q))
  refine wt hc Q (wi (wq (wo (wq (wg (ws J 1 Q ?_))))))
  obtain ⟨d,e,h⟩:=ob h
  refine wj oO2 J e Q Q Q Q Q Q Q Q Q (wx (zz6 g_ d [(1,.B 4 0),(3,.I c),(4,.B 6 0),(8,.S 2),(9,.I (g_.Edges.length:Int)),(10,.I c)]) J 4 (wn (wq (wq (wg (xw (rg 6 10) (zz6 g_ d [(1,.B 4 0),(3,.I c),(4,.B 6 0),(8,.S 2),(9,.I (g_.Edges.length:Int)),(10,.I c),(20,.O (d.From==g_.End))]) J 6 ?_))))))
  refine WP.cutr (σ:=Bool) (fun st=>(zz6 g_ d [(1,.B 4 0),(3,.I c),(4,.B 6 0),(8,.S 2),(9,.I (g_.Edges.length:Int)),(10,.I c),(30,.O st)])) (fun st=>z64_k6 N g_ c (z64_l2 N g_ n12) d st=some r) ?_ (fun j54=>?_)
  ·intro f h
   replace h:z64_k6 N g_ c (z64_l2 N g_ n12) d f=some r:=h
   unfold z64_k6 at h
   rcases oc h with ⟨hc,h⟩ | ⟨hc,h⟩
   ·refine wt hc Q (wq (wg (ws J 1 Q (wn ?_))))
    cases h
    exact we J Tryz.func64 [] Q Q Q Q
   refine wf hc Q (wi (wq (wg (wx (zz6 g_ d [(1,.B 4 0),(3,.I c),(4,.B 6 0),(8,.S 2),(9,.I (g_.Edges.length:Int)),(10,.I c),(32,.S 2),(33,.I (g_.Edges.length:Int)),(34,.I 0)]) J 4 (wn ?_)))))
   refine wC (σ:=Unit) (fun st=>(zz14 g_ [(1,.B 4 0),(8,.S 2),(9,.I (g_.Edges.length:Int)),(10,.I c)])) (fun st=>z64_k3 c (z64_l2 N g_ n12)=some r) ?_ (fun j55=>?_)
   ·intro _ h
    replace h:z64_k3 c (z64_l2 N g_ n12)=some r:=h
    unfold z64_k3 at h
    exact wb (wg (ws J 2 Q (wn (wu [] (ih33 (w64 (c+1)) h) Q Q Q Q))))
   refine wo ?_
   refine wI (σ:=Int) (fun st=>(zz6 g_ d [(1,.B 4 0),(3,.I c),(4,.B 6 0),(8,.S 2),(9,.I (g_.Edges.length:Int)),(10,.I c),(32,.S 2),(33,.I (g_.Edges.length:Int)),(34,.I st)])) (fun n st=>z64_l4 g_ c (z64_l2 N g_ n12) d n st) (r:=r) (fun _=>rfl) ?_ (fun ih=>?_)
   ·intro n14 ih60
    intro g h
    replace h:z64_l4 g_ c (z64_l2 N g_ n12) d (n14+1) g=some r:=h
    unfold z64_l4 at h
    refine wq (wg (ws J 1 Q (wn (wq ?_))))
    rcases oc' h with ⟨hc,h⟩ | ⟨hc,h⟩
    ·exact wf hc Q (wz rfl (wu [] (j55 () h) Q Q Q Q))
    refine wt hc Q (wi (wq (wo (wq (wg (ws J 1 Q ?_))))))
    obtain ⟨i,j,h⟩:=ob h
    refine wj oO2 J j Q Q Q Q Q Q Q Q Q (wx (zz8 g_ d i [(1,.B 4 0),(3,.I c),(4,.B 6 0),(5,.I g),(6,.B 8 0),(8,.S 2),(9,.I (g_.Edges.length:Int)),(10,.I c),(32,.S 2),(33,.I (g_.Edges.length:Int)),(34,.I g)]) J 4 (wn (wq (wq (wg (xw (rg 4 26) (zz8 g_ d i [(1,.B 4 0),(3,.I c),(4,.B 6 0),(6,.B 8 0),(8,.S 2),(9,.I (g_.Edges.length:Int)),(10,.I c),(32,.S 2),(33,.I (g_.Edges.length:Int)),(34,.I g),(42,.O (c != g))]) J 4 ?_))))))
    refine WP.cutr (σ:=Bool) (fun st=>(zz8 g_ d i [(1,.B 4 0),(3,.I c),(4,.B 6 0),(6,.B 8 0),(8,.S 2),(9,.I (g_.Edges.length:Int)),(10,.I c),(32,.S 2),(33,.I (g_.Edges.length:Int)),(34,.I g),(68,.O st)])) (fun st=>z64_k5 d g (z64_l4 g_ c (z64_l2 N g_ n12) d n14) i st=some r) ?_ (fun j63=>?_)
    ·intro k h
     replace h:z64_k5 d g (z64_l4 g_ c (z64_l2 N g_ n12) d n14) i k=some r:=h
     unfold z64_k5 at h
     rcases oc h with ⟨hc,h⟩ | ⟨hc,h⟩
     ·refine wt hc Q (wq (wg (ws J 1 Q (wn ?_))))
      cases h
      exact we J Tryz.func64 [] Q Q Q Q
     refine wf hc Q (wi (wq (wg (xw (rg 3 24) (zz8 g_ d i [(1,.B 4 0),(3,.I c),(4,.B 6 0),(6,.B 8 0),(8,.S 2),(9,.I (g_.Edges.length:Int)),(10,.I c),(32,.S 2),(33,.I (g_.Edges.length:Int)),(34,.I g),(71,.O d.Again)]) J 3 ?_))))
     rcases oc' h with ⟨hc,h⟩ | ⟨hc,h⟩
     ·exact wy 71 hc Q (wx (zz28 g_ d [(1,.B 4 0),(3,.I c),(4,.B 6 0),(8,.S 2),(9,.I (g_.Edges.length:Int)),(10,.I c),(32,.S 2),(33,.I (g_.Edges.length:Int)),(34,.I g),(95,.O false)]) J 24 (wn (wf Q Q (wi (wb (wg (ws J 2 Q (wn (wu [] (ih60 (w64 (g+1)) h) Q Q Q Q)))))))))
     refine wy 71 hc Q (xw (rg 10 17) (zz8 g_ d i [(1,.B 4 0),(3,.I c),(4,.B 6 0),(6,.B 8 0),(8,.S 2),(9,.I (g_.Edges.length:Int)),(10,.I c),(32,.S 2),(33,.I (g_.Edges.length:Int)),(34,.I g),(78,.O (i.To==d.From))]) J 7 ?_)
     rcases oc' h with ⟨hc,h⟩ | ⟨hc,h⟩
     ·exact wy 78 hc Q (wx (zz28 g_ d [(1,.B 4 0),(3,.I c),(4,.B 6 0),(8,.S 2),(9,.I (g_.Edges.length:Int)),(10,.I c),(32,.S 2),(33,.I (g_.Edges.length:Int)),(34,.I g),(95,.O false)]) J 17 (wn (wf Q Q (wi (wb (wg (ws J 2 Q (wn (wu [] (ih60 (w64 (g+1)) h) Q Q Q Q)))))))))
     refine wy 78 hc Q (xw (rg 18 9) (zz8 g_ d i [(1,.B 4 0),(3,.I c),(4,.B 6 0),(6,.B 8 0),(8,.S 2),(9,.I (g_.Edges.length:Int)),(10,.I c),(32,.S 2),(33,.I (g_.Edges.length:Int)),(34,.I g),(78,.O true),(86,.O (d.Act.From != i.Act.From))]) J 8 ?_)
     rcases oc h with ⟨hc,h⟩ | ⟨hc,h⟩
     ·refine wy 86 hc Q (wx (zz28 g_ d [(1,.B 4 0),(3,.I c),(4,.B 6 0),(8,.S 2),(9,.I (g_.Edges.length:Int)),(10,.I c),(32,.S 2),(33,.I (g_.Edges.length:Int)),(34,.I g),(95,.O true)]) J 9 (wn (wt Q Q (wq (wg (ws J 1 Q (wn ?_)))))))
      cases h
      exact we J Tryz.func64 [] Q Q Q Q
     refine wy 86 hc Q (wx (zz28 g_ d [(1,.B 4 0),(3,.I c),(4,.B 6 0),(8,.S 2),(9,.I (g_.Edges.length:Int)),(10,.I c),(32,.S 2),(33,.I (g_.Edges.length:Int)),(34,.I g),(95,.O (d.Act.Label != i.Act.Label))]) J 9 (wn ?_))
     rcases oc h with ⟨hc,h⟩ | ⟨hc,h⟩
     ·refine wt hc Q (wq (wg (ws J 1 Q (wn ?_))))
      cases h
      exact we J Tryz.func64 [] Q Q Q Q
     exact wf hc Q (wi (wb (wg (ws J 2 Q (wn (wu [] (ih60 (w64 (g+1)) h) Q Q Q Q))))))
    rcases oc' h with ⟨hc,h⟩ | ⟨hc,h⟩
    ·exact wy 42 hc Q (wx (zz8 g_ d i [(1,.B 4 0),(3,.I c),(4,.B 6 0),(6,.B 8 0),(8,.S 2),(9,.I (g_.Edges.length:Int)),(10,.I c),(32,.S 2),(33,.I (g_.Edges.length:Int)),(34,.I g),(68,.O false)]) J 26 (wn (wu [] (j63 false h) Q Q Q Q)))
    refine wy 42 hc Q (xw (rg 11 19) (zz8 g_ d i [(1,.B 4 0),(3,.I c),(4,.B 6 0),(6,.B 8 0),(8,.S 2),(9,.I (g_.Edges.length:Int)),(10,.I c),(32,.S 2),(33,.I (g_.Edges.length:Int)),(34,.I g),(49,.O (d.From==i.From))]) J 7 ?_)
    rcases oc' h with ⟨hc,h⟩ | ⟨hc,h⟩
    ·exact wy 49 hc Q (wx (zz8 g_ d i [(1,.B 4 0),(3,.I c),(4,.B 6 0),(6,.B 8 0),(8,.S 2),(9,.I (g_.Edges.length:Int)),(10,.I c),(32,.S 2),(33,.I (g_.Edges.length:Int)),(34,.I g),(68,.O false)]) J 19 (wn (wu [] (j63 false h) Q Q Q Q)))
    refine wy 49 hc Q (xw (rg 15 15) (zz8 g_ d i [(1,.B 4 0),(3,.I c),(4,.B 6 0),(6,.B 8 0),(8,.S 2),(9,.I (g_.Edges.length:Int)),(10,.I c),(32,.S 2),(33,.I (g_.Edges.length:Int)),(34,.I g),(49,.O true),(51,.a (cC6 d.Act)),(53,.a (cC6 i.Act))]) J 4 (WPr.eqa (neg:=false) (equal_run (b:=((d.Act.From==i.Act.From) && ((d.Act.To==i.Act.To) && ((d.Act.Label==i.Act.Label) && true)))) (by kernel_rfl) (by kernel_rfl)) (by kernel_rfl) Q Q Q Q Q Q Q (ws J 1 Q ?_)))
    rcases oc h with ⟨hc,h⟩ | ⟨hc,h⟩
    ·exact wy 55 hc Q (wx (zz8 g_ d i [(1,.B 4 0),(3,.I c),(4,.B 6 0),(6,.B 8 0),(8,.S 2),(9,.I (g_.Edges.length:Int)),(10,.I c),(32,.S 2),(33,.I (g_.Edges.length:Int)),(34,.I g),(68,.O true)]) J 13 (wn (wu [] (j63 true h) Q Q Q Q)))
    refine wy 55 hc Q (xw [26,27,28,29] (zz8 g_ d i [(1,.B 4 0),(3,.I c),(4,.B 6 0),(6,.B 8 0),(8,.S 2),(9,.I (g_.Edges.length:Int)),(10,.I c),(32,.S 2),(33,.I (g_.Edges.length:Int)),(34,.I g),(49,.O true),(64,.O (d.Act.From != i.Act.From))]) J 9 ?_)
    rcases oc h with ⟨hc,h⟩ | ⟨hc,h⟩
    ·exact wy 64 hc Q (wx (zz8 g_ d i [(1,.B 4 0),(3,.I c),(4,.B 6 0),(6,.B 8 0),(8,.S 2),(9,.I (g_.Edges.length:Int)),(10,.I c),(32,.S 2),(33,.I (g_.Edges.length:Int)),(34,.I g),(68,.O true)]) J 4 (wn (wu [] (j63 true h) Q Q Q Q)))
    exact wy 64 hc Q (wx (zz8 g_ d i [(1,.B 4 0),(3,.I c),(4,.B 6 0),(6,.B 8 0),(8,.S 2),(9,.I (g_.Edges.length:Int)),(10,.I c),(32,.S 2),(33,.I (g_.Edges.length:Int)),(34,.I g),(68,.O d.Again)]) J 4 (wn (wu [] (j63 d.Again h) Q Q Q Q)))
   exact wu [] (ih N 0 h) Q Q Q Q
  rcases oc h with ⟨hc,h⟩ | ⟨hc,h⟩
  ·exact wy 20 hc Q (wx (zz6 g_ d [(1,.B 4 0),(3,.I c),(4,.B 6 0),(8,.S 2),(9,.I (g_.Edges.length:Int)),(10,.I c),(30,.O true)]) J 10 (wn (wu [] (j54 true h) Q Q Q Q)))
  refine wy 20 hc Q (xw (rg 9 7) (zz6 g_ d [(1,.B 4 0),(3,.I c),(4,.B 6 0),(8,.S 2),(9,.I (g_.Edges.length:Int)),(10,.I c),(20,.O false),(23,.O d.Again)]) J 3 ?_)
  rcases oc h with ⟨hc,h⟩ | ⟨hc,h⟩
  ·exact wy 23 hc Q (wx (zz6 g_ d [(1,.B 4 0),(3,.I c),(4,.B 6 0),(8,.S 2),(9,.I (g_.Edges.length:Int)),(10,.I c),(30,.O (d.From==g_.Start))]) J 7 (wn (wu [] (j54 (d.From==g_.Start) h) Q Q Q Q)))
  exact wy 23 hc Q (wx (zz6 g_ d [(1,.B 4 0),(3,.I c),(4,.B 6 0),(8,.S 2),(9,.I (g_.Edges.length:Int)),(10,.I c),(30,.O false)]) J 7 (wn (wu [] (j54 false h) Q Q Q Q)))
 exact wu [] (ih N 0 h) Q Q Q Q
theorem z65_ct (N:Nat) (g_:T4) (r:Bool) (h:z65 N g_=some r) :
 Fn Tryz.prog 65 ⟨4,[.a (cC4 0 1 2 3 g_)],(vV4 0 1 2 3 g_ []),[],4,.O r,[],[]⟩:=by
 refine Fn.intro _ _ Tryz.func65 rfl (by kernel_rfl) rfl (fun E F w=>?_)
 unfold z65 at h
 refine wq (wg (ws J 2 Q (wn (wq (wg (wx (zz2 g_ [(1,.B 4 0),(2,.O false),(3,.I (-1))]) J 1 (wn (wq (wq (wg (wx (zz2 g_ [(1,.B 4 0),(2,.O false),(3,.I (-1)),(7,.S 3),(8,.I (g_.Timeouts.length:Int)),(9,.I 0)]) J 4 (wn ?_))))))))))))
 refine wC (σ:=Unit) (fun st=>(zz7 g_ [])) (fun st=>z65_k1=some r) ?_ (fun j1=>?_)
 ·intro _ h
  replace h:z65_k1=some r:=h
  unfold z65_k1 at h
  refine wq (wg (ws J 1 Q (wn ?_)))
  cases h
  exact we J Tryz.func65 [] Q Q Q Q
 refine wo ?_
 refine wI (σ:=Int × Int) (fun st=>(zz2 g_ [(1,.B 4 0),(3,.I st.1),(7,.S 3),(8,.I (g_.Timeouts.length:Int)),(9,.I st.2)])) (fun n st=>z65_l2 g_ n st.1 st.2) (r:=r) (fun _=>rfl) ?_ (fun ih=>?_)
 ·intro n2 ih3
  rintro ⟨c,d⟩ h
  replace h:z65_l2 g_ (n2+1) c d=some r:=h
  unfold z65_l2 at h
  refine wq (wg (ws J 1 Q (wn (wq ?_))))
  rcases oc' h with ⟨hc,h⟩ | ⟨hc,h⟩
  ·exact wf hc Q (wz rfl (wu [] (j1 () h) Q Q Q Q))
  refine wt hc Q (wi (wq (wo (wq (wg ?_)))))
  obtain ⟨e,f,h⟩:=ob h
  refine wj oO8 J f Q Q Q Q Q Q Q Q Q (wx (zz12 g_ e [(1,.B 4 0),(3,.I c),(5,.B 6 0),(7,.S 3),(8,.I (g_.Timeouts.length:Int)),(9,.I d)]) J 3 (wn (wq (wq (wQ (by kernel_rfl) (by kernel_rfl) (xq (rg 5 43) (zz12 g_ e [(1,.B 4 0),(5,.B 6 0),(7,.S 3),(8,.I (g_.Timeouts.length:Int)),(9,.I d),(17,.O (decide (e.State≤c)))]) J 5 ?_))))))
  rcases oc h with ⟨hc,h⟩ | ⟨hc,h⟩
  ·refine qy 17 hc Q (qx (zz12 g_ e [(1,.B 4 0),(5,.B 6 0),(7,.S 3),(8,.I (g_.Timeouts.length:Int)),(9,.I d),(60,.O true)]) J 43 (qn (wt Q Q (wq (wg (ws J 1 Q (wn ?_)))))))
   cases h
   exact we J Tryz.func65 [] Q Q Q Q
  refine qy 17 hc Q (xq (rg 10 38) (zz12 g_ e [(1,.B 4 0),(5,.B 6 0),(7,.S 3),(8,.I (g_.Timeouts.length:Int)),(9,.I d),(22,.O (decide (e.Ticks < 1)))]) J 5 ?_)
  rcases oc h with ⟨hc,h⟩ | ⟨hc,h⟩
  ·refine qy 22 hc Q (qx (zz12 g_ e [(1,.B 4 0),(5,.B 6 0),(7,.S 3),(8,.I (g_.Timeouts.length:Int)),(9,.I d),(60,.O true)]) J 38 (qn (wt Q Q (wq (wg (ws J 1 Q (wn ?_)))))))
   cases h
   exact we J Tryz.func65 [] Q Q Q Q
  refine qy 22 hc Q (xq (rg 15 33) (zz12 g_ e [(1,.B 4 0),(5,.B 6 0),(7,.S 3),(8,.I (g_.Timeouts.length:Int)),(9,.I d),(27,.O (decide (e.Ticks > 1000)))]) J 5 ?_)
  rcases oc h with ⟨hc,h⟩ | ⟨hc,h⟩
  ·refine qy 27 hc Q (qx (zz12 g_ e [(1,.B 4 0),(5,.B 6 0),(7,.S 3),(8,.I (g_.Timeouts.length:Int)),(9,.I d),(60,.O true)]) J 33 (qn (wt Q Q (wq (wg (ws J 1 Q (wn ?_)))))))
   cases h
   exact we J Tryz.func65 [] Q Q Q Q
  refine qy 27 hc Q (xq (rg 20 28) (zz12 g_ e [(1,.B 4 0),(5,.B 6 0),(7,.S 3),(8,.I (g_.Timeouts.length:Int)),(9,.I d),(32,.O (decide (e.Else < 0)))]) J 5 ?_)
  rcases oc h with ⟨hc,h⟩ | ⟨hc,h⟩
  ·refine qy 32 hc Q (qx (zz12 g_ e [(1,.B 4 0),(5,.B 6 0),(7,.S 3),(8,.I (g_.Timeouts.length:Int)),(9,.I d),(60,.O true)]) J 28 (qn (wt Q Q (wq (wg (ws J 1 Q (wn ?_)))))))
   cases h
   exact we J Tryz.func65 [] Q Q Q Q
  refine qy 32 hc Q (xq (rg 28 20) (zz12 g_ e [(1,.B 4 0),(5,.B 6 0),(7,.S 3),(8,.I (g_.Timeouts.length:Int)),(9,.I d),(40,.O (decide (e.Else≥(g_.Edges.length:Int))))]) J 8 ?_)
  rcases oc h with ⟨hc,h⟩ | ⟨hc,h⟩
  ·refine qy 40 hc Q (qx (zz12 g_ e [(1,.B 4 0),(5,.B 6 0),(7,.S 3),(8,.I (g_.Timeouts.length:Int)),(9,.I d),(60,.O true)]) J 20 (qn (wt Q Q (wq (wg (ws J 1 Q (wn ?_)))))))
   cases h
   exact we J Tryz.func65 [] Q Q Q Q
  refine qy 40 hc Q (xq (rg 32 16) (zz12 g_ e [(1,.B 4 0),(5,.B 6 0),(7,.S 3),(8,.I (g_.Timeouts.length:Int)),(9,.I d),(40,.O false),(42,.S 2),(44,.I e.Else)]) J 4 ?_)
  obtain ⟨g,i,h⟩:=ob h
  refine WPq.op Q Q (VN.vs (VN.ix oO2 J i Q Q Q Q Q Q Q)) (xq (rg 40 8) (zz34 g_ e [(1,.B 4 0),(5,.B 6 0),(7,.S 3),(8,.I (g_.Timeouts.length:Int)),(9,.I d),(52,.O (g.From != e.State))]) J 7 ?_)
  rcases oc h with ⟨hc,h⟩ | ⟨hc,h⟩
  ·refine qy 52 hc Q (qx (zz34 g_ e [(1,.B 4 0),(5,.B 6 0),(7,.S 3),(8,.I (g_.Timeouts.length:Int)),(9,.I d),(60,.O true)]) J 8 (qn (wt Q Q (wq (wg (ws J 1 Q (wn ?_)))))))
   cases h
   exact we J Tryz.func65 [] Q Q Q Q
  refine qy 52 hc Q (xq [44,45,46,47] (zz34 g_ e [(1,.B 4 0),(5,.B 6 0),(7,.S 3),(8,.I (g_.Timeouts.length:Int)),(9,.I d),(52,.O false),(54,.S 2),(56,.I e.Else)]) J 4 ?_)
  obtain ⟨j,k,h⟩:=ob h
  refine WPq.op Q Q (VN.vs (VN.ix oO2 J k Q Q Q Q Q Q Q)) (qx ⟨[(1,.B 4 0),(5,.B 6 0),(7,.S 3),(8,.I (g_.Timeouts.length:Int)),(9,.I d),(60,.O j.Again)],[(4,.box (cC4 0 1 2 3 g_) 27),(6,.box (cC8 e) 79)],(vV4 0 1 2 3 g_ []),9⟩ J 3 (qn ?_))
  rcases oc h with ⟨hc,h⟩ | ⟨hc,h⟩
  ·refine wt hc Q (wq (wg (ws J 1 Q (wn ?_))))
   cases h
   exact we J Tryz.func65 [] Q Q Q Q
  exact wf hc Q (wi (wg (wx (zz70 g_ [(1,.B 4 0),(3,.I e.State),(7,.S 3),(8,.I (g_.Timeouts.length:Int)),(9,.I d)]) J 3 (wn (wb (wg (ws J 2 Q (wn (wu [] (ih3 (e.State,(w64 (d+1))) h) Q Q Q Q)))))))))
 exact wu [] (ih N ((-1),0) h) Q Q Q Q
theorem z156_ct (N:Nat) (x_:Int) (y_:Int) (r:Int × Int) (h:z156 N x_ y_=some r) :
 Fn Tryz.prog 156 ⟨0,[.c (.i .u64 x_),.c (.i .u64 y_)],[],[],0,.t [.inl (.i .u64 r.1),.inl (.i .u64 r.2)],[],[]⟩:=by
 refine Fn.intro _ _ Tryz.func156 rfl (by kernel_rfl) rfl (fun E F w=>?_)
 unfold z156 at h
 refine wq (wg (ws J 2 Q (wn (wq (wg (xw [1,2] (zz0 [(0,.c (.i .u64 x_)),(1,.c (.i .u64 y_)),(4,.c (.i .u64 0)),(5,.c (.i .u64 0)),(14,.c (.i .u64 x_))]) J 1 ?_))))))
 obtain ⟨x1,d,h⟩:=ob h
 refine WPr.bin d Q Q Q Q Q Q Q Q (ws J 1 Q (wn (wq (wg (xw [1,2] (zz0 [(0,.c (.i .u64 x_)),(1,.c (.i .u64 y_)),(4,.c (.i .u64 0)),(5,.c (.i .u64 0)),(6,.c (.i .u64 x1)),(16,.c (.i .u64 x_))]) J 1 ?_)))))
 obtain ⟨x2,e,h⟩:=ob h
 refine WPr.bin e Q Q Q Q Q Q Q Q (ws J 1 Q (wn (wq (wg (xw [1,2] (zz0 [(0,.c (.i .u64 x_)),(1,.c (.i .u64 y_)),(4,.c (.i .u64 0)),(5,.c (.i .u64 0)),(6,.c (.i .u64 x1)),(7,.c (.i .u64 x2)),(18,.c (.i .u64 y_))]) J 1 ?_)))))
 obtain ⟨x3,f,h⟩:=ob h
 refine WPr.bin f Q Q Q Q Q Q Q Q (ws J 1 Q (wn (wq (wg (xw [1,2] (zz0 [(0,.c (.i .u64 x_)),(1,.c (.i .u64 y_)),(4,.c (.i .u64 0)),(5,.c (.i .u64 0)),(6,.c (.i .u64 x1)),(7,.c (.i .u64 x2)),(8,.c (.i .u64 x3)),(20,.c (.i .u64 y_))]) J 1 ?_)))))
 obtain ⟨x4,g,h⟩:=ob h
 refine WPr.bin g Q Q Q Q Q Q Q Q (ws J 1 Q (wn (wq (wg (wx (zz0 [(0,.c (.i .u64 x_)),(1,.c (.i .u64 y_)),(4,.c (.i .u64 0)),(5,.c (.i .u64 0)),(6,.c (.i .u64 x1)),(7,.c (.i .u64 x2)),(8,.c (.i .u64 x3)),(9,.c (.i .u64 x4)),(10,.c (.i .u64 (wk .u64 (x1 * x3))))]) J 4 (wn (wq (wg (xw [4,5,6] (zz0 [(0,.c (.i .u64 x_)),(1,.c (.i .u64 y_)),(4,.c (.i .u64 0)),(5,.c (.i .u64 0)),(6,.c (.i .u64 x1)),(7,.c (.i .u64 x2)),(9,.c (.i .u64 x4)),(27,.c (.i .u64 (wk .u64 (x2 * x3)))),(28,.c (.i .u64 (wk .u64 (x1 * x3))))]) J 4 ?_)))))))))
 obtain ⟨x5,j,h⟩:=ob h
 refine WPr.bin j Q Q Q Q Q Q Q Q (wx (zz0 [(0,.c (.i .u64 x_)),(1,.c (.i .u64 y_)),(4,.c (.i .u64 0)),(5,.c (.i .u64 0)),(6,.c (.i .u64 x1)),(7,.c (.i .u64 x2)),(9,.c (.i .u64 x4)),(11,.c (.i .u64 (wk .u64 ((wk .u64 (x2 * x3))+x5))))]) J 2 (wn (wq (wg (ws J 1 Q ?_)))))
 obtain ⟨x6,k,h⟩:=ob h
 refine WPr.bin k Q Q Q Q Q Q Q Q (wx (zz0 [(0,.c (.i .u64 x_)),(1,.c (.i .u64 y_)),(4,.c (.i .u64 0)),(5,.c (.i .u64 0)),(6,.c (.i .u64 x1)),(7,.c (.i .u64 x2)),(9,.c (.i .u64 x4)),(11,.c (.i .u64 (wk .u64 ((wk .u64 (x2 * x3))+x5)))),(12,.c (.i .u64 x6))]) J 1 (wn (wq (wg (ws J 1 Q ?_)))))
 obtain ⟨x7,l,h⟩:=ob h
 refine WPr.bin l Q Q Q Q Q Q Q Q (wx (zz0 [(0,.c (.i .u64 x_)),(1,.c (.i .u64 y_)),(4,.c (.i .u64 0)),(5,.c (.i .u64 0)),(6,.c (.i .u64 x1)),(7,.c (.i .u64 x2)),(9,.c (.i .u64 x4)),(12,.c (.i .u64 x6)),(13,.c (.i .u64 x7))]) J 1 (wn (wq (wg (wx (zz0 [(0,.c (.i .u64 x_)),(1,.c (.i .u64 y_)),(4,.c (.i .u64 0)),(5,.c (.i .u64 0)),(7,.c (.i .u64 x2)),(9,.c (.i .u64 x4)),(12,.c (.i .u64 (wk .u64 (x6+(wk .u64 (x1 * x4)))))),(13,.c (.i .u64 x7))]) J 6 (wn (wq (wg (xw [6,7,8] (zz0 [(0,.c (.i .u64 x_)),(1,.c (.i .u64 y_)),(5,.c (.i .u64 0)),(44,.c (.i .u64 (wk .u64 ((wk .u64 (x2 * x4))+x7)))),(45,.c (.i .u64 (wk .u64 (x6+(wk .u64 (x1 * x4))))))]) J 6 ?_)))))))))
 obtain ⟨x8,m,h⟩:=ob h
 refine WPr.bin m Q Q Q Q Q Q Q Q (wx (zz0 [(0,.c (.i .u64 x_)),(1,.c (.i .u64 y_)),(4,.c (.i .u64 (wk .u64 ((wk .u64 ((wk .u64 (x2 * x4))+x7))+x8)))),(5,.c (.i .u64 0))]) J 2 (wn (wq (wg (wx (zz0 [(4,.c (.i .u64 (wk .u64 ((wk .u64 ((wk .u64 (x2 * x4))+x7))+x8)))),(5,.c (.i .u64 (wk .u64 (x_ * y_))))]) J 4 (wn ?_))))))
 cases h
 exact we J Tryz.func156 [] Q Q Q Q
theorem z119_ct (N:Nat) (x_:Int) (y_:Int) (r:Int × Int) (h:z119 N x_ y_=some r) :
 Fn Tryz.prog 119 ⟨0,[.c (.i .u64 x_),.c (.i .u64 y_)],[],[],0,.t [.inl (.i .u64 r.1),.inl (.i .u64 r.2)],[],[]⟩:=by
 refine Fn.intro _ _ Tryz.func119 rfl (by kernel_rfl) rfl (fun E F w=>?_)
 unfold z119 at h
 refine wq (wg (ws J 2 Q (wn (wq (WP.condCF (wi (wq (wg (xw (rg 2 6) (zz0 [(4,.c (.i .u64 0)),(5,.c (.i .u64 0)),(23,.c (.i .u64 x_)),(24,.c (.i .u64 y_))]) J 2 ?_)))))))))
 obtain ⟨x1,d,h⟩:=ob h
 refine wc (z156_ct N x_ y_ _ d) [] [] Q Q Q Q Q Q Q Q (.inl rfl) rfl (wx (zz0 [(4,.c (.i .u64 0)),(5,.c (.i .u64 0)),(8,.c (.i .u64 x1.1)),(9,.c (.i .u64 x1.2))]) J 5 (wn (wq (wg (wx (zz0 [(4,.c (.i .u64 x1.1)),(5,.c (.i .u64 x1.2))]) J 4 (wn ?_))))))
 cases h
 exact we J Tryz.func119 [] Q Q Q Q
theorem z58_ct (N:Nat) (x_:(List Int)) (count_:Int) (r:(List Int)) (h:z58 N x_ count_=some r) :
 Fn Tryz.prog 58 ⟨1,[.S 0,.I count_],[(0,.sl (rI .i64) x_)],[],2,.S 1,[],[(1,.own (rI .i64) r true)]⟩:=by
 refine Fn.intro _ _ Tryz.func58 rfl (by kernel_rfl) rfl (fun E F w=>?_)
 unfold z58 at h
 refine wq (wg (ws J 1 Q (wn (wq (wq (wg (wx (zz20 x_ [(0,.S 0),(1,.I count_),(4,.c .nil),(10,.O (decide (count_ < 0)))]) J 2 (wn ?_))))))))
 rcases oc h with ⟨hc,h⟩ | ⟨hc,h⟩
 ·refine wt hc Q (wg ?_)
  cases h
 refine wf hc Q (wi (wq (wg (xw (rg 5 6) (zz20 x_ [(0,.S 0),(4,.c .nil),(15,.c (.i .u64 (wk .u64 ((x_.length:Int))))),(17,.c (.i .u64 (wk .u64 (count_))))]) J 5 ?_))))
 obtain ⟨x1,d,h⟩:=ob h
 refine wc (z119_ct N (wk .u64 ((x_.length:Int))) (wk .u64 (count_)) _ d) [] [] Q Q Q Q Q Q Q Q (.inl rfl) rfl (wx (zz20 x_ [(0,.S 0),(4,.c .nil),(5,.c (.i .u64 x1.1)),(6,.c (.i .u64 x1.2))]) J 5 (wn (wq (wq (wg (xw [3,4,5] (zz20 x_ [(0,.S 0),(4,.c .nil),(6,.c (.i .u64 x1.2)),(23,.O (decide (x1.1 > 0)))]) J 3 ?_))))))
 refine WP.cutr (σ:=Bool) (fun st=>(zz20 x_ [(0,.S 0),(6,.c (.i .u64 x1.2)),(26,.O st)])) (fun st=>z58_k3 N x_ x1 st=some r) ?_ (fun j2=>?_)
 ·intro e h
  replace h:z58_k3 N x_ x1 e=some r:=h
  unfold z58_k3 at h
  rcases oc h with ⟨hc,h⟩ | ⟨hc,h⟩
  ·refine wt hc Q (wg ?_)
   cases h
  refine wf hc Q (wi (wq (wg (ws J 2 Q ?_))))
  obtain ⟨x2,f,h⟩:=ob h
  refine WPr.mk (oI .i64) J 0 f Q Q Q Q Q Q Q Q (by exact an Q Q) rfl (wx (zz71 x2 x_ [(0,.S 0),(7,.S 1)]) J 1 (wn (wq (wg (ws J 2 Q ?_)))))
  obtain ⟨x3,g,h⟩:=ob h
  refine WPr.cp J g (by exact (srcI rfl)) Q Q Q Q Q (Or.inr ⟨rfl,rfl,rfl⟩) Q Q Q Q (wx (zz71 x3.1 x_ [(7,.S 1),(8,.I x3.2)]) J 1 (wn (wq ?_)))
  refine wC (σ:=(List Int)) (fun st=>(zz71 st x_ [(7,.S 1)])) (fun st=>z58_k1 st=some r) ?_ (fun j4=>?_)
  ·intro j h
   replace h:z58_k1 j=some r:=h
   unfold z58_k1 at h
   refine wq (wg (ws J 2 Q (wn ?_)))
   cases h
   exact we J Tryz.func58 [(1,.sl 1)] Q Q Q Q
  refine wo ?_
  refine wI (σ:=(List Int) × Int) (fun st=>(zz71 st.1 x_ [(7,.S 1),(8,.I st.2)])) (fun n st=>z58_l2 n st.1 st.2) (r:=r) (fun _=>rfl) ?_ (fun ih=>?_)
  ·intro n2 ih6
   rintro ⟨m,o⟩ h
   replace h:z58_l2 (n2+1) m o=some r:=h
   unfold z58_l2 at h
   refine wq (wq (wg (wx (zz71 m x_ [(7,.S 1),(8,.I o),(37,.O (decide (o < (m.length:Int))))]) J 4 (wn ?_))))
   rcases oc' h with ⟨hc,h⟩ | ⟨hc,h⟩
   ·exact wf hc Q (wz rfl (wu [] (j4 m h) Q Q Q Q))
   refine wt hc Q (wi (wo (wN (fun A9 p q=>?_))))
   have s:A9 0 (zz97 [(8,.I o)] [(38,.I o)]):=p _ _ (wl J Q Q Q Q Q Q)
   have u:A9 1 (zz97 [(7,.S 1)] [(39,.S 1)]):=p _ _ (wl J Q Q Q Q Q Q)
   have v:A9 2 (zz97 [(8,.I o)] [(40,.I o)]):=p _ _ (wl J Q Q Q Q Q Q)
   obtain ⟨x,y,h⟩:=ob h
   have z:A9 3 ⟨[(39,.S 1),(40,.I o)],[],[],[(1,.own (rI .i64) m true)],2,[(41,.S 2)],[(2,.vw 1 (some o) none ((rI .i64)).sz)],[],3⟩:=p _ _ (wO Q Q Q (fun _ _ _ _ _ _ _ k=>WPr.vw J (l:=some (.i64,o)) (h:=none) y Q Q Q Q Q Q Q Q Q Q (k)) rfl)
   have A:A9 4 ⟨[(7,.S 1)],[],[],[],3,[(42,.S 1)],[],[],3⟩:=p _ _ (wl J Q Q Q Q Q Q)
   have C:A9 5 ⟨[(8,.I o)],[],[],[],3,[(43,.I o)],[],[],3⟩:=p _ _ (wl J Q Q Q Q Q Q)
   obtain ⟨D,G,h⟩:=ob h
   have H:A9 6 ⟨[(42,.S 1),(43,.I o)],[],[],[(1,.own (rI .i64) m true)],3,[(44,.S 3)],[(3,.vw 1 none (some o) ((rI .i64)).sz)],[],4⟩:=p _ _ (wO Q Q Q (fun _ _ _ _ _ _ _ k=>WPr.vw J (l:=none) (h:=some (.i64,o)) G Q Q Q Q Q Q Q Q Q Q (k)) rfl)
   obtain ⟨K,R,h⟩:=ob h
   have T:A9 7 ⟨[(41,.S 2),(44,.S 3)],[(2,.vw 1 (some o) none ((rI .i64)).sz),(3,.vw 1 none (some o) ((rI .i64)).sz)],[(1,.own (rI .i64) m true)],[],4,[(45,.I K.2)],[],[(1,.own (rI .i64) K.1 true)],4⟩:=p _ _ (wO Q Q Q (fun _ _ _ _ _ _ _ k=>WPr.cp J R (by exact (srcV G Q Q)) Q Q Q Q Q (Or.inl rfl) Q Q Q Q (k)) rfl)
   have U:A9 8 (zz27 [(38,.I o),(45,.I K.2)] [(46,.I (w64 (o+K.2)))]):=p _ _ (wl J Q Q Q Q Q Q)
   have X:A9 9 (zz27 [(46,.I (w64 (o+K.2)))] [(8,.I (w64 (o+K.2)))]):=p _ _ (wl J Q Q Q Q Q Q)
   exact wD (t:=⟨[(7,.S 1),(8,.I (w64 (o+K.2)))],[(1,.own (rI .i64) K.1 true)],[(0,.sl (rI .i64) x_)],4⟩) [0,0,0,6,0,0,48,126,255,511] (.cons (q _ _ s) (.cons (q _ _ u) (.cons (q _ _ v) (.cons (q _ _ z) (.cons (q _ _ A) (.cons (q _ _ C) (.cons (q _ _ H) (.cons (q _ _ T) (.cons (q _ _ U) (.cons (q _ _ X) .nil)))))))))) (by kernel_rfl) (by kernel_rfl) (by kernel_rfl) (by kernel_rfl) (wb (wu [] (ih6 (K.1,(w64 (o+K.2))) h) Q Q Q Q))
  exact wu [] (ih N (x3.1,x3.2) h) Q Q Q Q
 rcases oc h with ⟨hc,h⟩ | ⟨hc,h⟩
 ·exact wy 23 hc Q (wx (zz20 x_ [(0,.S 0),(4,.c .nil),(6,.c (.i .u64 x1.2)),(26,.O true)]) J 3 (wn (wu [] (j2 true h) Q Q Q Q)))
 exact wy 23 hc Q (wx (zz20 x_ [(0,.S 0),(4,.c .nil),(6,.c (.i .u64 x1.2)),(26,.O (decide (x1.2 > 9223372036854775807)))]) J 3 (wn (wu [] (j2 (decide (x1.2 > 9223372036854775807)) h) Q Q Q Q)))
theorem z67_ct (N:Nat) (g_:T4) (from_:Int) (back_:Bool) (r:(List Int)) (h:z67 N g_ from_ back_=some r) :
 Fn Tryz.prog 67 ⟨4,[.a (cC4 0 1 2 3 g_),.I from_,.O back_],(vV4 0 1 2 3 g_ []),[],5,.S 4,[],[(4,.own (rI .i64) r true)]⟩:=by
 refine Fn.intro _ _ Tryz.func67 rfl (by kernel_rfl) rfl (fun E F w=>?_)
 unfold z67 at h
 refine wq (wg (ws J 2 Q (wn (wq (wg (WPr.bs (cs:=[.I (-1)]) (oI .i64) J ([(-1)]:List Int) Q Q Q Q Q Q (by kernel_rfl) (by exact (an Q Q)) rfl (xw [3,4] ⟨[(1,.I from_),(2,.O back_),(3,.B 4 0),(6,.c .nil),(13,.S 5),(15,.I g_.States)],[(4,.box (cC4 0 1 2 3 g_) 27),(5,.own (rI .i64) ([(-1)]:List Int) true)],(vV4 0 1 2 3 g_ []),6⟩ J 2 ?_)))))))
 obtain ⟨x1,d,h⟩:=ob h
 refine wc (z58_ct N ([(-1)]:List Int) g_.States _ d) [(0,.sl 5)] [5] Q Q Q Q Q Q Q Q (.inr ⟨rfl,⟨(rI_flat _),trivial⟩⟩) rfl (wx ⟨[(1,.I from_),(2,.O back_),(3,.B 4 0),(6,.c .nil),(7,.S 6)],[(4,.box (cC4 0 1 2 3 g_) 27),(6,.own (rI .i64) x1 true)],(vV4 0 1 2 3 g_ []),7⟩ J 1 (wn (wq (wg (ws J 2 Q ?_)))))
 obtain ⟨x2,e,h⟩:=ob h
 refine wX J e Q Q Q Q Q Q Q Q Q (xw [3] ⟨[(1,.I from_),(2,.O back_),(3,.B 4 0),(6,.c .nil),(7,.S 6),(19,.P 7 0)],[(4,.box (cC4 0 1 2 3 g_) 27),(6,.own (rI .i64) x1 true)],(vV4 0 1 2 3 g_ [(7,.el 6 ((from_).toNat * ((rI .i64)).sz))]),8⟩ J 0 (WPr.sto (oI .i64) J 0 e Q Q Q Q Q Q Q Q Q Q (by exact rfl) rfl (wn (wq (wq (wg (ws J 1 Q (WPr.bs (cs:=[.I from_]) (oI .i64) J ([from_]:List Int) Q Q Q Q Q Q (by kernel_rfl) (by exact (an Q Q)) rfl (wx ⟨[(2,.O back_),(3,.B 4 0),(6,.c .nil),(7,.S 6),(8,.S 8)],[(4,.box (cC4 0 1 2 3 g_) 27),(6,.own (rI .i64) (setL' x1 from_ 0) true),(8,.own (rI .i64) ([from_]:List Int) true)],(vV4 0 1 2 3 g_ []),9⟩ J 1 (wn ?_))))))))))
 refine wC (σ:=(List Int)) (fun st=>⟨[(7,.S 6)],[(6,.own (rI .i64) st true)],(vV4 0 1 2 3 g_ []),9⟩) (fun st=>z67_k1 st=some r) ?_ (fun j1=>?_)
 ·intro f h
  replace h:z67_k1 f=some r:=h
  unfold z67_k1 at h
  refine wq (wg (ws J 2 Q (wn ?_)))
  cases h
  exact we J Tryz.func67 [(4,.sl 6)] Q Q Q Q
 refine wo ?_
 refine wI (σ:=(List Int) × (List Int)) (fun st=>(zz120 g_ st.1 st.2 [(2,.O back_),(3,.B 4 0),(7,.S 6),(8,.S 9)])) (fun n st=>z67_l2 N g_ back_ n st.1 st.2) (r:=r) (fun _=>rfl) ?_ (fun ih=>?_)
 ·intro n12 ih30
  rintro ⟨g,i⟩ h
  replace h:z67_l2 N g_ back_ (n12+1) g i=some r:=h
  unfold z67_l2 at h
  refine wq (wq (wg (wx (zz120 g_ g i [(2,.O back_),(3,.B 4 0),(7,.S 6),(8,.S 9),(24,.O (decide ((i.length:Int) > 0)))]) J 3 (wn ?_))))
  rcases oc' h with ⟨hc,h⟩ | ⟨hc,h⟩
  ·exact wf hc Q (wz rfl (wu [] (j1 g h) Q Q Q Q))
  refine wt hc Q (wi (wq (wo (wq (wg (wx (zz120 g_ g i [(2,.O back_),(3,.B 4 0),(7,.S 6),(8,.S 9),(28,.S 2),(29,.I (g_.Edges.length:Int)),(30,.I 0)]) J 4 (wn ?_)))))))
  refine wC (σ:=(List Int) × (List Int)) (fun st=>(zz155 g_ st.1 st.2 [(2,.O back_),(3,.B 4 0),(7,.S 6),(8,.S 10)])) (fun st=>z67_k3 (z67_l2 N g_ back_ n12) st.1 st.2=some r) ?_ (fun j49=>?_)
  ·rintro ⟨j,k⟩ h
   replace h:z67_k3 (z67_l2 N g_ back_ n12) j k=some r:=h
   unfold z67_k3 at h
   refine wb (wg (ws J 1 Q ?_))
   obtain ⟨m,o,h⟩:=ob h
   exact WPr.vw J (l:=some (.i64,1)) (h:=none) o Q Q Q Q Q Q Q Q Q Q (wx ⟨[(2,.O back_),(3,.B 4 0),(7,.S 6),(8,.S 11)],[(4,.box (cC4 0 1 2 3 g_) 27),(6,.own (rI .i64) j true),(10,.own (rI .i64) k true)],(vV4 0 1 2 3 g_ [(11,.vw 10 (some 1) none ((rI .i64)).sz)]),12⟩ J 1 (wn (WP.stl 11 o Q Q Q (wu [(9,.sl 11)] (ih30 (j,m) h) Q Q Q Q))))
  refine wo ?_
  refine wI (σ:=(List Int) × (List Int) × Int) (fun st=>(zz155 g_ st.1 st.2.1 [(2,.O back_),(3,.B 4 0),(7,.S 6),(8,.S 10),(28,.S 2),(29,.I (g_.Edges.length:Int)),(30,.I st.2.2)])) (fun n st=>z67_l4 g_ back_ (z67_l2 N g_ back_ n12) n st.1 st.2.1 st.2.2) (r:=r) (fun _=>rfl) ?_ (fun ih=>?_)
  ·intro n14 ih54
   rintro ⟨p,q,s⟩ h
   replace h:z67_l4 g_ back_ (z67_l2 N g_ back_ n12) (n14+1) p q s=some r:=h
   unfold z67_l4 at h
   refine wq (wg (ws J 1 Q (wn (wq ?_))))
   rcases oc' h with ⟨hc,h⟩ | ⟨hc,h⟩
   ·exact wf hc Q (wz rfl (wu [] (j49 (p,q) h) Q Q Q Q))
   refine wt hc Q (wi (wq (wo (wq (wg ?_)))))
   obtain ⟨t,u,h⟩:=ob h
   refine wj oO2 J u Q Q Q Q Q Q Q Q Q (wx ⟨[(2,.O back_),(3,.B 4 0),(7,.S 6),(8,.S 10),(10,.B 12 0),(28,.S 2),(29,.I (g_.Edges.length:Int)),(30,.I s)],[(4,.box (cC4 0 1 2 3 g_) 27),(6,.own (rI .i64) p true),(10,.own (rI .i64) q true),(12,.box (cC2 t) 43)],(vV4 0 1 2 3 g_ []),13⟩ J 3 (wn (wq (wQ (by kernel_rfl) (by kernel_rfl) (qx (zz121 g_ p q [(2,.O back_),(3,.B 4 0),(7,.S 6),(8,.S 10),(11,.I t.From),(12,.I t.To),(28,.S 2),(29,.I (g_.Edges.length:Int)),(30,.I s)]) J 6 (qn (wq (wq (wg (ws J 1 Q (wn ?_)))))))))))
   refine wC (σ:=Int × Int) (fun st=>(zz121 g_ p q [(2,.O back_),(3,.B 4 0),(7,.S 6),(8,.S 10),(11,.I st.1),(12,.I st.2),(28,.S 2),(29,.I (g_.Edges.length:Int)),(30,.I s)])) (fun st=>z67_k5 p q s (z67_l4 g_ back_ (z67_l2 N g_ back_ n12) n14) st.1 st.2=some r) ?_ (fun j57=>?_)
   ·rintro ⟨v,x⟩ h
    replace h:z67_k5 p q s (z67_l4 g_ back_ (z67_l2 N g_ back_ n12) n14) v x=some r:=h
    unfold z67_k5 at h
    refine wq (wg (ws J 2 Q ?_))
    obtain ⟨y,z,h⟩:=ob h
    refine wX J z Q Q Q Q Q Q Q Q Q (xw (rg 3 9) ⟨[(2,.O back_),(3,.B 4 0),(7,.S 6),(8,.S 10),(11,.I v),(12,.I x),(28,.S 2),(29,.I (g_.Edges.length:Int)),(30,.I s),(41,.I v),(43,.P 13 0)],[(4,.box (cC4 0 1 2 3 g_) 27),(6,.own (rI .i64) p true),(10,.own (rI .i64) q true)],(vV4 0 1 2 3 g_ [(13,.el 10 (((0:Int)).toNat * ((rI .i64)).sz))]),14⟩ J 0 (wL (oI .i64) J z Q Q Q Q Q Q Q Q Q Q (xw (rg 6 6) (zz156 g_ p q [(2,.O back_),(3,.B 4 0),(7,.S 6),(8,.S 10),(11,.I v),(12,.I x),(28,.S 2),(29,.I (g_.Edges.length:Int)),(30,.I s),(46,.O (v==y))]) J 2 ?_)))
    rcases oc' h with ⟨hc,h⟩ | ⟨hc,h⟩
    ·exact wy 46 hc Q (wx (zz156 g_ p q [(2,.O back_),(3,.B 4 0),(7,.S 6),(8,.S 10),(11,.I v),(12,.I x),(28,.S 2),(29,.I (g_.Edges.length:Int)),(30,.I s),(52,.O false)]) J 6 (wn (wf Q Q (wi (wb (wg (ws J 2 Q (wn (wu [] (ih54 (p,q,(w64 (s+1))) h) Q Q Q Q)))))))))
    refine wy 46 hc Q (ws J 2 Q ?_)
    obtain ⟨A,C,h⟩:=ob h
    refine wX J C Q Q Q Q Q Q Q Q Q (xw [9,10,11] ⟨[(2,.O back_),(3,.B 4 0),(7,.S 6),(8,.S 10),(11,.I v),(12,.I x),(28,.S 2),(29,.I (g_.Edges.length:Int)),(30,.I s),(46,.O true),(49,.P 14 0)],[(4,.box (cC4 0 1 2 3 g_) 27),(6,.own (rI .i64) p true),(10,.own (rI .i64) q true)],(vV4 0 1 2 3 g_ [(14,.el 6 ((x).toNat * ((rI .i64)).sz))]),15⟩ J 0 (wL (oI .i64) J C Q Q Q Q Q Q Q Q Q Q (wx (zz157 g_ p q [(2,.O back_),(3,.B 4 0),(7,.S 6),(8,.S 10),(11,.I v),(12,.I x),(28,.S 2),(29,.I (g_.Edges.length:Int)),(30,.I s),(52,.O (decide (A < 0)))]) J 2 (wn ?_))))
    rcases oc' h with ⟨hc,h⟩ | ⟨hc,h⟩
    ·exact wf hc Q (wi (wb (wg (ws J 2 Q (wn (wu [] (ih54 (p,q,(w64 (s+1))) h) Q Q Q Q))))))
    refine wt hc Q (wq (wg (xw [4,5,6,7,8] (zz157 g_ p q [(2,.O back_),(3,.B 4 0),(7,.S 6),(8,.S 10),(12,.I x),(28,.S 2),(29,.I (g_.Edges.length:Int)),(30,.I s),(53,.S 6),(54,.I x),(55,.S 6),(56,.I v)]) J 4 ?_)))
    obtain ⟨D,G,h⟩:=ob h
    refine wX J G Q Q Q Q Q Q Q Q Q (wL (oI .i64) J G Q Q Q Q Q Q Q Q Q Q (xw [7,8] ⟨[(2,.O back_),(3,.B 4 0),(7,.S 6),(8,.S 10),(12,.I x),(28,.S 2),(29,.I (g_.Edges.length:Int)),(30,.I s),(53,.S 6),(54,.I x),(59,.I (w64 (D+1)))],[(4,.box (cC4 0 1 2 3 g_) 27),(6,.own (rI .i64) p true),(10,.own (rI .i64) q true)],(vV4 0 1 2 3 g_ []),16⟩ J 1 ?_))
    obtain ⟨H,K,h⟩:=ob h
    refine wX J K Q Q Q Q Q Q Q Q Q (WPr.sto (oI .i64) J (w64 (D+1)) K Q Q Q Q Q Q Q Q Q Q (by exact rfl) rfl (wn (wg (xw [2,3,4] ⟨[(2,.O back_),(3,.B 4 0),(7,.S 6),(28,.S 2),(29,.I (g_.Edges.length:Int)),(30,.I s),(61,.S 10),(62,.I x)],[(4,.box (cC4 0 1 2 3 g_) 27),(6,.own (rI .i64) (setL' p x (w64 (D+1))) true),(10,.own (rI .i64) q true)],(vV4 0 1 2 3 g_ []),17⟩ J 2 (WPr.bs (cs:=[.I x]) (oI .i64) J ([x]:List Int) Q Q Q Q Q Q (by kernel_rfl) (by exact (an Q Q)) rfl ?_)))))
    obtain ⟨R,T,h⟩:=ob h
    exact WPr.app J T (by exact (srcO rfl)) Q Q Q Q Q Q Q Q Q Q (wx ⟨[(2,.O back_),(3,.B 4 0),(7,.S 6),(8,.S 18),(28,.S 2),(29,.I (g_.Edges.length:Int)),(30,.I s)],[(4,.box (cC4 0 1 2 3 g_) 27),(6,.own (rI .i64) (setL' p x (w64 (D+1))) true),(18,.own (rI .i64) R true)],(vV4 0 1 2 3 g_ []),19⟩ J 1 (wn (wb (wg (ws J 2 Q (wn (wu [(10,.sl 18)] (ih54 ((setL' p x (w64 (D+1))),R,(w64 (s+1))) h) Q Q Q Q)))))))
   rcases oc h with ⟨hc,h⟩ | ⟨hc,h⟩
   ·exact wt hc Q (wg (wx (zz121 g_ p q [(2,.O back_),(3,.B 4 0),(7,.S 6),(8,.S 10),(11,.I t.To),(12,.I t.From),(28,.S 2),(29,.I (g_.Edges.length:Int)),(30,.I s)]) J 4 (wn (wu [] (j57 (t.To,t.From) h) Q Q Q Q))))
   exact wf hc Q (wi (wu [] (j57 (t.From,t.To) h) Q Q Q Q))
  exact wu [(10,.sl 9)] (ih N (g,i,0) h) Q Q Q Q
 exact wu [(9,.sl 8)] (ih N ((setL' x1 from_ 0),([from_]:List Int)) h) Q Q Q Q
theorem z123_ct (N:Nat) (s_:(List Int)) (v_:Int) (r:Int) (h:z123 N s_ v_=some r) :
 Fn Tryz.prog 123 ⟨1,[.S 0,.I v_],[(0,.sl (rI .i64) s_)],[],1,.I r,[],[]⟩:=by
 refine Fn.intro _ _ Tryz.func123 rfl (by kernel_rfl) rfl (fun E F w=>?_)
 unfold z123 at h
 refine wq (wg (ws J 1 Q (wn (wq (wq (wg (wx (zz20 s_ [(0,.S 0),(1,.I v_),(4,.I 0),(7,.I (s_.length:Int)),(8,.I 0)]) J 3 (wn ?_))))))))
 refine wC (σ:=Unit) (fun st=>(zz20 s_ [])) (fun st=>z123_k1=some r) ?_ (fun j1=>?_)
 ·intro _ h
  replace h:z123_k1=some r:=h
  unfold z123_k1 at h
  refine wq (wg (ws J 1 Q (wn ?_)))
  cases h
  exact we J Tryz.func123 [] Q Q Q Q
 refine wo ?_
 refine wI (σ:=Int) (fun st=>(zz20 s_ [(0,.S 0),(1,.I v_),(7,.I (s_.length:Int)),(8,.I st)])) (fun n st=>z123_l2 s_ v_ n st) (r:=r) (fun _=>rfl) ?_ (fun ih=>?_)
 ·intro n2 ih3
  intro c h
  replace h:z123_l2 s_ v_ (n2+1) c=some r:=h
  unfold z123_l2 at h
  refine wq (wg (ws J 1 Q (wn (wq ?_))))
  rcases oc' h with ⟨hc,h⟩ | ⟨hc,h⟩
  ·exact wf hc Q (wz rfl (wu [] (j1 () h) Q Q Q Q))
  refine wt hc Q (wi (wq (wo (wq (wg (wx (zz20 s_ [(0,.S 0),(1,.I v_),(5,.I c),(7,.I (s_.length:Int)),(8,.I c)]) J 2 (wn (wq (wg (xw [3,4,5] (zz20 s_ [(0,.S 0),(1,.I v_),(5,.I c),(7,.I (s_.length:Int)),(8,.I c),(11,.I v_),(12,.S 0),(13,.I c)]) J 3 ?_))))))))))
  obtain ⟨x9,d,h⟩:=ob h
  refine wj (oI .i64) J d Q Q Q Q Q Q Q Q Q (wx ⟨[(0,.S 0),(1,.I v_),(5,.I c),(7,.I (s_.length:Int)),(8,.I c),(16,.O (v_==x9))],[],[(0,.sl (rI .i64) s_)],2⟩ J 2 (wn ?_))
  rcases oc h with ⟨hc,h⟩ | ⟨hc,h⟩
  ·refine wt hc Q (wq (wg (ws J 2 Q (wn ?_))))
   cases h
   exact we J Tryz.func123 [] Q Q Q Q
  exact wf hc Q (wi (wb (wg (ws J 2 Q (wn (wu [] (ih3 (w64 (c+1)) h) Q Q Q Q))))))
 exact wu [] (ih N 0 h) Q Q Q Q
theorem z66_ct (N:Nat) (s_:(List Int)) (v_:Int) (r:Bool) (h:z66 N s_ v_=some r) :
 Fn Tryz.prog 66 ⟨1,[.S 0,.I v_],[(0,.sl (rI .i64) s_)],[],1,.O r,[],[]⟩:=by
 refine Fn.intro _ _ Tryz.func66 rfl (by kernel_rfl) rfl (fun E F w=>?_)
 unfold z66 at h
 refine wq (wg (ws J 1 Q (wn (wq (wg (xw [2,3,4] (zz20 s_ [(5,.S 0),(6,.I v_)]) J 2 ?_))))))
 obtain ⟨x1,c,h⟩:=ob h
 refine wc (z123_ct N s_ v_ _ c) [(0,.sl 0)] [] Q Q Q Q Q Q Q Q (.inl rfl) rfl (wx (zz20 s_ [(4,.O (decide (x1≥0)))]) J 2 (wn ?_))
 cases h
 exact we J Tryz.func66 [] Q Q Q Q
theorem z22_ct (N:Nat) (g_:T4) (r:Bool) (h:z22 N g_=some r) :
 Fn Tryz.prog 22 ⟨4,[.a (cC4 0 1 2 3 g_)],(vV4 0 1 2 3 g_ []),[],4,.O r,[],[]⟩:=by
 refine Fn.intro _ _ Tryz.func22 rfl (by kernel_rfl) rfl (fun E F w=>?_)
 unfold z22 at h
 refine wq (wg (ws J 2 Q (wn (wq (wg (xw (rg 1 35) (zz2 g_ [(1,.B 4 0),(3,.a (cC4 0 1 2 3 g_))]) J 1 ?_))))))
 obtain ⟨x1,c,h⟩:=ob h
 refine wc (z61_ct N g_ _ c) [(0,.sl 0),(1,.sl 1),(2,.sl 2),(3,.sl 3)] [] Q Q Q Q Q Q Q Q (.inl rfl) rfl (xw (rg 3 33) (zz2 g_ [(1,.B 4 0),(5,.O x1)]) J 1 ?_)
 rcases oc' h with ⟨hc,h⟩ | ⟨hc,h⟩
 ·refine wy 5 hc Q (wx (zz7 g_ [(2,.O false)]) J 33 (wn ?_))
  cases h
  exact we J Tryz.func22 [] Q Q Q Q
 refine wy 5 hc Q (ws J 1 Q ?_)
 obtain ⟨x2,d,h⟩:=ob h
 refine wc (z62_ct N g_ _ d) [(0,.sl 0),(1,.sl 1),(2,.sl 2),(3,.sl 3)] [] Q Q Q Q Q Q Q Q (.inl rfl) rfl (xw (rg 7 29) (zz2 g_ [(1,.B 4 0),(9,.O x2)]) J 2 ?_)
 rcases oc' h with ⟨hc,h⟩ | ⟨hc,h⟩
 ·refine wy 9 hc Q (wx (zz7 g_ [(2,.O false)]) J 29 (wn ?_))
  cases h
  exact we J Tryz.func22 [] Q Q Q Q
 refine wy 9 hc Q (ws J 2 Q ?_)
 obtain ⟨x3,e,h⟩:=ob h
 refine wc (z63_ct N g_.Decls _ e) [(0,.sl 1)] [] Q Q Q Q Q Q Q Q (.inl rfl) rfl (xw (rg 12 24) (zz2 g_ [(1,.B 4 0),(14,.O x3)]) J 2 ?_)
 rcases oc' h with ⟨hc,h⟩ | ⟨hc,h⟩
 ·refine wy 14 hc Q (wx (zz7 g_ [(2,.O false)]) J 24 (wn ?_))
  cases h
  exact we J Tryz.func22 [] Q Q Q Q
 refine wy 14 hc Q (ws J 1 Q ?_)
 obtain ⟨x4,f,h⟩:=ob h
 refine wc (z64_ct N g_ _ f) [(0,.sl 0),(1,.sl 1),(2,.sl 2),(3,.sl 3)] [] Q Q Q Q Q Q Q Q (.inl rfl) rfl (xw (rg 16 20) (zz2 g_ [(1,.B 4 0),(18,.O x4)]) J 2 ?_)
 rcases oc' h with ⟨hc,h⟩ | ⟨hc,h⟩
 ·refine wy 18 hc Q (wx (zz7 g_ [(2,.O false)]) J 20 (wn ?_))
  cases h
  exact we J Tryz.func22 [] Q Q Q Q
 refine wy 18 hc Q (ws J 1 Q ?_)
 obtain ⟨x5,g,h⟩:=ob h
 refine wc (z65_ct N g_ _ g) [(0,.sl 0),(1,.sl 1),(2,.sl 2),(3,.sl 3)] [] Q Q Q Q Q Q Q Q (.inl rfl) rfl (xw (rg 20 16) (zz2 g_ [(1,.B 4 0),(22,.O x5)]) J 2 ?_)
 rcases oc' h with ⟨hc,h⟩ | ⟨hc,h⟩
 ·refine wy 22 hc Q (wx (zz7 g_ [(2,.O false)]) J 16 (wn ?_))
  cases h
  exact we J Tryz.func22 [] Q Q Q Q
 refine wy 22 hc Q (xw (rg 23 13) (zz2 g_ [(1,.B 4 0),(22,.O true),(23,.a (cC4 0 1 2 3 g_)),(25,.I g_.Start)]) J 3 ?_)
 obtain ⟨x6,i,h⟩:=ob h
 refine wc (z67_ct N g_ g_.Start false _ i) [(0,.sl 0),(1,.sl 1),(2,.sl 2),(3,.sl 3)] [] Q Q Q Q Q Q Q Q (.inl rfl) rfl (xw (rg 24 12) (zz29 g_ x6 [(1,.B 4 0),(22,.O true),(26,.S 5)]) J 0 ?_)
 obtain ⟨x7,j,h⟩:=ob h
 refine wc (z66_ct N x6 (-1) _ j) [(0,.sl 5)] [5] Q Q Q Q Q Q Q Q (.inr ⟨rfl,trivial⟩) rfl (xw (rg 28 8) (zz42 g_ [(1,.B 4 0),(30,.O (!x7))]) J 3 ?_)
 rcases oc' h with ⟨hc,h⟩ | ⟨hc,h⟩
 ·refine wy 30 hc Q (wx ⟨[(2,.O false)],[],(vV4 0 1 2 3 g_ []),6⟩ J 8 (wn ?_))
  cases h
  exact we J Tryz.func22 [] Q Q Q Q
 refine wy 30 hc Q (xw [31,32,33,34,35] ⟨[(30,.O true),(31,.a (cC4 0 1 2 3 g_)),(33,.I g_.End)],[],(vV4 0 1 2 3 g_ []),6⟩ J 3 ?_)
 obtain ⟨x8,k,h⟩:=ob h
 refine wc (z67_ct N g_ g_.End true _ k) [(0,.sl 0),(1,.sl 1),(2,.sl 2),(3,.sl 3)] [] Q Q Q Q Q Q Q Q (.inl rfl) rfl (xw [32,33,34,35] ⟨[(30,.O true),(34,.S 6)],[(6,.own (rI .i64) x8 true)],(vV4 0 1 2 3 g_ []),7⟩ J 0 ?_)
 obtain ⟨x9,l,h⟩:=ob h
 refine wc (z66_ct N x8 (-1) _ l) [(0,.sl 6)] [6] Q Q Q Q Q Q Q Q (.inr ⟨rfl,trivial⟩) rfl (wx ⟨[(2,.O (!x9))],[],(vV4 0 1 2 3 g_ []),7⟩ J 3 (wn ?_))
 cases h
 exact we J Tryz.func22 [] Q Q Q Q
theorem z111_ct (N:Nat) (x_:Int) (r:Bool) (h:z111 N x_=some r) :
 Fn Tryz.prog 111 ⟨0,[.I x_],[],[],0,.O r,[],[]⟩:=by
 refine Fn.intro _ _ Tryz.func111 rfl (by kernel_rfl) rfl (fun E F w=>?_)
 unfold z111 at h
 refine wq (wg (ws J 1 Q (wn (wq (wg (wx (zz0 [(2,.O (x_ != x_))]) J 4 (wn ?_)))))))
 cases h
 exact we J Tryz.func111 [] Q Q Q Q
theorem z50_ct (N:Nat) (x_:Int) (y_:Int) (r:Int) (h:z50 N x_ y_=some r) :
 Fn Tryz.prog 50 ⟨0,[.I x_,.I y_],[],[],0,.I r,[],[]⟩:=by
 refine Fn.intro _ _ Tryz.func50 rfl (by kernel_rfl) rfl (fun E F w=>?_)
 unfold z50 at h
 refine wq (wg (ws J 1 Q (wn (wq (wg (ws J 1 Q ?_))))))
 obtain ⟨x1,c,h⟩:=ob h
 refine wc (z111_ct N x_ _ c) [] [] Q Q Q Q Q Q Q Q (.inl rfl) rfl (wx (zz0 [(0,.I x_),(1,.I y_),(4,.I 0),(5,.O x1)]) J 1 (wn (wq (wg (ws J 1 Q ?_)))))
 obtain ⟨x2,d,h⟩:=ob h
 refine wc (z111_ct N y_ _ d) [] [] Q Q Q Q Q Q Q Q (.inl rfl) rfl (wx (zz0 [(0,.I x_),(1,.I y_),(4,.I 0),(5,.O x1),(6,.O x2)]) J 1 (wn (wq (wq (wg (ws J 1 Q (wn ?_)))))))
 rcases oc h with ⟨hc,h⟩ | ⟨hc,h⟩
 ·refine wt hc Q (wq (wq (wg (ws J 1 Q (wn ?_)))))
  rcases oc h with ⟨hc,h⟩ | ⟨hc,h⟩
  ·refine wt hc Q (wq (wg (wx (zz0 [(4,.I 0)]) J 1 (wn ?_))))
   cases h
   exact we J Tryz.func50 [] Q Q Q Q
  refine wf hc Q (wi (wq (wg (wx (zz0 [(4,.I (-1))]) J 1 (wn ?_)))))
  cases h
  exact we J Tryz.func50 [] Q Q Q Q
 refine wf hc Q (wi (wq (wq (wg (ws J 1 Q (wn ?_))))))
 rcases oc h with ⟨hc,h⟩ | ⟨hc,h⟩
 ·refine wt hc Q (wq (wg (wx (zz0 [(4,.I 1)]) J 1 (wn ?_))))
  cases h
  exact we J Tryz.func50 [] Q Q Q Q
 refine wf hc Q (wi (wq (wq (wg (wx (zz0 [(0,.I x_),(1,.I y_),(4,.I 0),(16,.O (decide (x_ < y_)))]) J 3 (wn ?_))))))
 rcases oc h with ⟨hc,h⟩ | ⟨hc,h⟩
 ·refine wt hc Q (wq (wg (ws J 1 Q (wn ?_))))
  cases h
  exact we J Tryz.func50 [] Q Q Q Q
 refine wf hc Q (wi (wq (wq (wg (wx (zz0 [(4,.I 0),(19,.O (decide (x_ > y_)))]) J 3 (wn ?_))))))
 rcases oc h with ⟨hc,h⟩ | ⟨hc,h⟩
 ·refine wt hc Q (wq (wg (ws J 1 Q (wn ?_))))
  cases h
  exact we J Tryz.func50 [] Q Q Q Q
 refine wf hc Q (wi (wq (wg (ws J 1 Q (wn ?_)))))
 cases h
 exact we J Tryz.func50 [] Q Q Q Q
theorem z49_ct (N:Nat) (vals_:(List Int)) (r:Int) (h:z49 N vals_=some r) :
 Fn Tryz.prog 49 ⟨1,[.S 0],[(0,.sl (rI .i64) vals_)],[],1,.I r,[],[]⟩:=by
 refine Fn.intro _ _ Tryz.func49 rfl (by kernel_rfl) rfl (fun E F w=>?_)
 unfold z49 at h
 refine wq (wg (ws J 1 Q (wn (wq (wg (ws J 1 Q (wn (wq (wq (wg (wx (zz20 vals_ [(2,.I 0),(3,.I 0),(6,.S 0),(7,.I (vals_.length:Int)),(8,.I 0)]) J 3 (wn ?_))))))))))))
 refine wC (σ:=Unit) (fun st=>(zz20 vals_ [(3,.I 0)])) (fun st=>z49_k1=some r) ?_ (fun j1=>?_)
 ·intro _ h
  replace h:z49_k1=some r:=h
  unfold z49_k1 at h
  refine wq (wg (ws J 2 Q (wn ?_)))
  cases h
  exact we J Tryz.func49 [] Q Q Q Q
 refine wo ?_
 refine wI (σ:=Int) (fun st=>(zz20 vals_ [(3,.I 0),(6,.S 0),(7,.I (vals_.length:Int)),(8,.I st)])) (fun n st=>z49_l2 vals_ n st) (r:=r) (fun _=>rfl) ?_ (fun ih=>?_)
 ·intro n2 ih3
  intro c h
  replace h:z49_l2 vals_ (n2+1) c=some r:=h
  unfold z49_l2 at h
  refine wq (wg (ws J 1 Q (wn (wq ?_))))
  rcases oc' h with ⟨hc,h⟩ | ⟨hc,h⟩
  ·exact wf hc Q (wz rfl (wu [] (j1 () h) Q Q Q Q))
  refine wt hc Q (wi (wq (wo (wq (wg ?_)))))
  obtain ⟨x9,d,h⟩:=ob h
  refine wj (oI .i64) J d Q Q Q Q Q Q Q Q Q (wx ⟨[(3,.I 0),(5,.I x9),(6,.S 0),(7,.I (vals_.length:Int)),(8,.I c)],[],[(0,.sl (rI .i64) vals_)],2⟩ J 2 (wn (wq (wg (wx ⟨[(3,.I 0),(5,.I x9),(6,.S 0),(7,.I (vals_.length:Int)),(8,.I c),(14,.O (x9 != 0))],[],[(0,.sl (rI .i64) vals_)],2⟩ J 3 (wn ?_))))))
  rcases oc h with ⟨hc,h⟩ | ⟨hc,h⟩
  ·refine wt hc Q (wq (wg (ws J 2 Q (wn ?_))))
   cases h
   exact we J Tryz.func49 [] Q Q Q Q
  exact wf hc Q (wi (wb (wg (ws J 2 Q (wn (wu [] (ih3 (w64 (c+1)) h) Q Q Q Q))))))
 exact wu [] (ih N 0 h) Q Q Q Q
theorem z48_8_ct (N:Nat) (i_:Int) (k_:Int) (c0_:T4) (r:Int) (h:z48_8 N i_ k_ c0_=some r) :
 Fn Tryz.prog 48 ⟨5,[.I i_,.I k_,.B 0 0],(vV4 1 2 3 4 c0_ []),[(0,.box (cC4 1 2 3 4 c0_) 27)],5,.I r,[],[(0,.box (cC4 1 2 3 4 c0_) 27)]⟩:=by
 refine Fn.intro _ _ Tryz.func48 rfl (by kernel_rfl) rfl (fun E F w=>?_)
 unfold z48_8 at h
 refine wq (wg (ws J 1 Q (wn (wq (wN (fun A1 c d=>?_))))))
 have e:A1 0 (zz50 [(2,.B 0 0)] [(8,.B 0 6)]):=c _ _ (wl J Q Q Q Q Q Q)
 have f:A1 1 ⟨[(8,.B 0 6)],(vV4 1 2 3 4 c0_ []),[],[(0,.box (cC4 1 2 3 4 c0_) 27)],5,[(9,.S 3)],[],[],5⟩:=c _ _ (wl J Q Q Q Q Q Q)
 have g:A1 2 (zz50 [(0,.I i_)] [(10,.I i_)]):=c _ _ (wl J Q Q Q Q Q Q)
 obtain ⟨x4,i,h⟩:=ob h
 have j:A1 3 ⟨[(9,.S 3),(10,.I i_)],[(3,.sl rR2 c0_.Edges)],[],[],5,[(11,.P 5 0)],[(5,.pl (cC2 x4))],[],6⟩:=c _ _ (wO Q Q Q (fun _ _ _ _ _ _ _ k=>wj oO2 J i Q Q Q Q Q Q Q Q Q (k)) rfl)
 have l:A1 4 (zz98 x4 [(11,.P 5 0)] [(12,.P 5 1)]):=c _ _ (wl J Q Q Q Q Q Q)
 have m:A1 5 (zz98 x4 [(12,.P 5 1)] [(13,.a (cC6 x4.Act))]):=c _ _ (wl J Q Q Q Q Q Q)
 have o:A1 6 (zz3 [(2,.B 0 0)] [(14,.B 0 6)]):=c _ _ (wl J Q Q Q Q Q Q)
 have p:A1 7 ⟨[(14,.B 0 6)],(vV4 1 2 3 4 c0_ []),[],[(0,.box (cC4 1 2 3 4 c0_) 27)],6,[(15,.S 3)],[],[],6⟩:=c _ _ (wl J Q Q Q Q Q Q)
 have q:A1 8 (zz3 [(1,.I k_)] [(16,.I k_)]):=c _ _ (wl J Q Q Q Q Q Q)
 obtain ⟨s,u,h⟩:=ob h
 have v:A1 9 ⟨[(15,.S 3),(16,.I k_)],[(3,.sl rR2 c0_.Edges)],[],[],6,[(17,.P 6 0)],[(6,.pl (cC2 s))],[],7⟩:=c _ _ (wO Q Q Q (fun _ _ _ _ _ _ _ k=>wj oO2 J u Q Q Q Q Q Q Q Q Q (k)) rfl)
 have x:A1 10 (zz99 s [(17,.P 6 0)] [(18,.P 6 1)]):=c _ _ (wl J Q Q Q Q Q Q)
 have y:A1 11 (zz99 s [(18,.P 6 1)] [(19,.a (cC6 s.Act))]):=c _ _ (wl J Q Q Q Q Q Q)
 have z:A1 12 ⟨[],[],[],[],7,[(6,.B 7 0)],[],[(7,.box [.I 0,.I 0,.I 0] 37)],8⟩:=c _ _ (wl J Q Q Q Q Q Q)
 have A:A1 13 ⟨[],[],[],[],8,[(7,.B 8 0)],[],[(8,.box [.I 0,.I 0,.I 0] 37)],9⟩:=c _ _ (wl J Q Q Q Q Q Q)
 have C:A1 14 ⟨[(6,.B 7 0),(13,.a (cC6 x4.Act))],[],[(7,.box [.I 0,.I 0,.I 0] 37)],[],9,[],[],[(7,.box (cC6 x4.Act) 37)],9⟩:=c _ _ (wl J Q Q Q Q Q Q)
 have D:A1 15 ⟨[(7,.B 8 0),(19,.a (cC6 s.Act))],[],[(8,.box [.I 0,.I 0,.I 0] 37)],[],9,[],[],[(8,.box (cC6 s.Act) 37)],9⟩:=c _ _ (wl J Q Q Q Q Q Q)
 refine wD (t:=⟨[(5,.I 0),(6,.B 7 0),(7,.B 8 0)],[(0,.box (cC4 1 2 3 4 c0_) 27),(7,.box (cC6 x4.Act) 37),(8,.box (cC6 s.Act) 37)],(vV4 1 2 3 4 c0_ []),9⟩) [0,1,0,7,15,31,0,64,0,448,960,1984,0,0,12351,32767] (.cons (d _ _ e) (.cons (d _ _ f) (.cons (d _ _ g) (.cons (d _ _ j) (.cons (d _ _ l) (.cons (d _ _ m) (.cons (d _ _ o) (.cons (d _ _ p) (.cons (d _ _ q) (.cons (d _ _ v) (.cons (d _ _ x) (.cons (d _ _ y) (.cons (d _ _ z) (.cons (d _ _ A) (.cons (d _ _ C) (.cons (d _ _ D) .nil)))))))))))))))) (by kernel_rfl) (by kernel_rfl) (by kernel_rfl) (by kernel_rfl) (wq (wN (fun A2 G H=>?_)))
 have K:A2 0 (zz35 [(6,.B 7 0)] [(20,.B 7 1)]):=G _ _ (wl J Q Q Q Q Q Q)
 have R:A2 1 ⟨[(20,.B 7 1)],[],[],[(7,.box (cC6 x4.Act) 37)],9,[(21,.I x4.Act.To)],[],[],9⟩:=G _ _ (wl J Q Q Q Q Q Q)
 have T:A2 2 (zz35 [(7,.B 8 0)] [(22,.B 8 1)]):=G _ _ (wl J Q Q Q Q Q Q)
 have U:A2 3 ⟨[(22,.B 8 1)],[],[],[(8,.box (cC6 s.Act) 37)],9,[(23,.I s.Act.To)],[],[],9⟩:=G _ _ (wl J Q Q Q Q Q Q)
 obtain ⟨X,Y,h⟩:=ob h
 have Z:A2 4 (zz35 [(21,.I x4.Act.To),(23,.I s.Act.To)] [(24,.I X)]):=G _ _ (wO Q Q Q (fun _ _ _ _ _ _ _ k=>wc (z50_ct N x4.Act.To s.Act.To _ Y) [] [] Q Q Q Q Q Q Q Q (.inl rfl) rfl (k)) rfl)
 have a0:A2 5 (zz35 [(6,.B 7 0)] [(25,.B 7 2)]):=G _ _ (wl J Q Q Q Q Q Q)
 have b0:A2 6 ⟨[(25,.B 7 2)],[],[],[(7,.box (cC6 x4.Act) 37)],9,[(26,.I x4.Act.Label)],[],[],9⟩:=G _ _ (wl J Q Q Q Q Q Q)
 have c0:A2 7 (zz35 [(7,.B 8 0)] [(27,.B 8 2)]):=G _ _ (wl J Q Q Q Q Q Q)
 have d0:A2 8 ⟨[(27,.B 8 2)],[],[],[(8,.box (cC6 s.Act) 37)],9,[(28,.I s.Act.Label)],[],[],9⟩:=G _ _ (wl J Q Q Q Q Q Q)
 obtain ⟨e0,f0,h⟩:=ob h
 have g0:A2 9 (zz35 [(26,.I x4.Act.Label),(28,.I s.Act.Label)] [(29,.I e0)]):=G _ _ (wO Q Q Q (fun _ _ _ _ _ _ _ k=>wc (z50_ct N x4.Act.Label s.Act.Label _ f0) [] [] Q Q Q Q Q Q Q Q (.inl rfl) rfl (k)) rfl)
 have i0:A2 10 ⟨[(24,.I X),(29,.I e0)],[],[],[],9,[(30,.S 9)],[],[(9,.own (rI .i64) ([X,e0]:List Int) true)],10⟩:=G _ _ (wO Q Q Q (fun _ _ _ _ _ _ _ k=>WPr.bs (cs:=[.I X,.I e0]) (oI .i64) J ([X,e0]:List Int) Q Q Q Q Q Q (by kernel_rfl) (by exact (an rfl (an Q Q))) rfl (k)) rfl)
 obtain ⟨j0,k0,h⟩:=ob h
 have l0:A2 11 ⟨[(30,.S 9)],[],[],[(9,.own (rI .i64) ([X,e0]:List Int) true)],10,[(31,.I j0)],[],[],10⟩:=G _ _ (wO Q Q Q (fun _ _ _ _ _ _ _ k=>wc (z49_ct N ([X,e0]:List Int) _ k0) [(0,.sl 9)] [9] Q Q Q Q Q Q Q Q (.inr ⟨rfl,trivial⟩) rfl (k)) rfl)
 have m0:A2 12 (zz21 [(31,.I j0)] [(5,.I j0)]):=G _ _ (wl J Q Q Q Q Q Q)
 refine wD (t:=⟨[(5,.I j0)],[(0,.box (cC4 1 2 3 4 c0_) 27)],(vV4 1 2 3 4 c0_ []),10⟩) [0,1,0,4,15,0,32,0,128,511,1023,2047,4095] (.cons (H _ _ K) (.cons (H _ _ R) (.cons (H _ _ T) (.cons (H _ _ U) (.cons (H _ _ Z) (.cons (H _ _ a0) (.cons (H _ _ b0) (.cons (H _ _ c0) (.cons (H _ _ d0) (.cons (H _ _ g0) (.cons (H _ _ i0) (.cons (H _ _ l0) (.cons (H _ _ m0) .nil))))))))))))) (by kernel_rfl) (by kernel_rfl) (by kernel_rfl) (by kernel_rfl) ?_
 cases h
 exact we J Tryz.func48 [] Q Q Q Q
theorem z146_9_ct (N:Nat) (data_:(List Int)) (a_:Int) (b_:Int) (c0_:T4) (r:(List Int)) (h:z146_9 N data_ a_ b_ c0_=some r) :
 Fn Tryz.prog 146 ⟨6,[.S 0,.I a_,.I b_,.c (.cl 48 [] [1])],(vV4 2 3 4 5 c0_ []),[(0,.own (rI .i64) data_ false),(1,.box (cC4 2 3 4 5 c0_) 27)],6,.t [],[],[(0,.own (rI .i64) r false),(1,.box (cC4 2 3 4 5 c0_) 27)]⟩:=by
 refine Fn.intro _ _ Tryz.func146 rfl (by kernel_rfl) rfl (fun E F w=>?_)
 unfold z146_9 at h
 refine wq (wg (wx (zz1 data_ c0_ [(0,.S 0),(1,.I a_),(2,.I b_),(3,.c (.cl 48 [] [1])),(8,.I (w64 (a_+1)))]) J 3 (wn ?_)))
 refine wC (σ:=(List Int)) (fun st=>(zz1 st c0_ [])) (fun st=>z146_9_k1 st=some r) ?_ (fun j1=>?_)
 ·intro d h
  replace h:z146_9_k1 d=some r:=h
  unfold z146_9_k1 at h
  cases h
  exact WP.fin J Tryz.func146 [] Q Q Q Q
 refine wo ?_
 refine wI (σ:=(List Int) × Int) (fun st=>(zz1 st.1 c0_ [(0,.S 0),(1,.I a_),(2,.I b_),(3,.c (.cl 48 [] [1])),(8,.I st.2)])) (fun n st=>z146_9_l2 N a_ b_ c0_ n st.1 st.2) (r:=r) (fun _=>rfl) ?_ (fun ih=>?_)
 ·intro n12 ih12
  rintro ⟨e,f⟩ h
  replace h:z146_9_l2 N a_ b_ c0_ (n12+1) e f=some r:=h
  unfold z146_9_l2 at h
  refine wq (wq (wg (wx (zz1 e c0_ [(0,.S 0),(1,.I a_),(2,.I b_),(3,.c (.cl 48 [] [1])),(8,.I f),(14,.O (decide (f < b_)))]) J 3 (wn ?_))))
  rcases oc' h with ⟨hc,h⟩ | ⟨hc,h⟩
  ·exact wf hc Q (wz rfl (wu [] (j1 e h) Q Q Q Q))
  refine wt hc Q (wi (wq (wo (wq (wg (ws J 2 Q (wn ?_)))))))
  refine wC (σ:=(List Int)) (fun st=>(zz1 st c0_ [(0,.S 0),(1,.I a_),(2,.I b_),(3,.c (.cl 48 [] [1])),(8,.I f)])) (fun st=>z146_9_k3 f (z146_9_l2 N a_ b_ c0_ n12) st=some r) ?_ (fun j19=>?_)
  ·intro g h
   replace h:z146_9_k3 f (z146_9_l2 N a_ b_ c0_ n12) g=some r:=h
   unfold z146_9_k3 at h
   exact wb (wg (wx (zz1 g c0_ [(0,.S 0),(1,.I a_),(2,.I b_),(3,.c (.cl 48 [] [1])),(8,.I (w64 (f+1)))]) J 3 (wn (wu [] (ih12 (g,(w64 (f+1))) h) Q Q Q Q))))
  refine wo ?_
  refine wI (σ:=(List Int) × Int) (fun st=>(zz1 st.1 c0_ [(0,.S 0),(1,.I a_),(2,.I b_),(3,.c (.cl 48 [] [1])),(8,.I f),(9,.I st.2)])) (fun n st=>z146_9_l4 N a_ c0_ f (z146_9_l2 N a_ b_ c0_ n12) n st.1 st.2) (r:=r) (fun _=>rfl) ?_ (fun ih=>?_)
  ·intro n14 ih21
   rintro ⟨i,j⟩ h
   replace h:z146_9_l4 N a_ c0_ f (z146_9_l2 N a_ b_ c0_ n12) (n14+1) i j=some r:=h
   unfold z146_9_l4 at h
   refine wq (wq (wN (fun l m o=>?_)))
   have p:l 0 (zz3 [(9,.I j)] [(18,.I j)]):=m _ _ (wl J Q Q Q Q Q Q)
   have q:l 1 (zz3 [(1,.I a_)] [(19,.I a_)]):=m _ _ (wl J Q Q Q Q Q Q)
   have s:l 2 (zz3 [(18,.I j),(19,.I a_)] [(20,.O (decide (j > a_)))]):=m _ _ (wl J Q Q Q Q Q Q)
   have v:l 3 (zz3 [(20,.O (decide (j > a_)))] [(21,.O (decide (j > a_)))]):=m _ _ (wl J Q Q Q Q Q Q)
   rcases oc' h with ⟨hc,h⟩ | ⟨hc,h⟩
   ·have x:=m _ _ (LS.kb hc Q (o _ _ v))
    have y:l 4 (zz3 [(21,.O false)] [(22,.u)]):=m _ _ (LS.skip Q Q Q (.inr ⟨_,rfl,rfl⟩) Q Q)
    have z:l 5 (zz3 [(21,.O false)] [(23,.u)]):=m _ _ (LS.skip Q Q Q (.inr ⟨_,rfl,rfl⟩) Q Q)
    have A:l 6 (zz3 [(21,.O false)] [(24,.u)]):=m _ _ (LS.skip Q Q Q (.inr ⟨_,rfl,rfl⟩) Q Q)
    have C:l 7 (zz3 [(21,.O false)] [(25,.u)]):=m _ _ (LS.skip Q Q Q (.inr ⟨_,rfl,rfl⟩) Q Q)
    have D:l 8 (zz3 [(21,.O false)] [(26,.u)]):=m _ _ (LS.skip Q Q Q (.inr ⟨_,rfl,rfl⟩) Q Q)
    have G:l 9 (zz3 [(21,.O false)] [(27,.u)]):=m _ _ (LS.skip Q Q Q (.inr ⟨_,rfl,rfl⟩) Q Q)
    have H:l 10 (zz3 [(21,.O false)] [(28,.u)]):=m _ _ (LS.skip Q Q Q (.inr ⟨_,rfl,rfl⟩) Q Q)
    have K:l 11 (zz3 [(21,.O false)] [(29,.u)]):=m _ _ (LS.skip Q Q Q (.inr ⟨_,rfl,rfl⟩) Q Q)
    have R:l 12 (zz3 [(21,.O false)] [(30,.u)]):=m _ _ (LS.skip Q Q Q (.inr ⟨_,rfl,rfl⟩) Q Q)
    have T:l 13 (zz3 [(21,.O false)] [(31,.u)]):=m _ _ (LS.skip Q Q Q (.inr ⟨_,rfl,rfl⟩) Q Q)
    have U:l 14 (zz3 [(21,.O false)] [(32,.u)]):=m _ _ (LS.skip Q Q Q (.inr ⟨_,rfl,rfl⟩) Q Q)
    have X:l 15 (zz3 [(21,.O false)] [(33,.u)]):=m _ _ (LS.skip Q Q Q (.inr ⟨_,rfl,rfl⟩) Q Q)
    have Y:l 16 (zz3 [(21,.O false),(33,.u)] [(34,.O false)]):=m _ _ (wl J Q Q Q Q Q Q)
    exact wD (t:=(zz1 i c0_ [(0,.S 0),(1,.I a_),(2,.I b_),(3,.c (.cl 48 [] [1])),(8,.I f),(9,.I j),(34,.O false)])) [0,0,3,7,15,15,15,111,239,15,15,1039,3599,7695,16383,32767,65535] (.cons (o _ _ p) (.cons (o _ _ q) (.cons (o _ _ s) (.cons (o _ _ x) (.cons (o _ _ y) (.cons (o _ _ z) (.cons (o _ _ A) (.cons (o _ _ C) (.cons (o _ _ D) (.cons (o _ _ G) (.cons (o _ _ H) (.cons (o _ _ K) (.cons (o _ _ R) (.cons (o _ _ T) (.cons (o _ _ U) (.cons (o _ _ X) (.cons (o _ _ Y) .nil))))))))))))))))) (by kernel_rfl) (by kernel_rfl) (by kernel_rfl) (by kernel_rfl) (wf Q Q (wz rfl (wu [] (j19 i h) Q Q Q Q)))
   have Z:=m _ _ (LS.kb hc Q (o _ _ v))
   have a0:l 4 (zz3 [(3,.c (.cl 48 [] [1])),(21,.O true)] [(22,.c (.cl 48 [] [1]))]):=m _ _ (wl J Q Q Q Q Q Q)
   have b0:l 5 (zz3 [(0,.S 0),(21,.O true)] [(23,.S 0)]):=m _ _ (wl J Q Q Q Q Q Q)
   have c0:l 6 (zz3 [(9,.I j),(21,.O true)] [(24,.I j)]):=m _ _ (wl J Q Q Q Q Q Q)
   obtain ⟨d0,e0,h⟩:=ob h
   have f0:l 7 (zz51 i ((j).toNat * ((rI .i64)).sz) [(21,.O true),(23,.S 0),(24,.I j)] [(25,.P 6 0)]):=m _ _ (wO Q Q Q (fun _ _ _ _ _ _ _ k=>wX J e0 Q Q Q Q Q Q Q Q Q (k)) rfl)
   have g0:l 8 (zz52 ((j).toNat * ((rI .i64)).sz) i [(21,.O true),(25,.P 6 0)] [(26,.I d0)]):=m _ _ (wO Q Q Q (fun _ _ _ _ _ _ _ k=>wL (oI .i64) J e0 Q Q Q Q Q Q Q Q Q Q (k)) rfl)
   have i0:l 9 (zz4 [(0,.S 0),(21,.O true)] [(27,.S 0)]):=m _ _ (wl J Q Q Q Q Q Q)
   have j0:l 10 (zz4 [(9,.I j),(21,.O true)] [(28,.I j)]):=m _ _ (wl J Q Q Q Q Q Q)
   have k0:l 11 (zz4 [(21,.O true),(28,.I j)] [(29,.I (w64 (j-1)))]):=m _ _ (wl J Q Q Q Q Q Q)
   obtain ⟨l0,m0,h⟩:=ob h
   have o0:l 12 (zz53 i (((w64 (j-(1:Int)))).toNat * ((rI .i64)).sz) [(21,.O true),(27,.S 0),(29,.I (w64 (j-1)))] [(30,.P 7 0)]):=m _ _ (wO Q Q Q (fun _ _ _ _ _ _ _ k=>wX J m0 Q Q Q Q Q Q Q Q Q (k)) rfl)
   have p0:l 13 (zz54 (((w64 (j-(1:Int)))).toNat * ((rI .i64)).sz) i [(21,.O true),(30,.P 7 0)] [(31,.I l0)]):=m _ _ (wO Q Q Q (fun _ _ _ _ _ _ _ k=>wL (oI .i64) J m0 Q Q Q Q Q Q Q Q Q Q (k)) rfl)
   obtain ⟨q0,s0,h⟩:=ob h
   have t0:l 14 (zz100 c0_ [(21,.O true),(22,.c (.cl 48 [] [1])),(26,.I d0),(31,.I l0)] [(32,.I q0)]):=m _ _ (wO Q Q Q (fun _ _ _ _ _ _ _ k=>WPr.callc (z48_8_ct N d0 l0 c0_ _ s0) [(0,.bp 1 0),(1,.sl 2),(2,.sl 3),(3,.sl 4),(4,.sl 5)] [] Q Q Q Q Q Q Q Q Q (.inl rfl) rfl (k)) rfl)
   have u0:l 15 (zz11 [(21,.O true),(32,.I q0)] [(33,.O (decide (q0 < 0)))]):=m _ _ (wl J Q Q Q Q Q Q)
   have v0:l 16 (zz11 [(21,.O true),(33,.O (decide (q0 < 0)))] [(34,.O (decide (q0 < 0)))]):=m _ _ (wl J Q Q Q Q Q Q)
   refine wD (t:=(zz55 i c0_ [(0,.S 0),(1,.I a_),(2,.I b_),(3,.c (.cl 48 [] [1])),(8,.I f),(9,.I j),(34,.O (decide (q0 < 0)))])) [0,0,3,7,15,15,15,111,239,15,15,1039,3599,7695,16383,32767,65535] (.cons (o _ _ p) (.cons (o _ _ q) (.cons (o _ _ s) (.cons (o _ _ Z) (.cons (o _ _ a0) (.cons (o _ _ b0) (.cons (o _ _ c0) (.cons (o _ _ f0) (.cons (o _ _ g0) (.cons (o _ _ i0) (.cons (o _ _ j0) (.cons (o _ _ k0) (.cons (o _ _ o0) (.cons (o _ _ p0) (.cons (o _ _ t0) (.cons (o _ _ u0) (.cons (o _ _ v0) .nil))))))))))))))))) (by kernel_rfl) (by kernel_rfl) (by kernel_rfl) (by kernel_rfl) ?_
   rcases oc' h with ⟨hc,h⟩ | ⟨hc,h⟩
   ·exact wf hc Q (wz rfl (wu [] (j19 i h) Q Q Q Q))
   refine wt hc Q (wi (wq (wo (wN (fun x0 y0 z0=>?_)))))
   have A0:x0 0 (zz11 [(0,.S 0)] [(37,.S 0)]):=y0 _ _ (wl J Q Q Q Q Q Q)
   have B0:x0 1 (zz11 [(9,.I j)] [(38,.I j)]):=y0 _ _ (wl J Q Q Q Q Q Q)
   have C0:x0 2 (zz11 [(0,.S 0)] [(39,.S 0)]):=y0 _ _ (wl J Q Q Q Q Q Q)
   have D0:x0 3 (zz11 [(9,.I j)] [(40,.I j)]):=y0 _ _ (wl J Q Q Q Q Q Q)
   have G0:x0 4 (zz11 [(40,.I j)] [(41,.I (w64 (j-1)))]):=y0 _ _ (wl J Q Q Q Q Q Q)
   have H0:x0 5 (zz11 [(0,.S 0)] [(42,.S 0)]):=y0 _ _ (wl J Q Q Q Q Q Q)
   have I0:x0 6 (zz11 [(9,.I j)] [(43,.I j)]):=y0 _ _ (wl J Q Q Q Q Q Q)
   have K0:x0 7 (zz11 [(43,.I j)] [(44,.I (w64 (j-1)))]):=y0 _ _ (wl J Q Q Q Q Q Q)
   obtain ⟨L0,M0,h⟩:=ob h
   have O0:x0 8 (zz101 i (((w64 (j-(1:Int)))).toNat * ((rI .i64)).sz) [(42,.S 0),(44,.I (w64 (j-1)))] [(45,.P 8 0)]):=y0 _ _ (wO Q Q Q (fun _ _ _ _ _ _ _ k=>wX J M0 Q Q Q Q Q Q Q Q Q (k)) rfl)
   have R0:x0 9 ⟨[(45,.P 8 0)],[(8,.el 0 (((w64 (j-(1:Int)))).toNat * ((rI .i64)).sz))],[],[(0,.own (rI .i64) i false)],9,[(46,.I L0)],[],[],9⟩:=y0 _ _ (wO Q Q Q (fun _ _ _ _ _ _ _ k=>wL (oI .i64) J M0 Q Q Q Q Q Q Q Q Q Q (k)) rfl)
   have S0:x0 10 (zz35 [(0,.S 0)] [(47,.S 0)]):=y0 _ _ (wl J Q Q Q Q Q Q)
   have T0:x0 11 (zz35 [(9,.I j)] [(48,.I j)]):=y0 _ _ (wl J Q Q Q Q Q Q)
   obtain ⟨U0,V0,h⟩:=ob h
   have X0:x0 12 (zz102 i ((j).toNat * ((rI .i64)).sz) [(47,.S 0),(48,.I j)] [(49,.P 9 0)]):=y0 _ _ (wO Q Q Q (fun _ _ _ _ _ _ _ k=>wX J V0 Q Q Q Q Q Q Q Q Q (k)) rfl)
   have Y0:x0 13 ⟨[(49,.P 9 0)],[(9,.el 0 ((j).toNat * ((rI .i64)).sz))],[],[(0,.own (rI .i64) i false)],10,[(50,.I U0)],[],[],10⟩:=y0 _ _ (wO Q Q Q (fun _ _ _ _ _ _ _ k=>wL (oI .i64) J V0 Q Q Q Q Q Q Q Q Q Q (k)) rfl)
   obtain ⟨Z0,a1,h⟩:=ob h
   have b1:x0 14 ⟨[(37,.S 0),(38,.I j)],[],[],[(0,.own (rI .i64) i false)],10,[(51,.P 10 0)],[(10,.el 0 ((j).toNat * ((rI .i64)).sz))],[],11⟩:=y0 _ _ (wO Q Q Q (fun _ _ _ _ _ _ _ k=>wX J a1 Q Q Q Q Q Q Q Q Q (k)) rfl)
   have c1:x0 15 ⟨[(46,.I L0),(51,.P 10 0)],[(10,.el 0 ((j).toNat * ((rI .i64)).sz))],[(0,.own (rI .i64) i false)],[],11,[],[],[(0,.own (rI .i64) (setL' i j L0) false)],11⟩:=y0 _ _ (wO Q Q Q (fun _ _ _ _ _ _ _ k=>WPr.sto (oI .i64) J L0 a1 Q Q Q Q Q Q Q Q Q Q (by exact rfl) rfl (k)) rfl)
   obtain ⟨d1,e1,h⟩:=ob h
   have f1:x0 16 ⟨[(39,.S 0),(41,.I (w64 (j-1)))],[],[],[(0,.own (rI .i64) (setL' i j L0) false)],11,[(52,.P 11 0)],[(11,.el 0 (((w64 (j-(1:Int)))).toNat * ((rI .i64)).sz))],[],12⟩:=y0 _ _ (wO Q Q Q (fun _ _ _ _ _ _ _ k=>wX J e1 Q Q Q Q Q Q Q Q Q (k)) rfl)
   have g1:x0 17 ⟨[(50,.I U0),(52,.P 11 0)],[(11,.el 0 (((w64 (j-(1:Int)))).toNat * ((rI .i64)).sz))],[(0,.own (rI .i64) (setL' i j L0) false)],[],12,[],[],[(0,.own (rI .i64) (setL' (setL' i j L0) (w64 (j-1)) U0) false)],12⟩:=y0 _ _ (wO Q Q Q (fun _ _ _ _ _ _ _ k=>WPr.sto (oI .i64) J U0 e1 Q Q Q Q Q Q Q Q Q Q (by exact rfl) rfl (k)) rfl)
   exact wD (t:=(zz158 (setL' (setL' i j L0) (w64 (j-1)) U0) c0_ [(0,.S 0),(1,.I a_),(2,.I b_),(3,.c (.cl 48 [] [1])),(8,.I f),(9,.I j)])) [0,0,0,0,8,0,0,64,224,480,0,0,3072,7168,16355,32739,65535,131071] (.cons (z0 _ _ A0) (.cons (z0 _ _ B0) (.cons (z0 _ _ C0) (.cons (z0 _ _ D0) (.cons (z0 _ _ G0) (.cons (z0 _ _ H0) (.cons (z0 _ _ I0) (.cons (z0 _ _ K0) (.cons (z0 _ _ O0) (.cons (z0 _ _ R0) (.cons (z0 _ _ S0) (.cons (z0 _ _ T0) (.cons (z0 _ _ X0) (.cons (z0 _ _ Y0) (.cons (z0 _ _ b1) (.cons (z0 _ _ c1) (.cons (z0 _ _ f1) (.cons (z0 _ _ g1) .nil)))))))))))))))))) (by kernel_rfl) (by kernel_rfl) (by kernel_rfl) (by kernel_rfl) (wb (wg (wx (zz158 (setL' (setL' i j L0) (w64 (j-1)) U0) c0_ [(0,.S 0),(1,.I a_),(2,.I b_),(3,.c (.cl 48 [] [1])),(8,.I f),(9,.I (w64 (j-1)))]) J 3 (wn (wu [] (ih21 ((setL' (setL' i j L0) (w64 (j-1)) U0),(w64 (j-1))) h) Q Q Q Q)))))
  exact wu [] (ih N (e,f) h) Q Q Q Q
 exact wu [] (ih N (data_,(w64 (a_+1))) h) Q Q Q Q
theorem z183_10_ct (N:Nat) (data_:(List Int)) (a_:Int) (b_:Int) (n_:Int) (c0_:T4) (r:(List Int)) (h:z183_10 N data_ a_ b_ n_ c0_=some r) :
 Fn Tryz.prog 183 ⟨6,[.S 0,.I a_,.I b_,.I n_,.c (.cl 48 [] [1])],(vV4 2 3 4 5 c0_ []),[(0,.own (rI .i64) data_ false),(1,.box (cC4 2 3 4 5 c0_) 27)],6,.t [],[],[(0,.own (rI .i64) r false),(1,.box (cC4 2 3 4 5 c0_) 27)]⟩:=by
 refine Fn.intro _ _ Tryz.func183 rfl (by kernel_rfl) rfl (fun E F w=>?_)
 unfold z183_10 at h
 refine wq (wg (ws J 1 Q (wn ?_)))
 refine wC (σ:=(List Int)) (fun st=>(zz1 st c0_ [])) (fun st=>z183_10_k1 st=some r) ?_ (fun j1=>?_)
 ·intro d h
  replace h:z183_10_k1 d=some r:=h
  unfold z183_10_k1 at h
  cases h
  exact WP.fin J Tryz.func183 [] Q Q Q Q
 refine wo ?_
 refine wI (σ:=(List Int) × Int) (fun st=>(zz1 st.1 c0_ [(0,.S 0),(1,.I a_),(2,.I b_),(3,.I n_),(10,.I st.2)])) (fun n st=>z183_10_l2 a_ b_ n_ n st.1 st.2) (r:=r) (fun _=>rfl) ?_ (fun ih=>?_)
 ·intro n2 ih3
  rintro ⟨e,f⟩ h
  replace h:z183_10_l2 a_ b_ n_ (n2+1) e f=some r:=h
  unfold z183_10_l2 at h
  refine wq (wq (wg (wx (zz1 e c0_ [(0,.S 0),(1,.I a_),(2,.I b_),(3,.I n_),(10,.I f),(13,.O (decide (f < n_)))]) J 3 (wn ?_))))
  rcases oc' h with ⟨hc,h⟩ | ⟨hc,h⟩
  ·exact wf hc Q (wz rfl (wu [] (j1 e h) Q Q Q Q))
  refine wt hc Q (wi (wq (wo (wN (fun A9 g i=>?_)))))
  have j:A9 0 (zz3 [(0,.S 0)] [(16,.S 0)]):=g _ _ (wl J Q Q Q Q Q Q)
  have l:A9 1 (zz3 [(1,.I a_)] [(17,.I a_)]):=g _ _ (wl J Q Q Q Q Q Q)
  have m:A9 2 (zz3 [(10,.I f)] [(18,.I f)]):=g _ _ (wl J Q Q Q Q Q Q)
  have o:A9 3 (zz3 [(17,.I a_),(18,.I f)] [(19,.I (w64 (a_+f)))]):=g _ _ (wl J Q Q Q Q Q Q)
  have p:A9 4 (zz3 [(0,.S 0)] [(20,.S 0)]):=g _ _ (wl J Q Q Q Q Q Q)
  have q:A9 5 (zz3 [(2,.I b_)] [(21,.I b_)]):=g _ _ (wl J Q Q Q Q Q Q)
  have s:A9 6 (zz3 [(10,.I f)] [(22,.I f)]):=g _ _ (wl J Q Q Q Q Q Q)
  have u:A9 7 (zz3 [(21,.I b_),(22,.I f)] [(23,.I (w64 (b_+f)))]):=g _ _ (wl J Q Q Q Q Q Q)
  have v:A9 8 (zz3 [(0,.S 0)] [(24,.S 0)]):=g _ _ (wl J Q Q Q Q Q Q)
  have x:A9 9 (zz3 [(2,.I b_)] [(25,.I b_)]):=g _ _ (wl J Q Q Q Q Q Q)
  have y:A9 10 (zz3 [(10,.I f)] [(26,.I f)]):=g _ _ (wl J Q Q Q Q Q Q)
  have z:A9 11 (zz3 [(25,.I b_),(26,.I f)] [(27,.I (w64 (b_+f)))]):=g _ _ (wl J Q Q Q Q Q Q)
  obtain ⟨A,C,h⟩:=ob h
  have D:A9 12 (zz51 e (((w64 (b_+f))).toNat * ((rI .i64)).sz) [(24,.S 0),(27,.I (w64 (b_+f)))] [(28,.P 6 0)]):=g _ _ (wO Q Q Q (fun _ _ _ _ _ _ _ k=>wX J C Q Q Q Q Q Q Q Q Q (k)) rfl)
  have G:A9 13 (zz52 (((w64 (b_+f))).toNat * ((rI .i64)).sz) e [(28,.P 6 0)] [(29,.I A)]):=g _ _ (wO Q Q Q (fun _ _ _ _ _ _ _ k=>wL (oI .i64) J C Q Q Q Q Q Q Q Q Q Q (k)) rfl)
  have H:A9 14 (zz4 [(0,.S 0)] [(30,.S 0)]):=g _ _ (wl J Q Q Q Q Q Q)
  have K:A9 15 (zz4 [(1,.I a_)] [(31,.I a_)]):=g _ _ (wl J Q Q Q Q Q Q)
  have R:A9 16 (zz4 [(10,.I f)] [(32,.I f)]):=g _ _ (wl J Q Q Q Q Q Q)
  have T:A9 17 (zz4 [(31,.I a_),(32,.I f)] [(33,.I (w64 (a_+f)))]):=g _ _ (wl J Q Q Q Q Q Q)
  obtain ⟨U,X,h⟩:=ob h
  have Y:A9 18 (zz53 e (((w64 (a_+f))).toNat * ((rI .i64)).sz) [(30,.S 0),(33,.I (w64 (a_+f)))] [(34,.P 7 0)]):=g _ _ (wO Q Q Q (fun _ _ _ _ _ _ _ k=>wX J X Q Q Q Q Q Q Q Q Q (k)) rfl)
  have Z:A9 19 (zz54 (((w64 (a_+f))).toNat * ((rI .i64)).sz) e [(34,.P 7 0)] [(35,.I U)]):=g _ _ (wO Q Q Q (fun _ _ _ _ _ _ _ k=>wL (oI .i64) J X Q Q Q Q Q Q Q Q Q Q (k)) rfl)
  obtain ⟨a0,b0,h⟩:=ob h
  have c0:A9 20 (zz101 e (((w64 (a_+f))).toNat * ((rI .i64)).sz) [(16,.S 0),(19,.I (w64 (a_+f)))] [(36,.P 8 0)]):=g _ _ (wO Q Q Q (fun _ _ _ _ _ _ _ k=>wX J b0 Q Q Q Q Q Q Q Q Q (k)) rfl)
  have d0:A9 21 (zz122 (((w64 (a_+f))).toNat * ((rI .i64)).sz) e (setL' e (w64 (a_+f)) A) [(29,.I A),(36,.P 8 0)] []):=g _ _ (wO Q Q Q (fun _ _ _ _ _ _ _ k=>WPr.sto (oI .i64) J A b0 Q Q Q Q Q Q Q Q Q Q (by exact rfl) rfl (k)) rfl)
  obtain ⟨e0,f0,h⟩:=ob h
  have g0:A9 22 (zz102 (setL' e (w64 (a_+f)) A) (((w64 (b_+f))).toNat * ((rI .i64)).sz) [(20,.S 0),(23,.I (w64 (b_+f)))] [(37,.P 9 0)]):=g _ _ (wO Q Q Q (fun _ _ _ _ _ _ _ k=>wX J f0 Q Q Q Q Q Q Q Q Q (k)) rfl)
  have i0:A9 23 (zz123 (((w64 (b_+f))).toNat * ((rI .i64)).sz) (setL' e (w64 (a_+f)) A) (setL' (setL' e (w64 (a_+f)) A) (w64 (b_+f)) U) [(35,.I U),(37,.P 9 0)] []):=g _ _ (wO Q Q Q (fun _ _ _ _ _ _ _ k=>WPr.sto (oI .i64) J U f0 Q Q Q Q Q Q Q Q Q Q (by exact rfl) rfl (k)) rfl)
  exact wD (t:=(zz62 (setL' (setL' e (w64 (a_+f)) A) (w64 (b_+f)) U) c0_ [(0,.S 0),(1,.I a_),(2,.I b_),(3,.I n_),(10,.I f)])) [0,0,0,6,0,0,0,96,0,0,0,1536,3840,7936,0,0,0,98304,245760,507904,1048335,2096911,4194303,8388607] (.cons (i _ _ j) (.cons (i _ _ l) (.cons (i _ _ m) (.cons (i _ _ o) (.cons (i _ _ p) (.cons (i _ _ q) (.cons (i _ _ s) (.cons (i _ _ u) (.cons (i _ _ v) (.cons (i _ _ x) (.cons (i _ _ y) (.cons (i _ _ z) (.cons (i _ _ D) (.cons (i _ _ G) (.cons (i _ _ H) (.cons (i _ _ K) (.cons (i _ _ R) (.cons (i _ _ T) (.cons (i _ _ Y) (.cons (i _ _ Z) (.cons (i _ _ c0) (.cons (i _ _ d0) (.cons (i _ _ g0) (.cons (i _ _ i0) .nil)))))))))))))))))))))))) (by kernel_rfl) (by kernel_rfl) (by kernel_rfl) (by kernel_rfl) (wb (wg (wx (zz62 (setL' (setL' e (w64 (a_+f)) A) (w64 (b_+f)) U) c0_ [(0,.S 0),(1,.I a_),(2,.I b_),(3,.I n_),(10,.I (w64 (f+1)))]) J 3 (wn (wu [] (ih3 ((setL' (setL' e (w64 (a_+f)) A) (w64 (b_+f)) U),(w64 (f+1))) h) Q Q Q Q)))))
 exact wu [] (ih N (data_,0) h) Q Q Q Q
theorem z168_11_ct (N:Nat) (data_:(List Int)) (a_:Int) (m_:Int) (b_:Int) (c0_:T4) (r:(List Int)) (h:z168_11 N data_ a_ m_ b_ c0_=some r) :
 Fn Tryz.prog 168 ⟨6,[.S 0,.I a_,.I m_,.I b_,.c (.cl 48 [] [1])],(vV4 2 3 4 5 c0_ []),[(0,.own (rI .i64) data_ false),(1,.box (cC4 2 3 4 5 c0_) 27)],6,.t [],[],[(0,.own (rI .i64) r false),(1,.box (cC4 2 3 4 5 c0_) 27)]⟩:=by
 refine Fn.intro _ _ Tryz.func168 rfl (by kernel_rfl) rfl (fun E F w=>?_)
 unfold z168_11 at h
 refine wq (wg (wx (zz1 data_ c0_ [(0,.S 0),(2,.I m_),(3,.I b_),(4,.c (.cl 48 [] [1])),(10,.I (w64 (m_-a_)))]) J 4 (wn (wq (wg (wx (zz1 data_ c0_ [(0,.S 0),(2,.I m_),(4,.c (.cl 48 [] [1])),(10,.I (w64 (m_-a_))),(11,.I (w64 (b_-m_)))]) J 4 (wn (wq ?_))))))))
 refine wC (σ:=(List Int) × Int) (fun st=>(zz1 st.1 c0_ [(0,.S 0),(2,.I m_),(4,.c (.cl 48 [] [1])),(10,.I st.2)])) (fun st=>z168_11_k1 N m_ c0_ st.1 st.2=some r) ?_ (fun j1=>?_)
 ·rintro ⟨d,e⟩ h
  replace h:z168_11_k1 N m_ c0_ d e=some r:=h
  unfold z168_11_k1 at h
  refine wg (xw [7] (zz1 d c0_ [(50,.S 0),(53,.I (w64 (m_-e))),(54,.I m_),(55,.I e),(56,.c (.cl 48 [] [1]))]) J 7 ?_)
  obtain ⟨x9,f,h⟩:=ob h
  refine wc (z183_10_ct N d (w64 (m_-e)) m_ e c0_ _ f) [(0,.sl 0),(1,.bp 1 0),(2,.sl 2),(3,.sl 3),(4,.sl 4),(5,.sl 5)] [] Q Q Q Q Q Q Q Q (.inl rfl) rfl (wx (zz1 x9 c0_ []) J 0 (wn ?_))
  cases h
  exact WP.fin J Tryz.func168 [] Q Q Q Q
 refine wo ?_
 refine wI (σ:=(List Int) × Int × Int) (fun st=>(zz1 st.1 c0_ [(0,.S 0),(2,.I m_),(4,.c (.cl 48 [] [1])),(10,.I st.2.1),(11,.I st.2.2)])) (fun n st=>z168_11_l2 N m_ c0_ n st.1 st.2.1 st.2.2) (r:=r) (fun _=>rfl) ?_ (fun ih=>?_)
 ·intro n2 ih3
  rintro ⟨g,i,j⟩ h
  replace h:z168_11_l2 N m_ c0_ (n2+1) g i j=some r:=h
  unfold z168_11_l2 at h
  refine wq (wq (wg (wx (zz1 g c0_ [(0,.S 0),(2,.I m_),(4,.c (.cl 48 [] [1])),(10,.I i),(11,.I j),(20,.O (i != j))]) J 3 (wn ?_))))
  rcases oc' h with ⟨hc,h⟩ | ⟨hc,h⟩
  ·exact wf hc Q (wz rfl (wu [] (j1 (g,i) h) Q Q Q Q))
  refine wt hc Q (wi (wo (wq (wg (wx (zz1 g c0_ [(0,.S 0),(2,.I m_),(4,.c (.cl 48 [] [1])),(10,.I i),(11,.I j),(23,.O (decide (i > j)))]) J 3 (wn ?_))))))
  rcases oc h with ⟨hc,h⟩ | ⟨hc,h⟩
  ·refine wt hc Q (wq (wg (xw [7] (zz1 g c0_ [(0,.S 0),(2,.I m_),(4,.c (.cl 48 [] [1])),(10,.I i),(11,.I j),(24,.S 0),(27,.I (w64 (m_-i))),(28,.I m_),(29,.I j),(30,.c (.cl 48 [] [1]))]) J 7 ?_)))
   obtain ⟨k,l,h⟩:=ob h
   exact wc (z183_10_ct N g (w64 (m_-i)) m_ j c0_ _ l) [(0,.sl 0),(1,.bp 1 0),(2,.sl 2),(3,.sl 3),(4,.sl 4),(5,.sl 5)] [] Q Q Q Q Q Q Q Q (.inl rfl) rfl (wx (zz1 k c0_ [(0,.S 0),(2,.I m_),(4,.c (.cl 48 [] [1])),(10,.I i),(11,.I j)]) J 0 (wn (wg (wx (zz1 k c0_ [(0,.S 0),(2,.I m_),(4,.c (.cl 48 [] [1])),(10,.I (w64 (i-j))),(11,.I j)]) J 4 (wn (wb (wu [] (ih3 (k,(w64 (i-j)),j) h) Q Q Q Q)))))))
  refine wf hc Q (wq (wg (xw [11] (zz1 g c0_ [(0,.S 0),(2,.I m_),(4,.c (.cl 48 [] [1])),(10,.I i),(11,.I j),(35,.S 0),(38,.I (w64 (m_-i))),(43,.I (w64 ((w64 (m_+j))-i))),(44,.I i),(45,.c (.cl 48 [] [1]))]) J 11 ?_)))
  obtain ⟨m,o,h⟩:=ob h
  exact wc (z183_10_ct N g (w64 (m_-i)) (w64 ((w64 (m_+j))-i)) i c0_ _ o) [(0,.sl 0),(1,.bp 1 0),(2,.sl 2),(3,.sl 3),(4,.sl 4),(5,.sl 5)] [] Q Q Q Q Q Q Q Q (.inl rfl) rfl (wx (zz1 m c0_ [(0,.S 0),(2,.I m_),(4,.c (.cl 48 [] [1])),(10,.I i),(11,.I j)]) J 0 (wn (wg (wx (zz1 m c0_ [(0,.S 0),(2,.I m_),(4,.c (.cl 48 [] [1])),(10,.I i),(11,.I (w64 (j-i)))]) J 4 (wn (wb (wu [] (ih3 (m,i,(w64 (j-i))) h) Q Q Q Q)))))))
 exact wu [] (ih N (data_,(w64 (m_-a_)),(w64 (b_-m_))) h) Q Q Q Q
end Gx
end
