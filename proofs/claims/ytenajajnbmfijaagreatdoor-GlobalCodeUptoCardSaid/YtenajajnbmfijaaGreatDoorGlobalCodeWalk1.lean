/- Each function of the statement computes what its plain definition says, part 1. -/
import Derived.Test.YtenajajnbmfijaaGreatDoorGlobalCodeBase
set_option linter.all false
section
set_option maxRecDepth 10000
set_option maxHeartbeats 4000000
open Go Go.Kx Go.Proofs Tryz
namespace Gx
theorem z43_ct (N:Nat) (r:T4) (h:z43 N=some r) :
 Fn Tryz.prog 43 ⟨0,[],[],[],4,.a (cC4 0 1 2 3 r),(vV4 0 1 2 3 r []),[]⟩:=by
 refine wF func43 Q Q (fun E F w=>?_)
 unfold z43 at h
 refine wR J 1 Q (wq (wg (WPr.bs (cs:=[.s (str [65]),.s (str [66])]) oS J ([(str [65]),(str [66])]:List ByteArray) Q Q Q Q Q Q (by kernel_rfl) (by exact (an rfl (an Q Q))) rfl (xw (rg 2 6) ⟨[(0,.B 0 0),(1,.S 1),(2,.a [.s (str [120]),.nil,.I 0,.nil,.nil])],[(0,.box [.s (str []),.nil,.nil,.I 0,.I 0,.I 0,.nil,.nil] 27),(1,.own rS ([(str [65]),(str [66])]:List ByteArray) true)],[],2⟩ J 1 (WPr.bs (cs:=[.s (str [120]),.nil,.I 0,.nil,.nil]) oO0 J ([(⟨(str [120]),([]:List T3),0,(⟨([]:List T1),([]:List (Int × Int))⟩:T5)⟩:T0)]:List T0) Q Q Q Q Q Q (by kernel_rfl) (by exact (an (an rfl (an rfl (an rfl (an Q Q)))) rfl)) rfl (xw [5,6,7] ⟨[(0,.B 0 0),(1,.S 1),(3,.S 2),(5,.a [.I 0,.I 0,.I 1,.I 0,.I 1,.b false])],[(0,.box [.s (str []),.nil,.nil,.I 0,.I 0,.I 0,.nil,.nil] 27),(1,.own rS ([(str [65]),(str [66])]:List ByteArray) true),(2,.own rR0 ([(⟨(str [120]),([]:List T3),0,(⟨([]:List T1),([]:List (Int × Int))⟩:T5)⟩:T0)]:List T0) true)],[],3⟩ J 2 (WPr.bs (cs:=[.I 0,.I 0,.I 1,.I 0,.I 1,.b false]) oO2 J ([(⟨0,(⟨0,1,0⟩:T6),1,false⟩:T2)]:List T2) Q Q Q Q Q Q (by kernel_rfl) (by exact (an (an rfl (an (an rfl (an Q Q)) (an Q Q))) rfl)) rfl (wx ⟨[(0,.B 0 0)],[(0,.box [.s (str [80]),.sl 1,.sl 2,.I 2,.I 0,.I 1,.sl 3,.nil] 27),(1,.own rS ([(str [65]),(str [66])]:List ByteArray) true),(2,.own rR0 ([(⟨(str [120]),([]:List T3),0,(⟨([]:List T1),([]:List (Int × Int))⟩:T5)⟩:T0)]:List T0) true),(3,.own rR2 ([(⟨0,(⟨0,1,0⟩:T6),1,false⟩:T2)]:List T2) true)],[],4⟩ J 2 (wn (WP.frz 1 rfl (WP.frz 2 rfl (WP.frz 3 rfl ?_))))))))))))
 cases h
 exact we J func43 [(0,.sl 1),(1,.sl 2),(2,.sl 3),(3,.nil)] Q Q Q Q
theorem z173_ct (N:Nat) (c_:Int) (r:Bool) (h:z173 N c_=some r) :
 Fn Tryz.prog 173 ⟨0,[.c (.i .u8 c_)],[],[],0,.O r,[],[]⟩:=by
 refine wF func173 Q Q (fun E F w=>?_)
 unfold z173 at h
 refine wR J 1 Q (wq (wg (xw (rg 3 12) (zz0 [(0,.c (.i .u8 c_)),(5,.O (decide (97≤c_)))]) J 3 ?_)))
 obtain ⟨K,h⟩|⟨K,h⟩:=oc' h
 ·refine wy 5 K Q (xw [10,11,12,13,14] (zz0 [(0,.c (.i .u8 c_)),(9,.O false),(12,.O (decide (65≤c_)))]) J 7 ?_)
  obtain ⟨K,h⟩|⟨K,h⟩:=oc h
  ·refine wy 12 K Q (wx (zz0 [(2,.O (decide (c_≤90)))]) J 5 (wn ?_))
   cases h
   exact we J func173 [] Q Q Q Q
  refine wy 12 K Q (wx (zz0 [(2,.O false)]) J 5 (wn ?_))
  cases h
  exact we J func173 [] Q Q Q Q
 refine wy 5 K Q (xw (rg 7 8) (zz0 [(0,.c (.i .u8 c_)),(9,.O (decide (c_≤122)))]) J 4 ?_)
 obtain ⟨K,h⟩|⟨K,h⟩:=oc h
 ·refine wy 9 K Q (wx (zz0 [(2,.O true)]) J 8 (wn ?_))
  cases h
  exact we J func173 [] Q Q Q Q
 refine wy 9 K Q (xw [10,11,12,13,14] (zz0 [(0,.c (.i .u8 c_)),(9,.O false),(12,.O (decide (65≤c_)))]) J 3 ?_)
 obtain ⟨K,h⟩|⟨K,h⟩:=oc h
 ·refine wy 12 K Q (wx (zz0 [(2,.O (decide (c_≤90)))]) J 5 (wn ?_))
  cases h
  exact we J func173 [] Q Q Q Q
 refine wy 12 K Q (wx (zz0 [(2,.O false)]) J 5 (wn ?_))
 cases h
 exact we J func173 [] Q Q Q Q
theorem z186_ct (N:Nat) (c_:Int) (r:Bool) (h:z186 N c_=some r) :
 Fn Tryz.prog 186 ⟨0,[.c (.i .u8 c_)],[],[],0,.O r,[],[]⟩:=by
 refine wF func186 Q Q (fun E F w=>?_)
 unfold z186 at h
 refine wR J 1 Q (wq (wg (xw [3,4,5,6] (zz0 [(0,.c (.i .u8 c_)),(5,.O (decide (48≤c_)))]) J 3 ?_)))
 obtain ⟨K,h⟩|⟨K,h⟩:=oc h
 ·refine wy 5 K Q (wx (zz0 [(2,.O (decide (c_≤57)))]) J 4 (wn ?_))
  cases h
  exact we J func186 [] Q Q Q Q
 refine wy 5 K Q (wx (zz0 [(2,.O false)]) J 4 (wn ?_))
 cases h
 exact we J func186 [] Q Q Q Q
theorem z174_ct (N:Nat) (c_:Int) (r:Bool) (h:z174 N c_=some r) :
 Fn Tryz.prog 174 ⟨0,[.c (.i .u8 c_)],[],[],0,.O r,[],[]⟩:=by
 refine wF func174 Q Q (fun E F w=>?_)
 unfold z174 at h
 refine wR J 1 Q (wq (wg (ws J 1 Q ?_)))
 obtain ⟨x1,d,h⟩:=ob h
 refine wc (z173_ct N c_ _ d) [] [] Q Q Q Q Q Q Q Q (.inl rfl) rfl (xw (rg 3 8) (zz0 [(0,.c (.i .u8 c_)),(5,.O x1)]) J 1 ?_)
 obtain ⟨K,h⟩|⟨K,h⟩:=oc h
 ·refine wy 5 K Q (wx (zz0 [(2,.O true)]) J 8 (wn ?_))
  cases h
  exact we J func174 [] Q Q Q Q
 refine wy 5 K Q (ws J 1 Q ?_)
 obtain ⟨x2,e,h⟩:=ob h
 refine wc (z186_ct N c_ _ e) [] [] Q Q Q Q Q Q Q Q (.inl rfl) rfl (xw [7,8,9,10] (zz0 [(0,.c (.i .u8 c_)),(9,.O x2)]) J 2 ?_)
 obtain ⟨K,h⟩|⟨K,h⟩:=oc h
 ·refine wy 9 K Q (wx (zz0 [(2,.O true)]) J 4 (wn ?_))
  cases h
  exact we J func174 [] Q Q Q Q
 refine wy 9 K Q (wx (zz0 [(2,.O (c_==95))]) J 4 (wn ?_))
 cases h
 exact we J func174 [] Q Q Q Q
theorem z157_ct (N:Nat) (s_:ByteArray) (r:Bool) (h:z157 N s_=some r) :
 Fn Tryz.prog 157 ⟨0,[.c (.s s_)],[],[],0,.O r,[],[]⟩:=by
 refine wF func157 Q Q (fun E F w=>?_)
 unfold z157 at h
 refine wR J 1 Q (wq (wq (wg (xw (rg 3 10) (zz0 [(0,.c (.s s_)),(2,.O false),(6,.O (s_.toList==(str []).toList))]) J 3 ?_))))
 obtain ⟨K,h⟩|⟨K,h⟩:=oc h
 ·refine wy 6 K Q (wx (zz0 [(0,.c (.s s_)),(2,.O false),(16,.O true)]) J 10 (wn (wt Q Q (wR J 1 Q ?_))))
  cases h
  exact we J func157 [] Q Q Q Q
 refine wy 6 K Q (xw [8,9,10,11,12] (zz0 [(0,.c (.s s_)),(2,.O false),(11,.O (decide ((s_.size:Int) > 16)))]) J 5 ?_)
 obtain ⟨K,h⟩|⟨K,h⟩:=oc h
 ·refine wy 11 K Q (wx (zz0 [(0,.c (.s s_)),(2,.O false),(16,.O true)]) J 5 (wn (wt Q Q (wR J 1 Q ?_))))
  cases h
  exact we J func157 [] Q Q Q Q
 refine wy 11 K Q (ws J 1 Q ?_)
 obtain ⟨x1,d,h⟩:=ob h
 refine WPr.sx J d Q Q Q Q Q Q Q Q Q ?_
 obtain ⟨x2,e,h⟩:=ob h
 refine wc (z173_ct N x1 _ e) [] [] Q Q Q Q Q Q Q Q (.inl rfl) rfl (wx (zz0 [(0,.c (.s s_)),(2,.O false),(16,.O (!x2))]) J 2 (wn ?_))
 obtain ⟨K,h⟩|⟨K,h⟩:=oc h
 ·refine wt K Q (wR J 1 Q ?_)
  cases h
  exact we J func157 [] Q Q Q Q
 refine wf K Q (wi (wq (wV (zz0 [(0,.c (.s s_)),(2,.O false),(18,.I (s_.size:Int)),(19,.I 0)]) J 3 ?_)))
 refine wC (σ:=Unit) (fun st=>(zz0 [])) (fun st=>z157_k1=some r) ?_ (fun j1=>?_)
 ·intro _ h
  replace h:z157_k1=some r:=h
  unfold z157_k1 at h
  refine wR J 1 Q ?_
  cases h
  exact we J func157 [] Q Q Q Q
 refine wo ?_
 refine wI (σ:=Int) (fun st=>(zz0 [(0,.c (.s s_)),(18,.I (s_.size:Int)),(19,.I st)])) (fun n st=>z157_l2 N s_ n st) (r:=r) (fun _=>rfl) ?_ (fun ih=>?_)
 ·intro n2 ih3
  intro f h
  replace h:z157_l2 N s_ (n2+1) f=some r:=h
  unfold z157_l2 at h
  refine wR J 1 Q (wq ?_)
  obtain ⟨K,h⟩|⟨K,h⟩:=oc' h
  ·exact wf K Q (wz rfl (wU (j1 () h)))
  refine wt K Q (wi (wq (wo (wV (zz0 [(0,.c (.s s_)),(3,.I f),(18,.I (s_.size:Int)),(19,.I f)]) J 2 (wq (wg (ws J 2 Q ?_)))))))
  obtain ⟨g,j,h⟩:=ob h
  refine WPr.sx J j Q Q Q Q Q Q Q Q Q (xw [3,4] (zz0 [(0,.c (.s s_)),(18,.I (s_.size:Int)),(19,.I f),(24,.c (.i .u8 g))]) J 0 ?_)
  obtain ⟨k,l,h⟩:=ob h
  refine wc (z174_ct N g _ l) [] [] Q Q Q Q Q Q Q Q (.inl rfl) rfl (wx (zz0 [(0,.c (.s s_)),(18,.I (s_.size:Int)),(19,.I f),(26,.O (!k))]) J 1 (wn ?_))
  obtain ⟨K,h⟩|⟨K,h⟩:=oc h
  ·refine wt K Q (wR J 1 Q ?_)
   cases h
   exact we J func157 [] Q Q Q Q
  exact wf K Q (wi (wb (wS J 2 Q (wU (ih3 (w64 (f+1)) h)))))
 exact wU (ih N 0 h)
theorem z75_ct (N:Nat) (s_:(List ByteArray)) (v_:ByteArray) (r:Int) (h:z75 N s_ v_=some r) :
 Fn Tryz.prog 75 ⟨1,[.S 0,.c (.s v_)],[(0,.sl rS s_)],[],1,.I r,[],[]⟩:=by
 refine wF func75 Q Q (fun E F w=>?_)
 unfold z75 at h
 refine wR J 1 Q (wq (wV (zz13 s_ [(0,.S 0),(1,.c (.s v_)),(4,.I 0),(7,.I (s_.length:Int)),(8,.I 0)]) J 3 ?_))
 refine wC (σ:=Unit) (fun st=>(zz13 s_ [])) (fun st=>z75_k1=some r) ?_ (fun j1=>?_)
 ·intro _ h
  replace h:z75_k1=some r:=h
  unfold z75_k1 at h
  refine wR J 1 Q ?_
  cases h
  exact we J func75 [] Q Q Q Q
 refine wo ?_
 refine wI (σ:=Int) (fun st=>(zz13 s_ [(0,.S 0),(1,.c (.s v_)),(7,.I (s_.length:Int)),(8,.I st)])) (fun n st=>z75_l2 s_ v_ n st) (r:=r) (fun _=>rfl) ?_ (fun ih=>?_)
 ·intro n2 ih3
  intro d h
  replace h:z75_l2 s_ v_ (n2+1) d=some r:=h
  unfold z75_l2 at h
  refine wR J 1 Q (wq ?_)
  obtain ⟨K,h⟩|⟨K,h⟩:=oc' h
  ·exact wf K Q (wz rfl (wU (j1 () h)))
  refine wt K Q (wi (wq (wo (wV (zz13 s_ [(0,.S 0),(1,.c (.s v_)),(5,.I d),(7,.I (s_.length:Int)),(8,.I d)]) J 2 (wq (wg (xw [3,4,5] (zz13 s_ [(0,.S 0),(1,.c (.s v_)),(5,.I d),(7,.I (s_.length:Int)),(8,.I d),(11,.c (.s v_)),(12,.S 0),(13,.I d)]) J 3 ?_)))))))
  obtain ⟨x9,e,h⟩:=ob h
  refine wj oS J e Q Q Q Q Q Q Q Q Q (wx (zz60 s_ [(0,.S 0),(1,.c (.s v_)),(5,.I d),(7,.I (s_.length:Int)),(8,.I d),(16,.O (v_.toList==x9.toList))]) J 2 (wn ?_))
  obtain ⟨K,h⟩|⟨K,h⟩:=oc h
  ·refine wt K Q (wR J 2 Q ?_)
   cases h
   exact we J func75 [] Q Q Q Q
  exact wf K Q (wi (wb (wS J 2 Q (wU (ih3 (w64 (d+1)) h)))))
 exact wU (ih N 0 h)
theorem z121_ct (N:Nat) (s_:(List ByteArray)) (v_:ByteArray) (r:Bool) (h:z121 N s_ v_=some r) :
 Fn Tryz.prog 121 ⟨1,[.S 0,.c (.s v_)],[(0,.sl rS s_)],[],1,.O r,[],[]⟩:=by
 refine wF func121 Q Q (fun E F w=>?_)
 unfold z121 at h
 refine wR J 1 Q (wq (wg (xw [2,3,4] (zz13 s_ [(5,.S 0),(6,.c (.s v_))]) J 2 ?_)))
 obtain ⟨x1,d,h⟩:=ob h
 refine wc (z75_ct N s_ v_ _ d) [(0,.sl 0)] [] Q Q Q Q Q Q Q Q (.inl rfl) rfl (wx (zz13 s_ [(4,.O (decide (x1≥0)))]) J 2 (wn ?_))
 cases h
 exact we J func121 [] Q Q Q Q
theorem z120_ct (N:Nat) (s_:ByteArray) (r:Bool) (h:z120 N s_=some r) :
 Fn Tryz.prog 120 ⟨0,[.c (.s s_)],[],[],0,.O r,[],[]⟩:=by
 refine wF func120 Q Q (fun E F w=>?_)
 unfold z120 at h
 refine wR J 1 Q (wV (zz163 [(0,.c (.s s_)),(2,.O false),(3,.B 0 0)]) J 3 (wq (wg (ws J 1 Q ?_))))
 obtain ⟨x1,d,h⟩:=ob h
 refine wc (z157_ct N s_ _ d) [] [] Q Q Q Q Q Q Q Q (.inl rfl) rfl (xw (rg 3 6) (zz163 [(0,.c (.s s_)),(3,.B 0 0),(7,.O x1)]) J 1 ?_)
 obtain ⟨K,h⟩|⟨K,h⟩:=oc' h
 ·refine wy 7 K Q (wx (zz21 [(2,.O false)]) J 6 (wn ?_))
  cases h
  exact we J func120 [] Q Q Q Q
 refine wy 7 K Q (WPr.slb (len:=28) (el:=9) oS ([(str [97,103,97,105,110]),(str [97,110,100]),(str [97,115]),(str [97,116]),(str [99,97,108,108]),(str [99,104,111,105,99,101]),(str [101,108,115,101]),(str [102,114,111,109]),(str [105,102]),(str [105,110,116]),(str [108,101,110]),(str [108,111,111,112]),(str [109,101,115,115,97,103,101]),(str [111,102]),(str [111,102,102,101,114]),(str [111,110]),(str [111,114]),(str [112,97,114]),(str [112,108,97,121,115]),(str [112,114,111,116,111,99,111,108]),(str [115,101,114,118,105,99,101]),(str [116,101,120,116]),(str [116,105,109,101,115]),(str [116,111]),(str [118,97,114]),(str [119,104,101,114,101]),(str [119,104,105,108,101]),(str [119,105,116,104,105,110])]:List ByteArray) (by exact (an rfl (an rfl (an rfl (an rfl (an rfl (an rfl (an rfl (an rfl (an rfl (an rfl (an rfl (an rfl (an rfl (an rfl (an rfl (an rfl (an rfl (an rfl (an rfl (an rfl (an rfl (an rfl (an rfl (an rfl (an rfl (an rfl (an rfl (an Q Q))))))))))))))))))))))))))))) Q Q Q Q (by kernel_rfl) (by kernel_rfl) Q Q Q (ws J 1 Q ?_))
 obtain ⟨x2,e,h⟩:=ob h
 refine wc (z121_ct N ([(str [97,103,97,105,110]),(str [97,110,100]),(str [97,115]),(str [97,116]),(str [99,97,108,108]),(str [99,104,111,105,99,101]),(str [101,108,115,101]),(str [102,114,111,109]),(str [105,102]),(str [105,110,116]),(str [108,101,110]),(str [108,111,111,112]),(str [109,101,115,115,97,103,101]),(str [111,102]),(str [111,102,102,101,114]),(str [111,110]),(str [111,114]),(str [112,97,114]),(str [112,108,97,121,115]),(str [112,114,111,116,111,99,111,108]),(str [115,101,114,118,105,99,101]),(str [116,101,120,116]),(str [116,105,109,101,115]),(str [116,111]),(str [118,97,114]),(str [119,104,101,114,101]),(str [119,104,105,108,101]),(str [119,105,116,104,105,110])]:List ByteArray) s_ _ e) [(0,.sl 1)] [1] Q Q Q Q Q Q Q Q (.inr ⟨rfl,trivial⟩) rfl (wx ⟨[(2,.O (!x2))],[],[],2⟩ J 3 (wn ?_))
 cases h
 exact we J func120 [] Q Q Q Q
theorem z61_ct (N:Nat) (g_:T4) (r:Bool) (h:z61 N g_=some r) :
 Fn Tryz.prog 61 ⟨4,[.a (cC4 0 1 2 3 g_)],(vV4 0 1 2 3 g_ []),[],4,.O r,[],[]⟩:=by
 refine wF func61 Q Q (fun E F w=>?_)
 unfold z61 at h
 refine wR J 2 Q (wq (wq (wg (xw (rg 2 14) (zz2 g_ [(1,.B 4 0),(2,.O false),(6,.c (.s g_.Name))]) J 2 ?_))))
 obtain ⟨x1,d,h⟩:=ob h
 refine wc (z120_ct N g_.Name _ d) [] [] Q Q Q Q Q Q Q Q (.inl rfl) rfl (xw (rg 5 11) (zz2 g_ [(1,.B 4 0),(2,.O false),(9,.O (!x1))]) J 2 ?_)
 obtain ⟨K,h⟩|⟨K,h⟩:=oc h
 ·refine wy 9 K Q (wx (zz2 g_ [(1,.B 4 0),(2,.O false),(20,.O true)]) J 11 (wn (wt Q Q (wR J 1 Q ?_))))
  cases h
  exact we J func61 [] Q Q Q Q
 refine wy 9 K Q (xw [11,12,13,14,15] (zz2 g_ [(1,.B 4 0),(2,.O false),(15,.O (decide ((g_.Roles.length:Int) < 1)))]) J 6 ?_)
 obtain ⟨K,h⟩|⟨K,h⟩:=oc h
 ·refine wy 15 K Q (wx (zz2 g_ [(1,.B 4 0),(2,.O false),(20,.O true)]) J 5 (wn (wt Q Q (wR J 1 Q ?_))))
  cases h
  exact we J func61 [] Q Q Q Q
 refine wy 15 K Q (wx (zz2 g_ [(1,.B 4 0),(2,.O false),(20,.O (decide ((g_.Roles.length:Int) > 6)))]) J 5 (wn ?_))
 obtain ⟨K,h⟩|⟨K,h⟩:=oc h
 ·refine wt K Q (wR J 1 Q ?_)
  cases h
  exact we J func61 [] Q Q Q Q
 refine wf K Q (wi (wq (wV (zz2 g_ [(1,.B 4 0),(2,.O false),(22,.S 0),(23,.I (g_.Roles.length:Int)),(24,.I 0)]) J 4 ?_)))
 refine wC (σ:=Unit) (fun st=>(zz6 g_ [])) (fun st=>z61_k1=some r) ?_ (fun j1=>?_)
 ·intro _ h
  replace h:z61_k1=some r:=h
  unfold z61_k1 at h
  refine wR J 1 Q ?_
  cases h
  exact we J func61 [] Q Q Q Q
 refine wo ?_
 refine wI (σ:=Int) (fun st=>(zz2 g_ [(1,.B 4 0),(22,.S 0),(23,.I (g_.Roles.length:Int)),(24,.I st)])) (fun n st=>z61_l2 N g_ n st) (r:=r) (fun _=>rfl) ?_ (fun ih=>?_)
 ·intro n2 ih3
  intro e h
  replace h:z61_l2 N g_ (n2+1) e=some r:=h
  unfold z61_l2 at h
  refine wR J 1 Q (wq ?_)
  obtain ⟨K,h⟩|⟨K,h⟩:=oc' h
  ·exact wf K Q (wz rfl (wU (j1 () h)))
  refine wt K Q (wi (wq (wo (wq (wg (ws J 1 Q ?_))))))
  obtain ⟨f,g,h⟩:=ob h
  refine wj oS J g Q Q Q Q Q Q Q Q Q (wx (zz43 g_ [(1,.B 4 0),(3,.I e),(4,.c (.s f)),(22,.S 0),(23,.I (g_.Roles.length:Int)),(24,.I e)]) J 3 (wn (wq (wg (ws J 1 Q ?_)))))
  obtain ⟨i,j,h⟩:=ob h
  refine wc (z120_ct N f _ j) [] [] Q Q Q Q Q Q Q Q (.inl rfl) rfl (xw (rg 4 7) (zz43 g_ [(1,.B 4 0),(3,.I e),(4,.c (.s f)),(22,.S 0),(23,.I (g_.Roles.length:Int)),(24,.I e),(32,.O (!i))]) J 2 ?_)
  obtain ⟨K,h⟩|⟨K,h⟩:=oc h
  ·refine wy 32 K Q (wx (zz43 g_ [(1,.B 4 0),(22,.S 0),(23,.I (g_.Roles.length:Int)),(24,.I e),(39,.O true)]) J 7 (wn (wt Q Q (wR J 1 Q ?_))))
   cases h
   exact we J func61 [] Q Q Q Q
  refine wy 32 K Q (xw [7,8,9,10] (zz43 g_ [(1,.B 4 0),(4,.c (.s f)),(22,.S 0),(23,.I (g_.Roles.length:Int)),(24,.I e),(32,.O false),(34,.S 0),(35,.I e)]) J 3 ?_)
  obtain ⟨k,m,h⟩:=ob h
  refine WPr.isl J (l:=none) (h:=some (.i64,e)) m Q Q Q Q Q Q Q Q Q Q (ws J 1 Q ?_)
  obtain ⟨o,p,h⟩:=ob h
  refine wc (z121_ct N k f _ p) [(0,.sl 6)] [] Q Q Q Q Q Q Q Q (.inl rfl) rfl (wx (zz14 g_ [(1,.B 4 0),(22,.S 0),(23,.I (g_.Roles.length:Int)),(24,.I e),(39,.O o)]) J 1 (wn ?_))
  obtain ⟨K,h⟩|⟨K,h⟩:=oc h
  ·refine wt K Q (wR J 1 Q ?_)
   cases h
   exact we J func61 [] Q Q Q Q
  exact wf K Q (wi (wb (wS J 2 Q (wU (ih3 (w64 (e+1)) h)))))
 exact wU (ih N 0 h)
theorem z62_ct (N:Nat) (g_:T4) (r:Bool) (h:z62 N g_=some r) :
 Fn Tryz.prog 62 ⟨4,[.a (cC4 0 1 2 3 g_)],(vV4 0 1 2 3 g_ []),[],4,.O r,[],[]⟩:=by
 refine wF func62 Q Q (fun E F w=>?_)
 unfold z62 at h
 refine wR J 2 Q (wq (wq (wg (xw (rg 4 28) (zz2 g_ [(1,.B 4 0),(2,.O false),(9,.O (decide (g_.States < 1)))]) J 4 ?_))))
 obtain ⟨K,h⟩|⟨K,h⟩:=oc h
 ·refine wy 9 K Q (wx (zz2 g_ [(1,.B 4 0),(2,.O false),(37,.O true)]) J 28 (wn (wt Q Q (wR J 1 Q ?_))))
  cases h
  exact we J func62 [] Q Q Q Q
 refine wy 9 K Q (xw (rg 9 23) (zz2 g_ [(1,.B 4 0),(2,.O false),(14,.O (decide (g_.States > 200)))]) J 5 ?_)
 obtain ⟨K,h⟩|⟨K,h⟩:=oc h
 ·refine wy 14 K Q (wx (zz2 g_ [(1,.B 4 0),(2,.O false),(37,.O true)]) J 23 (wn (wt Q Q (wR J 1 Q ?_))))
  cases h
  exact we J func62 [] Q Q Q Q
 refine wy 14 K Q (xw (rg 17 15) (zz2 g_ [(1,.B 4 0),(2,.O false),(22,.O (decide ((minI g_.Start g_.End) < 0)))]) J 8 ?_)
 obtain ⟨K,h⟩|⟨K,h⟩:=oc h
 ·refine wy 22 K Q (wx (zz2 g_ [(1,.B 4 0),(2,.O false),(37,.O true)]) J 15 (wn (wt Q Q (wR J 1 Q ?_))))
  cases h
  exact we J func62 [] Q Q Q Q
 refine wy 22 K Q (xw [27,28,29,30,31] (zz2 g_ [(1,.B 4 0),(2,.O false),(32,.O (decide ((maxI g_.Start g_.End)≥g_.States)))]) J 10 ?_)
 obtain ⟨K,h⟩|⟨K,h⟩:=oc h
 ·refine wy 32 K Q (wx (zz2 g_ [(1,.B 4 0),(2,.O false),(37,.O true)]) J 5 (wn (wt Q Q (wR J 1 Q ?_))))
  cases h
  exact we J func62 [] Q Q Q Q
 refine wy 32 K Q (wx (zz2 g_ [(1,.B 4 0),(2,.O false),(37,.O (decide ((g_.Edges.length:Int) > 400)))]) J 5 (wn ?_))
 obtain ⟨K,h⟩|⟨K,h⟩:=oc h
 ·refine wt K Q (wR J 1 Q ?_)
  cases h
  exact we J func62 [] Q Q Q Q
 refine wf K Q (wi (wq (wV (zz2 g_ [(1,.B 4 0),(2,.O false),(39,.S 2),(40,.I (g_.Edges.length:Int)),(41,.I 0)]) J 4 ?_)))
 refine wC (σ:=Unit) (fun st=>(zz6 g_ [])) (fun st=>z62_k1=some r) ?_ (fun j1=>?_)
 ·intro _ h
  replace h:z62_k1=some r:=h
  unfold z62_k1 at h
  refine wR J 1 Q ?_
  cases h
  exact we J func62 [] Q Q Q Q
 refine wo ?_
 refine wI (σ:=Int) (fun st=>(zz2 g_ [(1,.B 4 0),(39,.S 2),(40,.I (g_.Edges.length:Int)),(41,.I st)])) (fun n st=>z62_l2 g_ n st) (r:=r) (fun _=>rfl) ?_ (fun ih=>?_)
 ·intro n2 ih3
  intro c h
  replace h:z62_l2 g_ (n2+1) c=some r:=h
  unfold z62_l2 at h
  refine wR J 1 Q (wq ?_)
  obtain ⟨K,h⟩|⟨K,h⟩:=oc' h
  ·exact wf K Q (wz rfl (wU (j1 () h)))
  refine wt K Q (wi (wq (wo (wq (wg ?_)))))
  obtain ⟨x9,d,h⟩:=ob h
  refine wj oO2 J d Q Q Q Q Q Q Q Q Q (wx (zz8 g_ x9 [(1,.B 4 0),(4,.B 6 0),(39,.S 2),(40,.I (g_.Edges.length:Int)),(41,.I c)]) J 3 (wn (wV (zz164 g_ x9 x9.Act [(1,.B 4 0),(4,.B 6 0),(5,.B 7 0),(39,.S 2),(40,.I (g_.Edges.length:Int)),(41,.I c)]) J 4 (wq (wg (xw (rg 13 35) (zz164 g_ x9 x9.Act [(1,.B 4 0),(4,.B 6 0),(5,.B 7 0),(39,.S 2),(40,.I (g_.Edges.length:Int)),(41,.I c),(59,.O (decide ((minI (minI (minI (minI x9.From x9.To) x9.Act.From) x9.Act.To) x9.Act.Label) < 0)))]) J 13 ?_))))))
  obtain ⟨K,h⟩|⟨K,h⟩:=oc h
  ·refine wy 59 K Q (wx (zz18 g_ [(1,.B 4 0),(39,.S 2),(40,.I (g_.Edges.length:Int)),(41,.I c),(94,.O true)]) J 35 (wn (wt Q Q (wR J 1 Q ?_))))
   cases h
   exact we J func62 [] Q Q Q Q
  refine wy 59 K Q (xw (rg 23 25) (zz122 g_ x9.Act [(1,.B 4 0),(5,.B 7 0),(39,.S 2),(40,.I (g_.Edges.length:Int)),(41,.I c),(69,.O (decide ((maxI x9.From x9.To)≥g_.States)))]) J 10 ?_)
  obtain ⟨K,h⟩|⟨K,h⟩:=oc h
  ·refine wy 69 K Q (wx (zz18 g_ [(1,.B 4 0),(39,.S 2),(40,.I (g_.Edges.length:Int)),(41,.I c),(94,.O true)]) J 25 (wn (wt Q Q (wR J 1 Q ?_))))
   cases h
   exact we J func62 [] Q Q Q Q
  refine wy 69 K Q (xw (rg 34 14) (zz122 g_ x9.Act [(1,.B 4 0),(5,.B 7 0),(39,.S 2),(40,.I (g_.Edges.length:Int)),(41,.I c),(80,.O (decide ((maxI x9.Act.From x9.Act.To)≥(g_.Roles.length:Int))))]) J 11 ?_)
  obtain ⟨K,h⟩|⟨K,h⟩:=oc h
  ·refine wy 80 K Q (wx (zz18 g_ [(1,.B 4 0),(39,.S 2),(40,.I (g_.Edges.length:Int)),(41,.I c),(94,.O true)]) J 14 (wn (wt Q Q (wR J 1 Q ?_))))
   cases h
   exact we J func62 [] Q Q Q Q
  refine wy 80 K Q (xw (rg 41 7) (zz122 g_ x9.Act [(1,.B 4 0),(5,.B 7 0),(39,.S 2),(40,.I (g_.Edges.length:Int)),(41,.I c),(87,.O (x9.Act.From==x9.Act.To))]) J 7 ?_)
  obtain ⟨K,h⟩|⟨K,h⟩:=oc h
  ·refine wy 87 K Q (wx (zz18 g_ [(1,.B 4 0),(39,.S 2),(40,.I (g_.Edges.length:Int)),(41,.I c),(94,.O true)]) J 7 (wn (wt Q Q (wR J 1 Q ?_))))
   cases h
   exact we J func62 [] Q Q Q Q
  refine wy 87 K Q (wx (zz18 g_ [(1,.B 4 0),(39,.S 2),(40,.I (g_.Edges.length:Int)),(41,.I c),(94,.O (decide (x9.Act.Label≥(g_.Decls.length:Int))))]) J 7 (wn ?_))
  obtain ⟨K,h⟩|⟨K,h⟩:=oc h
  ·refine wt K Q (wR J 1 Q ?_)
   cases h
   exact we J func62 [] Q Q Q Q
  exact wf K Q (wi (wb (wS J 2 Q (wU (ih3 (w64 (c+1)) h)))))
 exact wU (ih N 0 h)
theorem z175_ct (N:Nat) (l_:(List T0)) (r:(List T3)) (h:z175 N l_=some r) :
 Fn Tryz.prog 175 ⟨1,[.S 0],[(0,.sl rR0 l_)],[],2,.S 1,[],[(1,.own rR3 r true)]⟩:=by
 refine wF func175 Q Q (fun E F w=>?_)
 unfold z175 at h
 refine wR J 1 Q (wR J 1 Q (wq (wV (zz7 l_ [(2,.c .nil),(3,.c .nil),(6,.S 0),(7,.I (l_.length:Int)),(8,.I 0)]) J 3 ?_)))
 refine wC (σ:=(List T3)) (fun st=>(zz61 st l_ [(3,.S 1)])) (fun st=>z175_k1 st=some r) ?_ (fun j1=>?_)
 ·intro d h
  replace h:z175_k1 d=some r:=h
  unfold z175_k1 at h
  refine wR J 2 Q ?_
  cases h
  exact we J func175 [(1,.sl 1)] Q Q Q Q
 refine wo ?_
 refine wI (σ:=(List T3) × Int) (fun st=>(zz61 st.1 l_ [(3,.S 1),(6,.S 0),(7,.I (l_.length:Int)),(8,.I st.2)])) (fun n st=>z175_l2 l_ n st.1 st.2) (r:=r) (fun _=>rfl) ?_ (fun ih=>?_)
 ·intro n2 ih3
  rintro ⟨e,f⟩ h
  replace h:z175_l2 l_ (n2+1) e f=some r:=h
  unfold z175_l2 at h
  refine wR J 1 Q (wq ?_)
  obtain ⟨K,h⟩|⟨K,h⟩:=oc' h
  ·exact wf K Q (wz rfl (wU (j1 e h)))
  refine wt K Q (wi (wq (wo (wq (wg ?_)))))
  obtain ⟨g,i,h⟩:=ob h
  refine wj oO0 J i Q Q Q Q Q Q Q Q Q (wx (zz44 e g l_ [(3,.S 1),(5,.B 6 0),(6,.S 0),(7,.I (l_.length:Int)),(8,.I f)]) J 3 (wn (wg (xw [3,4] ⟨[(6,.S 0),(7,.I (l_.length:Int)),(8,.I f),(12,.S 1),(14,.S 3)],[(1,.own rR3 e true)],[(0,.sl rR0 l_),(3,.sl rR3 g.Fields)],7⟩ J 3 ?_))))
  obtain ⟨j,k,h⟩:=ob h
  exact WPr.app J k (by exact (srcI rfl)) Q Q Q Q Q Q Q Q Q Q (wx ⟨[(3,.S 7),(6,.S 0),(7,.I (l_.length:Int)),(8,.I f)],[(7,.own rR3 j true)],[(0,.sl rR0 l_)],8⟩ J 1 (wn (wb (wS J 2 Q (wu [(1,.sl 7)] (ih3 (j,(w64 (f+1))) h) Q Q Q Q)))))
 exact wu [(1,.nil)] (ih N (([]:List T3),0) h) Q Q Q Q
theorem z196_ct (N:Nat) (s_:ByteArray) (r:Int) (h:z196 N s_=some r) :
 Fn Tryz.prog 196 ⟨0,[.c (.s s_)],[],[],0,.I r,[],[]⟩:=by
 refine wF func196 Q Q (fun E F w=>?_)
 unfold z196 at h
 refine wR J 1 Q (wq (wq (wg (ws J 1 Q ?_))))
 cases h
theorem z200_ct (N:Nat) (s_:ByteArray) (r:Int × Int) (h:z200 N s_=some r) :
 Fn Tryz.prog 200 ⟨0,[.c (.s s_)],[],[],0,.t [.inl (.i .i32 r.1),.inl (.I r.2)],[],[]⟩:=by
 refine wF func200 Q Q (fun E F w=>?_)
 unfold z200 at h
 refine wR J 2 Q (wV (zz0 [(0,.c (.s s_)),(2,.c (.i .i32 0)),(3,.I 0),(4,.I (s_.size:Int))]) J 3 (wq (wR J 2 Q ?_)))
 obtain ⟨K,h⟩|⟨K,h⟩:=oc h
 ·refine wt K Q (wV (zz0 [(2,.c (.i .i32 65533)),(3,.I 0)]) J 2 ?_)
  cases h
  exact we J func200 [] Q Q Q Q
 refine wf K Q (wi (wq (wg (xw [1,2] (zz0 [(0,.c (.s s_)),(2,.c (.i .i32 0)),(3,.I 0),(4,.I (s_.size:Int)),(17,.c (.s s_))]) J 1 ?_))))
 obtain ⟨x1,d,h⟩:=ob h
 refine WPr.sx J d Q Q Q Q Q Q Q Q Q (ws J 1 Q (wn (wq (wg (xw [1,2,3] (zz0 [(0,.c (.s s_)),(2,.c (.i .i32 0)),(3,.I 0),(4,.I (s_.size:Int)),(5,.c (.i .u8 x1)),(19,.c (.i .u8 x1))]) J 1 ?_)))))
 cases h
theorem z197_ct (N:Nat) (s_:ByteArray) (r:Int × Int) (h:z197 N s_=some r) :
 Fn Tryz.prog 197 ⟨0,[.c (.s s_)],[],[],0,.t [.inl (.i .i32 r.1),.inl (.I r.2)],[],[]⟩:=by
 refine wF func197 Q Q (fun E F w=>?_)
 unfold z197 at h
 refine wR J 2 Q (wq (wq (wg (xw [3,4,5,6] (zz0 [(0,.c (.s s_)),(2,.c (.i .i32 0)),(3,.I 0),(6,.O (!(s_.toList==(str []).toList)))]) J 3 ?_))))
 obtain ⟨K,h⟩|⟨K,h⟩:=oc' h
 ·refine wy 6 K Q (wx (zz0 [(0,.c (.s s_)),(2,.c (.i .i32 0)),(3,.I 0),(10,.O false)]) J 4 (wn (wf Q Q (wg (ws J 1 Q ?_)))))
  obtain ⟨x4,d,h⟩:=ob h
  refine wc (z200_ct N s_ _ d) [] [] Q Q Q Q Q Q Q Q (.inl rfl) rfl (wx (zz0 [(2,.c (.i .i32 x4.1)),(3,.I x4.2)]) J 5 (wn ?_))
  cases h
  exact we J func197 [] Q Q Q Q
 refine wy 6 K Q (ws J 1 Q ?_)
 obtain ⟨x1,e,h⟩:=ob h
 refine WPr.sx J e Q Q Q Q Q Q Q Q Q (wx (zz0 [(0,.c (.s s_)),(2,.c (.i .i32 0)),(3,.I 0),(10,.O (decide (x1 < 128)))]) J 2 (wn ?_))
 obtain ⟨K,h⟩|⟨K,h⟩:=oc h
 ·refine wt K Q (wq (wg (ws J 1 Q ?_)))
  obtain ⟨x2,f,h⟩:=ob h
  refine WPr.sx J f Q Q Q Q Q Q Q Q Q (wx (zz0 [(2,.c (.i .i32 (wk .i32 (x2)))),(3,.I 1)]) J 3 (wn ?_))
  cases h
  exact we J func197 [] Q Q Q Q
 refine wf K Q (wg (ws J 1 Q ?_))
 obtain ⟨x3,g,h⟩:=ob h
 refine wc (z200_ct N s_ _ g) [] [] Q Q Q Q Q Q Q Q (.inl rfl) rfl (wx (zz0 [(2,.c (.i .i32 x3.1)),(3,.I x3.2)]) J 5 (wn ?_))
 cases h
 exact we J func197 [] Q Q Q Q
theorem z193_ct (N:Nat) (s_:ByteArray) (n_:Int) (r:(List ByteArray)) (h:z193 N s_ n_=some r) :
 Fn Tryz.prog 193 ⟨0,[.c (.s s_),.I n_],[],[],1,.S 0,[],[(0,.own rS r true)]⟩:=by
 refine wF func193 Q Q (fun E F w=>?_)
 unfold z193 at h
 refine wR J 1 Q (wq (wg (ws J 1 Q ?_)))
 obtain ⟨x1,d,h⟩:=ob h
 refine wc (z196_ct N s_ _ d) [] [] Q Q Q Q Q Q Q Q (.inl rfl) rfl (wx (zz0 [(0,.c (.s s_)),(1,.I n_),(4,.c .nil),(5,.I x1)]) J 1 (wn (wq (wq (wg (xw [3,4,5,6] (zz0 [(0,.c (.s s_)),(1,.I n_),(4,.c .nil),(5,.I x1),(14,.O (decide (n_ < 0)))]) J 3 ?_))))))
 refine WP.cutr (σ:=Bool) (fun st=>(zz0 [(0,.c (.s s_)),(1,.I n_),(5,.I x1),(18,.O st)])) (fun st=>z193_k4 N s_ n_ x1 st=some r) ?_ (fun j1=>?_)
 ·intro e h
  replace h:z193_k4 N s_ n_ x1 e=some r:=h
  unfold z193_k4 at h
  refine wC (σ:=Int) (fun st=>(zz0 [(0,.c (.s s_)),(1,.I st)])) (fun st=>z193_k3 N s_ st=some r) ?_ (fun j2=>?_)
  ·intro f h
   replace h:z193_k3 N s_ f=some r:=h
   unfold z193_k3 at h
   refine wq (wg (ws J 1 Q ?_))
   obtain ⟨x2,g,h⟩:=ob h
   refine WPr.mk oS J (str []) g Q Q Q Q Q Q Q Q (by exact an Q Q) rfl (wx (zz16 x2 [(0,.c (.s s_)),(1,.I f),(6,.S 0)]) J 1 (wn (wq (wR J 1 Q ?_))))
   refine wC (σ:=ByteArray × (List ByteArray)) (fun st=>(zz16 st.2 [(0,.c (.s st.1)),(1,.I f),(6,.S 0)])) (fun st=>z193_k1 f st.1 st.2=some r) ?_ (fun j3=>?_)
   ·rintro ⟨i,j⟩ h
    replace h:z193_k1 f i j=some r:=h
    unfold z193_k1 at h
    refine wq (wR J 2 Q ?_)
    obtain ⟨K,h⟩|⟨K,h⟩:=oc' h
    ·refine wf K Q (wi (wV (zz16 j [(4,.S 0)]) J 2 ?_))
     cases h
     exact we J func193 [(0,.sl 0)] Q Q Q Q
    refine wt K Q (wg (xw [4,5] (zz16 j [(6,.S 0),(44,.S 0),(46,.I (w64 (f-1))),(47,.c (.s i))]) J 4 ?_))
    obtain ⟨k,m,h⟩:=ob h
    refine wX J m Q Q Q Q Q Q Q Q Q (WPr.sto oS J i m Q Q Q Q Q Q Q Q Q Q (by exact rfl) rfl (wn (wV (zz45 (setL' j (w64 (f-1)) i) [(4,.S 0)]) J 2 ?_)))
    cases h
    exact we J func193 [(0,.sl 0)] Q Q Q Q
   refine wo ?_
   refine wI (σ:=ByteArray × (List ByteArray) × Int) (fun st=>(zz16 st.2.1 [(0,.c (.s st.1)),(1,.I f),(6,.S 0),(7,.I st.2.2)])) (fun n st=>z193_l2 N f n st.1 st.2.1 st.2.2) (r:=r) (fun _=>rfl) ?_ (fun ih=>?_)
   ·intro n2 ih5
    rintro ⟨o,p,q⟩ h
    replace h:z193_l2 N f (n2+1) o p q=some r:=h
    unfold z193_l2 at h
    refine wq (wV (zz16 p [(0,.c (.s o)),(1,.I f),(6,.S 0),(7,.I q),(25,.O (decide (q < (w64 (f-1)))))]) J 4 ?_)
    obtain ⟨K,h⟩|⟨K,h⟩:=oc' h
    ·exact wf K Q (wz rfl (wU (j3 (o,p) h)))
    refine wt K Q (wi (wq (wo (wq (wg (ws J 1 Q ?_))))))
    obtain ⟨t,u,h⟩:=ob h
    refine wc (z197_ct N o _ u) [] [] Q Q Q Q Q Q Q Q (.inl rfl) rfl (wx (zz16 p [(0,.c (.s o)),(1,.I f),(6,.S 0),(7,.I q),(9,.I t.2)]) J 5 (wn (wq (wg (xw [4,5,6] (zz16 p [(0,.c (.s o)),(1,.I f),(6,.S 0),(7,.I q),(9,.I t.2),(33,.S 0),(34,.I q),(35,.c (.s o)),(36,.I t.2)]) J 4 ?_)))))
    obtain ⟨v,x,h⟩:=ob h
    refine WPr.ssl J (l:=none) (h:=some (.i64,t.2)) x Q Q Q Q Q Q Q Q Q Q ?_
    obtain ⟨y,z,h⟩:=ob h
    refine wX J z Q Q Q Q Q Q Q Q Q (WPr.sto oS J v z Q Q Q Q Q Q Q Q Q Q (by exact rfl) rfl (wx (zz45 (setL' p q v) [(0,.c (.s o)),(1,.I f),(6,.S 0),(7,.I q),(9,.I t.2)]) J 0 (wn (wg (ws J 2 Q ?_)))))
    obtain ⟨A,C,h⟩:=ob h
    exact WPr.ssl J (l:=some (.i64,t.2)) (h:=none) C Q Q Q Q Q Q Q Q Q Q (wx (zz45 (setL' p q v) [(0,.c (.s A)),(1,.I f),(6,.S 0),(7,.I q)]) J 1 (wn (wb (wT (zz45 (setL' p q v) [(0,.c (.s A)),(1,.I f),(6,.S 0),(7,.I (w64 (q+1)))]) J 3 (wU (ih5 (A,(setL' p q v),(w64 (q+1))) h))))))
   exact wU (ih N (s_,x2,0) h)
  obtain ⟨K,h⟩|⟨K,h⟩:=oc h
  ·exact wt K Q (wS J 2 Q (wU (j2 x1 h)))
  exact wf K Q (wi (wU (j2 n_ h)))
 obtain ⟨K,h⟩|⟨K,h⟩:=oc h
 ·exact wy 14 K Q (wx (zz0 [(0,.c (.s s_)),(1,.I n_),(4,.c .nil),(5,.I x1),(18,.O true)]) J 4 (wn (wU (j1 true h))))
 exact wy 14 K Q (wx (zz0 [(0,.c (.s s_)),(1,.I n_),(4,.c .nil),(5,.I x1),(18,.O (decide (n_ > x1)))]) J 4 (wn (wU (j1 (decide (n_ > x1)) h))))
theorem z201_ct (N:Nat) (s_:ByteArray) (c_:Int) (r:Int) (h:z201 N s_ c_=some r) :
 Fn Tryz.prog 201 ⟨0,[.c (.s s_),.c (.i .u8 c_)],[],[],0,.I r,[],[]⟩:=by
 refine wF func201 Q Q (fun E F w=>?_)
 unfold z201 at h
 refine wR J 1 Q (wq (wg (xw [2,3] (zz0 [(5,.c (.s s_)),(6,.c (.i .u8 c_))]) J 2 (WPr.ext (ext_indexByte func205 (by kernel_rfl) (by kernel_rfl) (by kernel_rfl) (by kernel_rfl) s_ c_) (fun _=>trivial) Q Q Q Q Q Q (wx (zz0 [(4,.I (firstB s_ c_))]) J 1 (wn ?_))))))
 cases h
 exact we J func201 [] Q Q Q Q
theorem z199_ct (N:Nat) (s_:ByteArray) (substr_:ByteArray) (r:Int) (h:z199 N s_ substr_=some r) :
 Fn Tryz.prog 199 ⟨0,[.c (.s s_),.c (.s substr_)],[],[],0,.I r,[],[]⟩:=by
 refine wF func199 Q Q (fun E F w=>?_)
 unfold z199 at h
 refine wR J 1 Q (wV (zz0 [(0,.c (.s s_)),(1,.c (.s substr_)),(4,.I 0),(5,.I (substr_.size:Int))]) J 3 (wq (wo (wq (wg (xw [3,4,5,6,7] (zz0 [(0,.c (.s s_)),(1,.c (.s substr_)),(4,.I 0),(5,.I (substr_.size:Int)),(19,.O ((substr_.size:Int)==0))]) J 3 ?_))))))
 obtain ⟨K,h⟩|⟨K,h⟩:=oc h
 ·refine wy 19 K Q (wx (zz0 [(0,.c (.s s_)),(1,.c (.s substr_)),(4,.I 0),(5,.I (substr_.size:Int)),(16,.O true)]) J 5 (wn (wt Q Q (wR J 1 Q ?_))))
  cases h
  exact we J func199 [] Q Q Q Q
 refine wy 19 K Q (wx (zz0 [(0,.c (.s s_)),(1,.c (.s substr_)),(4,.I 0),(5,.I (substr_.size:Int)),(16,.O (substr_.toList==s_.toList))]) J 5 (wn ?_))
 obtain ⟨K,h⟩|⟨K,h⟩:=oc h
 ·refine wt K Q (wR J 1 Q ?_)
  cases h
  exact we J func199 [] Q Q Q Q
 refine wf K Q (wV (zz0 [(0,.c (.s s_)),(1,.c (.s substr_)),(4,.I 0),(5,.I (substr_.size:Int)),(24,.O ((substr_.size:Int)==1))]) J 3 ?_)
 obtain ⟨K,h⟩|⟨K,h⟩:=oc h
 ·refine wt K Q (wq (wg (ws J 2 Q ?_)))
  obtain ⟨x1,d,h⟩:=ob h
  refine WPr.sx J d Q Q Q Q Q Q Q Q Q (xw [3,4] (zz0 [(27,.c (.s s_)),(29,.c (.i .u8 x1))]) J 0 ?_)
  obtain ⟨x2,e,h⟩:=ob h
  refine wc (z201_ct N s_ x1 _ e) [] [] Q Q Q Q Q Q Q Q (.inl rfl) rfl (wx (zz0 [(4,.I x2)]) J 1 (wn ?_))
  cases h
  exact we J func199 [] Q Q Q Q
 refine wf K Q (wV (zz0 [(0,.c (.s s_)),(1,.c (.s substr_)),(4,.I 0),(5,.I (substr_.size:Int)),(31,.O (decide ((substr_.size:Int)≥(s_.size:Int))))]) J 5 ?_)
 obtain ⟨K,h⟩|⟨K,h⟩:=oc h
 ·refine wt K Q (wR J 1 Q ?_)
  cases h
  exact we J func199 [] Q Q Q Q
 refine wf K Q (wq (wg (ws J 1 Q ?_)))
 cases h
theorem z195_ct (N:Nat) (s_:ByteArray) (substr_:ByteArray) (r:Int) (h:z195 N s_ substr_=some r) :
 Fn Tryz.prog 195 ⟨0,[.c (.s s_),.c (.s substr_)],[],[],0,.I r,[],[]⟩:=by
 refine wF func195 Q Q (fun E F w=>?_)
 unfold z195 at h
 refine wR J 1 Q (wq (wg (xw [2,3] (zz0 [(5,.c (.s s_)),(6,.c (.s substr_))]) J 2 ?_)))
 obtain ⟨x1,d,h⟩:=ob h
 refine wc (z199_ct N s_ substr_ _ d) [] [] Q Q Q Q Q Q Q Q (.inl rfl) rfl (wx (zz0 [(4,.I x1)]) J 1 (wn ?_))
 cases h
 exact we J func195 [] Q Q Q Q
theorem z194_ct (N:Nat) (s_:ByteArray) (substr_:ByteArray) (r:Int) (h:z194 N s_ substr_=some r) :
 Fn Tryz.prog 194 ⟨0,[.c (.s s_),.c (.s substr_)],[],[],0,.I r,[],[]⟩:=by
 refine wF func194 Q Q (fun E F w=>?_)
 unfold z194 at h
 refine wR J 1 Q (wq (wV (zz0 [(0,.c (.s s_)),(1,.c (.s substr_)),(4,.I 0),(9,.O ((substr_.size:Int)==0))]) J 3 ?_))
 obtain ⟨K,h⟩|⟨K,h⟩:=oc h
 ·refine wt K Q (wq (wg (ws J 1 Q ?_)))
  obtain ⟨x1,d,h⟩:=ob h
  refine wc (z196_ct N s_ _ d) [] [] Q Q Q Q Q Q Q Q (.inl rfl) rfl (wx (zz0 [(4,.I (w64 (x1+1)))]) J 2 (wn ?_))
  cases h
  exact we J func194 [] Q Q Q Q
 refine wf K Q (wi (wq (wV (zz0 [(0,.c (.s s_)),(1,.c (.s substr_)),(4,.I 0),(15,.O ((substr_.size:Int)==1))]) J 3 ?_)))
 obtain ⟨K,h⟩|⟨K,h⟩:=oc h
 ·refine wt K Q (wq (wg (ws J 2 Q ?_)))
  obtain ⟨x2,e,h⟩:=ob h
  refine WPr.sx J e Q Q Q Q Q Q Q Q Q (xw [3,4] (zz0 [(16,.c (.s s_)),(18,.c (.i .u8 x2))]) J 0 (WPr.ext (ext_countByte func198 (by kernel_rfl) (by kernel_rfl) (by kernel_rfl) (by kernel_rfl) s_ x2) (fun _=>trivial) Q Q Q Q Q Q (wx (zz0 [(4,.I (countB s_ x2))]) J 1 (wn ?_))))
  cases h
  exact we J func194 [] Q Q Q Q
 refine wf K Q (wi (wR J 1 Q (wo ?_)))
 refine wI (σ:=ByteArray × Int) (fun st=>(zz0 [(0,.c (.s st.1)),(1,.c (.s substr_)),(5,.I st.2)])) (fun n st=>z194_l1 N substr_ n st.1 st.2) (r:=r) (fun _=>rfl) ?_ (fun ih=>?_)
 ·intro n1 ih1
  rintro ⟨f,g⟩ h
  replace h:z194_l1 N substr_ (n1+1) f g=some r:=h
  unfold z194_l1 at h
  refine wo (wq (wg (ws J 2 Q ?_)))
  obtain ⟨j,k,h⟩:=ob h
  refine wc (z195_ct N f substr_ _ k) [] [] Q Q Q Q Q Q Q Q (.inl rfl) rfl (wx (zz0 [(0,.c (.s f)),(1,.c (.s substr_)),(5,.I g),(6,.I j)]) J 1 (wn (wq (wR J 2 Q ?_))))
  obtain ⟨K,h⟩|⟨K,h⟩:=oc h
  ·refine wt K Q (wV (zz0 [(4,.I g)]) J 2 ?_)
   cases h
   exact we J func194 [] Q Q Q Q
  refine wf K Q (wi (wV (zz0 [(0,.c (.s f)),(1,.c (.s substr_)),(5,.I (w64 (g+1))),(6,.I j)]) J 3 (wg (xw [5,6] (zz0 [(1,.c (.s substr_)),(5,.I (w64 (g+1))),(28,.c (.s f)),(32,.I (w64 (j+(substr_.size:Int))))]) J 5 ?_))))
  obtain ⟨m,o,h⟩:=ob h
  exact WPr.ssl J (l:=some (.i64,(w64 (j+(substr_.size:Int))))) (h:=none) o Q Q Q Q Q Q Q Q Q Q (ws J 1 Q (wn (wb (wU (ih1 (m,(w64 (g+1))) h)))))
 exact wU (ih N (s_,0) h)
theorem z192_ct (N:Nat) (s_:ByteArray) (sep_:ByteArray) (sepSave_:Int) (n_:Int) (r:(List ByteArray)) (h:z192 N s_ sep_ sepSave_ n_=some r) :
 Fn Tryz.prog 192 ⟨0,[.c (.s s_),.c (.s sep_),.I sepSave_,.I n_],[],[],1,.S 0,[],[(0,.own rS r true)]⟩:=by
 refine wF func192 Q Q (fun E F w=>?_)
 unfold z192 at h
 refine wR J 1 Q (wq (wV (zz0 [(0,.c (.s s_)),(1,.c (.s sep_)),(2,.I sepSave_),(3,.I n_),(8,.c .nil),(13,.O (n_==0))]) J 2 ?_))
 obtain ⟨K,h⟩|⟨K,h⟩:=oc h
 ·refine wt K Q (wR J 1 Q ?_)
  cases h
  exact we J func192 [(0,.nil)] Q Q Q Q
 refine wf K Q (wi (wq (wR J 2 Q ?_)))
 obtain ⟨K,h⟩|⟨K,h⟩:=oc h
 ·refine wt K Q (wq (wg (xw [2,3] (zz0 [(16,.c (.s s_)),(17,.I n_)]) J 2 ?_)))
  obtain ⟨x1,d,h⟩:=ob h
  refine wc (z193_ct N s_ n_ _ d) [] [] Q Q Q Q Q Q Q Q (.inl rfl) rfl (wx (zz16 x1 [(8,.S 0)]) J 1 (wn ?_))
  cases h
  exact we J func192 [(0,.sl 0)] Q Q Q Q
 refine wf K Q (wi (wq (wV (zz0 [(0,.c (.s s_)),(1,.c (.s sep_)),(2,.I sepSave_),(3,.I n_),(8,.c .nil),(20,.O (decide (n_ < 0)))]) J 2 ?_)))
 refine wC (σ:=Int) (fun st=>(zz0 [(0,.c (.s s_)),(1,.c (.s sep_)),(2,.I sepSave_),(3,.I st)])) (fun st=>z192_k3 N s_ sep_ sepSave_ st=some r) ?_ (fun j1=>?_)
 ·intro e h
  replace h:z192_k3 N s_ sep_ sepSave_ e=some r:=h
  unfold z192_k3 at h
  refine wV (zz0 [(0,.c (.s s_)),(1,.c (.s sep_)),(2,.I sepSave_),(3,.I (minI e (w64 ((s_.size:Int)+1))))]) J 6 (wq (wg (ws J 1 Q ?_)))
  obtain ⟨x3,f,h⟩:=ob h
  refine WPr.mk oS J (str []) f Q Q Q Q Q Q Q Q (by exact an Q Q) rfl (wx (zz16 x3 [(0,.c (.s s_)),(1,.c (.s sep_)),(2,.I sepSave_),(3,.I (minI e (w64 ((s_.size:Int)+1)))),(9,.S 0)]) J 1 (wn (wV (zz16 x3 [(0,.c (.s s_)),(1,.c (.s sep_)),(2,.I sepSave_),(3,.I (w64 ((minI e (w64 ((s_.size:Int)+1)))-1))),(9,.S 0)]) J 3 (wR J 1 Q (wq ?_)))))
  refine wC (σ:=ByteArray × (List ByteArray) × Int) (fun st=>(zz16 st.2.1 [(0,.c (.s st.1)),(9,.S 0),(10,.I st.2.2)])) (fun st=>z192_k1 st.1 st.2.1 st.2.2=some r) ?_ (fun j2=>?_)
  ·rintro ⟨g,i,j⟩ h
   replace h:z192_k1 g i j=some r:=h
   unfold z192_k1 at h
   refine wq (wg (xw [3,4] (zz16 i [(9,.S 0),(10,.I j),(58,.S 0),(59,.I j),(60,.c (.s g))]) J 3 ?_))
   obtain ⟨k,m,h⟩:=ob h
   refine wX J m Q Q Q Q Q Q Q Q Q (WPr.sto oS J g m Q Q Q Q Q Q Q Q Q Q (by exact rfl) rfl (wn (wq (wg (xw [3,4] (zz45 (setL' i j g) [(62,.S 0),(64,.I (w64 (j+1)))]) J 3 ?_)))))
   obtain ⟨o,p,h⟩:=ob h
   refine WPr.vw J (l:=none) (h:=some (.i64,(w64 (j+1)))) p Q Q Q Q Q Q Q Q Q Q (ws J 1 Q (wn (WP.stl 2 p Q Q Q ?_)))
   cases h
   exact we J func192 [(0,.sl 2)] Q Q Q Q
  refine wo ?_
  refine wI (σ:=ByteArray × (List ByteArray) × Int) (fun st=>(zz16 st.2.1 [(0,.c (.s st.1)),(1,.c (.s sep_)),(2,.I sepSave_),(3,.I (w64 ((minI e (w64 ((s_.size:Int)+1)))-1))),(9,.S 0),(10,.I st.2.2)])) (fun n st=>z192_l2 N s_ sep_ sepSave_ e n st.1 st.2.1 st.2.2) (r:=r) (fun _=>rfl) ?_ (fun ih=>?_)
  ·intro n2 ih4
   rintro ⟨q,t,u⟩ h
   replace h:z192_l2 N s_ sep_ sepSave_ e (n2+1) q t u=some r:=h
   unfold z192_l2 at h
   refine wq (wV (zz16 t [(0,.c (.s q)),(1,.c (.s sep_)),(2,.I sepSave_),(3,.I (w64 ((minI e (w64 ((s_.size:Int)+1)))-1))),(9,.S 0),(10,.I u),(36,.O (decide (u < (w64 ((minI e (w64 ((s_.size:Int)+1)))-1)))))]) J 3 ?_)
   obtain ⟨K,h⟩|⟨K,h⟩:=oc' h
   ·exact wf K Q (wz rfl (wU (j2 (q,t,u) h)))
   refine wt K Q (wi (wo (wq (wg (ws J 2 Q ?_)))))
   obtain ⟨v,x,h⟩:=ob h
   refine wc (z195_ct N q sep_ _ x) [] [] Q Q Q Q Q Q Q Q (.inl rfl) rfl (wx (zz16 t [(0,.c (.s q)),(1,.c (.s sep_)),(2,.I sepSave_),(3,.I (w64 ((minI e (w64 ((s_.size:Int)+1)))-1))),(9,.S 0),(10,.I u),(11,.I v)]) J 1 (wn (wq (wR J 2 Q ?_))))
   obtain ⟨K,h⟩|⟨K,h⟩:=oc h
   ·exact wt K Q (wz rfl (wU (j2 (q,t,u) h)))
   refine wf K Q (wi (wq (wg (xw [6,7,8] (zz16 t [(0,.c (.s q)),(1,.c (.s sep_)),(2,.I sepSave_),(3,.I (w64 ((minI e (w64 ((s_.size:Int)+1)))-1))),(9,.S 0),(10,.I u),(11,.I v),(42,.S 0),(43,.I u),(44,.c (.s q)),(47,.I (w64 (v+sepSave_)))]) J 6 ?_))))
   obtain ⟨y,z,h⟩:=ob h
   refine WPr.ssl J (l:=none) (h:=some (.i64,(w64 (v+sepSave_)))) z Q Q Q Q Q Q Q Q Q Q ?_
   obtain ⟨A,C,h⟩:=ob h
   refine wX J C Q Q Q Q Q Q Q Q Q (WPr.sto oS J y C Q Q Q Q Q Q Q Q Q Q (by exact rfl) rfl (wx (zz45 (setL' t u y) [(0,.c (.s q)),(1,.c (.s sep_)),(2,.I sepSave_),(3,.I (w64 ((minI e (w64 ((s_.size:Int)+1)))-1))),(9,.S 0),(10,.I u),(11,.I v)]) J 0 (wn (wq (wg (xw [5,6] (zz45 (setL' t u y) [(1,.c (.s sep_)),(2,.I sepSave_),(3,.I (w64 ((minI e (w64 ((s_.size:Int)+1)))-1))),(9,.S 0),(10,.I u),(50,.c (.s q)),(54,.I (w64 (v+(sep_.size:Int))))]) J 5 ?_))))))
   obtain ⟨D,G,h⟩:=ob h
   exact WPr.ssl J (l:=some (.i64,(w64 (v+(sep_.size:Int))))) (h:=none) G Q Q Q Q Q Q Q Q Q Q (ws J 1 Q (wn (wT (zz45 (setL' t u y) [(0,.c (.s D)),(1,.c (.s sep_)),(2,.I sepSave_),(3,.I (w64 ((minI e (w64 ((s_.size:Int)+1)))-1))),(9,.S 0),(10,.I (w64 (u+1)))]) J 3 (wb (wU (ih4 (D,(setL' t u y),(w64 (u+1))) h))))))
  exact wU (ih N (s_,x3,0) h)
 obtain ⟨K,h⟩|⟨K,h⟩:=oc' h
 ·exact wf K Q (wi (wU (j1 n_ h)))
 refine wt K Q (wg (ws J 2 Q ?_))
 obtain ⟨H,R,h⟩:=ob h
 exact wc (z194_ct N s_ sep_ _ R) [] [] Q Q Q Q Q Q Q Q (.inl rfl) rfl (wx (zz0 [(0,.c (.s s_)),(1,.c (.s sep_)),(2,.I sepSave_),(3,.I (w64 (H+1))),(8,.c .nil)]) J 2 (wn (wU (j1 (w64 (H+1)) h))))
theorem z188_ct (N:Nat) (s_:ByteArray) (sep_:ByteArray) (r:(List ByteArray)) (h:z188 N s_ sep_=some r) :
 Fn Tryz.prog 188 ⟨0,[.c (.s s_),.c (.s sep_)],[],[],1,.S 0,[],[(0,.own rS r true)]⟩:=by
 refine wF func188 Q Q (fun E F w=>?_)
 unfold z188 at h
 refine wR J 1 Q (wq (wg (xw [2,3] (zz0 [(5,.c (.s s_)),(6,.c (.s sep_))]) J 2 ?_)))
 obtain ⟨x1,d,h⟩:=ob h
 refine wc (z192_ct N s_ sep_ 0 (-1) _ d) [] [] Q Q Q Q Q Q Q Q (.inl rfl) rfl (wx (zz16 x1 [(4,.S 0)]) J 1 (wn ?_))
 cases h
 exact we J func188 [(0,.sl 0)] Q Q Q Q
theorem z189_ct (N:Nat) (w_:ByteArray) (r:Bool) (h:z189 N w_=some r) :
 Fn Tryz.prog 189 ⟨0,[.c (.s w_)],[],[],0,.O r,[],[]⟩:=by
 refine wF func189 Q Q (fun E F w=>?_)
 unfold z189 at h
 refine wR J 1 Q (wq (wg (ws J 1 Q ?_)))
 obtain ⟨x1,d,h⟩:=ob h
 refine wc (z120_ct N w_ _ d) [] [] Q Q Q Q Q Q Q Q (.inl rfl) rfl (wx (zz0 [(2,.O (!x1))]) J 2 (wn ?_))
 cases h
 exact we J func189 [] Q Q Q Q
theorem z191_0_ct (N:Nat) (s_:(List ByteArray)) (r:Int) (h:z191_0 N s_=some r) :
 Fn Tryz.prog 191 ⟨1,[.S 0,.c (.cl 189 [] [])],[(0,.sl rS s_)],[],1,.I r,[],[]⟩:=by
 refine wF func191 Q Q (fun E F w=>?_)
 unfold z191_0 at h
 refine wR J 1 Q (wq (wV (zz13 s_ [(0,.S 0),(1,.c (.cl 189 [] [])),(4,.I 0),(7,.I (s_.length:Int)),(8,.I 0)]) J 3 ?_))
 refine wC (σ:=Unit) (fun st=>(zz13 s_ [])) (fun st=>z191_0_k1=some r) ?_ (fun j1=>?_)
 ·intro _ h
  replace h:z191_0_k1=some r:=h
  unfold z191_0_k1 at h
  refine wR J 1 Q ?_
  cases h
  exact we J func191 [] Q Q Q Q
 refine wo ?_
 refine wI (σ:=Int) (fun st=>(zz13 s_ [(0,.S 0),(1,.c (.cl 189 [] [])),(7,.I (s_.length:Int)),(8,.I st)])) (fun n st=>z191_0_l2 N s_ n st) (r:=r) (fun _=>rfl) ?_ (fun ih=>?_)
 ·intro n2 ih3
  intro d h
  replace h:z191_0_l2 N s_ (n2+1) d=some r:=h
  unfold z191_0_l2 at h
  refine wR J 1 Q (wq ?_)
  obtain ⟨K,h⟩|⟨K,h⟩:=oc' h
  ·exact wf K Q (wz rfl (wU (j1 () h)))
  refine wt K Q (wi (wq (wo (wV (zz13 s_ [(0,.S 0),(1,.c (.cl 189 [] [])),(5,.I d),(7,.I (s_.length:Int)),(8,.I d)]) J 2 (wq (wg (xw [3,4,5] (zz13 s_ [(0,.S 0),(1,.c (.cl 189 [] [])),(5,.I d),(7,.I (s_.length:Int)),(8,.I d),(11,.c (.cl 189 [] [])),(12,.S 0),(13,.I d)]) J 3 ?_)))))))
  obtain ⟨e,f,h⟩:=ob h
  refine wj oS J f Q Q Q Q Q Q Q Q Q (ws J 1 Q ?_)
  obtain ⟨g,i,h⟩:=ob h
  refine WPr.callc (z189_ct N e _ i) [] [] Q Q Q Q Q Q Q Q Q (.inl rfl) rfl (wx (zz60 s_ [(0,.S 0),(1,.c (.cl 189 [] [])),(5,.I d),(7,.I (s_.length:Int)),(8,.I d),(16,.O g)]) J 0 (wn ?_))
  obtain ⟨K,h⟩|⟨K,h⟩:=oc h
  ·refine wt K Q (wR J 2 Q ?_)
   cases h
   exact we J func191 [] Q Q Q Q
  exact wf K Q (wi (wb (wS J 2 Q (wU (ih3 (w64 (d+1)) h)))))
 exact wU (ih N 0 h)
theorem z187_1_ct (N:Nat) (s_:(List ByteArray)) (r:Bool) (h:z187_1 N s_=some r) :
 Fn Tryz.prog 187 ⟨1,[.S 0,.c (.cl 189 [] [])],[(0,.sl rS s_)],[],1,.O r,[],[]⟩:=by
 refine wF func187 Q Q (fun E F w=>?_)
 unfold z187_1 at h
 refine wR J 1 Q (wq (wg (xw [2,3,4] (zz13 s_ [(5,.S 0),(6,.c (.cl 189 [] []))]) J 2 ?_)))
 obtain ⟨x1,d,h⟩:=ob h
 refine wc (z191_0_ct N s_ _ d) [(0,.sl 0)] [] Q Q Q Q Q Q Q Q (.inl rfl) rfl (wx (zz13 s_ [(4,.O (decide (x1≥0)))]) J 2 (wn ?_))
 cases h
 exact we J func187 [] Q Q Q Q
theorem z176_ct (N:Nat) (s_:ByteArray) (r:Bool) (h:z176 N s_=some r) :
 Fn Tryz.prog 176 ⟨0,[.c (.s s_)],[],[],0,.O r,[],[]⟩:=by
 refine wF func176 Q Q (fun E F w=>?_)
 unfold z176 at h
 refine wR J 1 Q (wq (wg (xw (rg 4 6) (zz0 [(0,.c (.s s_)),(6,.O (decide ((s_.size:Int)≤50)))]) J 4 ?_)))
 obtain ⟨K,h⟩|⟨K,h⟩:=oc' h
 ·refine wy 6 K Q (wx (zz0 [(2,.O false)]) J 6 (wn ?_))
  cases h
  exact we J func176 [] Q Q Q Q
 refine wy 6 K Q (ws J 1 Q ?_)
 obtain ⟨x1,d,h⟩:=ob h
 refine wc (z188_ct N s_ (str [46]) _ d) [] [] Q Q Q Q Q Q Q Q (.inl rfl) rfl (xw [6,7,8,9] (zz16 x1 [(6,.O true),(8,.S 0)]) J 0 ?_)
 obtain ⟨x2,e,h⟩:=ob h
 refine wc (z187_1_ct N x1 _ e) [(0,.sl 0)] [0] Q Q Q Q Q Q Q Q (.inr ⟨rfl,trivial⟩) rfl (wx (zz21 [(2,.O (!x2))]) J 3 (wn ?_))
 cases h
 exact we J func176 [] Q Q Q Q
theorem z178_2_ct (N:Nat) (x_:T0) (c0_:T0) (r:Bool) (h:z178_2 N x_ c0_=some r) :
 Fn Tryz.prog 178 ⟨7,[.a (cC0 0 1 2 x_),.B 3 0],(vV0 0 1 2 x_ (vV0 4 5 6 c0_ [])),[(3,.box (cC0 4 5 6 c0_) 94)],7,.O r,[],[(3,.box (cC0 4 5 6 c0_) 94)]⟩:=by
 refine wF func178 Q Q (fun E F w=>?_)
 unfold z178_2 at h
 refine wR J 2 Q (wV ⟨[(3,.O (x_.Name.toList==c0_.Name.toList))],[(3,.box (cC0 4 5 6 c0_) 94)],(vV0 0 1 2 x_ (vV0 4 5 6 c0_ [])),8⟩ J 6 ?_)
 cases h
 exact we J func178 [] Q Q Q Q
theorem z77_3_ct (N:Nat) (s_:(List T0)) (c0_:T0) (r:Int) (h:z77_3 N s_ c0_=some r) :
 Fn Tryz.prog 77 ⟨5,[.S 0,.c (.cl 178 [] [1])],((0,.sl rR0 s_)::vV0 2 3 4 c0_ []),[(1,.box (cC0 2 3 4 c0_) 94)],5,.I r,[],[(1,.box (cC0 2 3 4 c0_) 94)]⟩:=by
 refine wF func77 Q Q (fun E F w=>?_)
 unfold z77_3 at h
 refine wR J 1 Q (wq (wV (zz48 c0_ s_ [(0,.S 0),(1,.c (.cl 178 [] [1])),(4,.I 0),(7,.I (s_.length:Int)),(8,.I 0)]) J 3 ?_))
 refine wC (σ:=Unit) (fun st=>(zz48 c0_ s_ [])) (fun st=>z77_3_k1=some r) ?_ (fun j1=>?_)
 ·intro _ h
  replace h:z77_3_k1=some r:=h
  unfold z77_3_k1 at h
  refine wR J 1 Q ?_
  cases h
  exact we J func77 [] Q Q Q Q
 refine wo ?_
 refine wI (σ:=Int) (fun st=>(zz48 c0_ s_ [(0,.S 0),(1,.c (.cl 178 [] [1])),(7,.I (s_.length:Int)),(8,.I st)])) (fun n st=>z77_3_l2 N s_ c0_ n st) (r:=r) (fun _=>rfl) ?_ (fun ih=>?_)
 ·intro n2 ih3
  intro d h
  replace h:z77_3_l2 N s_ c0_ (n2+1) d=some r:=h
  unfold z77_3_l2 at h
  refine wR J 1 Q (wq ?_)
  obtain ⟨K,h⟩|⟨K,h⟩:=oc' h
  ·exact wf K Q (wz rfl (wU (j1 () h)))
  refine wt K Q (wi (wq (wo (wV (zz48 c0_ s_ [(0,.S 0),(1,.c (.cl 178 [] [1])),(5,.I d),(7,.I (s_.length:Int)),(8,.I d)]) J 2 (wq (wg (xw [3,4,5] (zz48 c0_ s_ [(0,.S 0),(1,.c (.cl 178 [] [1])),(5,.I d),(7,.I (s_.length:Int)),(8,.I d),(11,.c (.cl 178 [] [1])),(12,.S 0),(13,.I d)]) J 3 ?_)))))))
  obtain ⟨e,f,h⟩:=ob h
  refine wj oO0 J f Q Q Q Q Q Q Q Q Q (ws J 1 Q ?_)
  obtain ⟨g,i,h⟩:=ob h
  refine WPr.callc (z178_2_ct N e c0_ _ i) [(0,.sl 6),(1,.sl 7),(2,.sl 8),(3,.bp 1 0),(4,.sl 2),(5,.sl 3),(6,.sl 4)] [] Q Q Q Q Q Q Q Q Q (.inl rfl) rfl (wx ⟨[(0,.S 0),(1,.c (.cl 178 [] [1])),(5,.I d),(7,.I (s_.length:Int)),(8,.I d),(16,.O g)],[(1,.box (cC0 2 3 4 c0_) 94)],((0,.sl rR0 s_)::vV0 2 3 4 c0_ []),9⟩ J 0 (wn ?_))
  obtain ⟨K,h⟩|⟨K,h⟩:=oc h
  ·refine wt K Q (wR J 2 Q ?_)
   cases h
   exact we J func77 [] Q Q Q Q
  exact wf K Q (wi (wb (wS J 2 Q (wU (ih3 (w64 (d+1)) h)))))
 exact wU (ih N 0 h)
theorem z177_4_ct (N:Nat) (s_:(List T0)) (c0_:T0) (r:Bool) (h:z177_4 N s_ c0_=some r) :
 Fn Tryz.prog 177 ⟨5,[.S 0,.c (.cl 178 [] [1])],((0,.sl rR0 s_)::vV0 2 3 4 c0_ []),[(1,.box (cC0 2 3 4 c0_) 94)],5,.O r,[],[(1,.box (cC0 2 3 4 c0_) 94)]⟩:=by
 refine wF func177 Q Q (fun E F w=>?_)
 unfold z177_4 at h
 refine wR J 1 Q (wq (wg (xw [2,3,4] (zz48 c0_ s_ [(5,.S 0),(6,.c (.cl 178 [] [1]))]) J 2 ?_)))
 obtain ⟨x1,d,h⟩:=ob h
 refine wc (z77_3_ct N s_ c0_ _ d) [(0,.sl 0),(1,.bp 1 0),(2,.sl 2),(3,.sl 3),(4,.sl 4)] [] Q Q Q Q Q Q Q Q (.inl rfl) rfl (wx (zz48 c0_ s_ [(4,.O (decide (x1≥0)))]) J 2 (wn ?_))
 cases h
 exact we J func177 [] Q Q Q Q
theorem z179_ct (N:Nat) (s_:T7) (r:Bool) (h:z179 N s_=some r) :
 Fn Tryz.prog 179 ⟨0,[.a (cC7 s_)],[],[],0,.O r,[],[]⟩:=by
 refine wF func179 Q Q (fun E F w=>?_)
 unfold z179 at h
 refine wR J 2 Q (wq (wV (zz23 s_ [(1,.B 0 0),(2,.O false),(4,.I s_.Kind)]) J 2 (wo (wR J 2 Q ?_))))
 obtain ⟨K,h⟩|⟨K,h⟩:=oc h
 ·refine wt K Q (wq (wg (xw (rg 4 12) (zz23 s_ [(1,.B 0 0),(10,.O (decide (s_.Lo≥(-1000))))]) J 4 ?_)))
  obtain ⟨K,h⟩|⟨K,h⟩:=oc' h
  ·refine wy 10 K Q (wx (zz21 [(2,.O false)]) J 12 (wn ?_))
   cases h
   exact we J func179 [] Q Q Q Q
  refine wy 10 K Q (xw [11,12,13,14,15] (zz23 s_ [(1,.B 0 0),(17,.O (decide (s_.Lo≤s_.Hi)))]) J 7 ?_)
  obtain ⟨K,h⟩|⟨K,h⟩:=oc h
  ·refine wy 17 K Q (wx (zz21 [(2,.O (decide (s_.Hi≤1000)))]) J 5 (wn ?_))
   cases h
   exact we J func179 [] Q Q Q Q
  refine wy 17 K Q (wx (zz21 [(2,.O false)]) J 5 (wn ?_))
  cases h
  exact we J func179 [] Q Q Q Q
 refine wf K Q (wV (zz23 s_ [(1,.B 0 0),(2,.O false),(22,.O (s_.Kind==2))]) J 2 ?_)
 obtain ⟨K,h⟩|⟨K,h⟩:=oc' h
 ·refine wf K Q (wi (wb (wR J 1 Q ?_)))
  cases h
  exact we J func179 [] Q Q Q Q
 refine wt K Q (wq (wg (xw (rg 4 12) (zz23 s_ [(1,.B 0 0),(27,.O (decide (s_.Lo≥0)))]) J 4 ?_)))
 obtain ⟨K,h⟩|⟨K,h⟩:=oc' h
 ·refine wy 27 K Q (wx (zz21 [(2,.O false)]) J 12 (wn ?_))
  cases h
  exact we J func179 [] Q Q Q Q
 refine wy 27 K Q (xw [11,12,13,14,15] (zz23 s_ [(1,.B 0 0),(34,.O (decide (s_.Lo≤s_.Hi)))]) J 7 ?_)
 obtain ⟨K,h⟩|⟨K,h⟩:=oc h
 ·refine wy 34 K Q (wx (zz21 [(2,.O (decide (s_.Hi≤40)))]) J 5 (wn ?_))
  cases h
  exact we J func179 [] Q Q Q Q
 refine wy 34 K Q (wx (zz21 [(2,.O false)]) J 5 (wn ?_))
 cases h
 exact we J func179 [] Q Q Q Q
theorem z181_5_ct (N:Nat) (x_:T3) (c0_:T3) (r:Bool) (h:z181_5 N x_ c0_=some r) :
 Fn Tryz.prog 181 ⟨1,[.a (cC3 x_),.B 0 0],[],[(0,.box (cC3 c0_) 141)],1,.O r,[],[(0,.box (cC3 c0_) 141)]⟩:=by
 refine wF func181 Q Q (fun E F w=>?_)
 unfold z181_5 at h
 refine wR J 2 Q (wV ⟨[(3,.O (x_.Name.toList==c0_.Name.toList))],[(0,.box (cC3 c0_) 141)],[],2⟩ J 6 ?_)
 cases h
 exact we J func181 [] Q Q Q Q
theorem z190_6_ct (N:Nat) (s_:(List T3)) (c0_:T3) (r:Int) (h:z190_6 N s_ c0_=some r) :
 Fn Tryz.prog 190 ⟨2,[.S 0,.c (.cl 181 [] [1])],[(0,.sl rR3 s_)],[(1,.box (cC3 c0_) 141)],2,.I r,[],[(1,.box (cC3 c0_) 141)]⟩:=by
 refine wF func190 Q Q (fun E F w=>?_)
 unfold z190_6 at h
 refine wR J 1 Q (wq (wV (zz49 c0_ s_ [(0,.S 0),(1,.c (.cl 181 [] [1])),(4,.I 0),(7,.I (s_.length:Int)),(8,.I 0)]) J 3 ?_))
 refine wC (σ:=Unit) (fun st=>(zz49 c0_ s_ [])) (fun st=>z190_6_k1=some r) ?_ (fun j1=>?_)
 ·intro _ h
  replace h:z190_6_k1=some r:=h
  unfold z190_6_k1 at h
  refine wR J 1 Q ?_
  cases h
  exact we J func190 [] Q Q Q Q
 refine wo ?_
 refine wI (σ:=Int) (fun st=>(zz49 c0_ s_ [(0,.S 0),(1,.c (.cl 181 [] [1])),(7,.I (s_.length:Int)),(8,.I st)])) (fun n st=>z190_6_l2 N s_ c0_ n st) (r:=r) (fun _=>rfl) ?_ (fun ih=>?_)
 ·intro n2 ih3
  intro d h
  replace h:z190_6_l2 N s_ c0_ (n2+1) d=some r:=h
  unfold z190_6_l2 at h
  refine wR J 1 Q (wq ?_)
  obtain ⟨K,h⟩|⟨K,h⟩:=oc' h
  ·exact wf K Q (wz rfl (wU (j1 () h)))
  refine wt K Q (wi (wq (wo (wV (zz49 c0_ s_ [(0,.S 0),(1,.c (.cl 181 [] [1])),(5,.I d),(7,.I (s_.length:Int)),(8,.I d)]) J 2 (wq (wg (xw [3,4,5] (zz49 c0_ s_ [(0,.S 0),(1,.c (.cl 181 [] [1])),(5,.I d),(7,.I (s_.length:Int)),(8,.I d),(11,.c (.cl 181 [] [1])),(12,.S 0),(13,.I d)]) J 3 ?_)))))))
  obtain ⟨e,f,h⟩:=ob h
  refine wj oO3 J f Q Q Q Q Q Q Q Q Q (ws J 1 Q ?_)
  obtain ⟨g,i,h⟩:=ob h
  refine WPr.callc (z181_5_ct N e c0_ _ i) [(0,.bp 1 0)] [] Q Q Q Q Q Q Q Q Q (.inl rfl) rfl (wx ⟨[(0,.S 0),(1,.c (.cl 181 [] [1])),(5,.I d),(7,.I (s_.length:Int)),(8,.I d),(16,.O g)],[(1,.box (cC3 c0_) 141)],[(0,.sl rR3 s_)],3⟩ J 0 (wn ?_))
  obtain ⟨K,h⟩|⟨K,h⟩:=oc h
  ·refine wt K Q (wR J 2 Q ?_)
   cases h
   exact we J func190 [] Q Q Q Q
  exact wf K Q (wi (wb (wS J 2 Q (wU (ih3 (w64 (d+1)) h)))))
 exact wU (ih N 0 h)
theorem z180_7_ct (N:Nat) (s_:(List T3)) (c0_:T3) (r:Bool) (h:z180_7 N s_ c0_=some r) :
 Fn Tryz.prog 180 ⟨2,[.S 0,.c (.cl 181 [] [1])],[(0,.sl rR3 s_)],[(1,.box (cC3 c0_) 141)],2,.O r,[],[(1,.box (cC3 c0_) 141)]⟩:=by
 refine wF func180 Q Q (fun E F w=>?_)
 unfold z180_7 at h
 refine wR J 1 Q (wq (wg (xw [2,3,4] (zz49 c0_ s_ [(5,.S 0),(6,.c (.cl 181 [] [1]))]) J 2 ?_)))
 obtain ⟨x1,d,h⟩:=ob h
 refine wc (z190_6_ct N s_ c0_ _ d) [(0,.sl 0),(1,.bp 1 0)] [] Q Q Q Q Q Q Q Q (.inl rfl) rfl (wx (zz49 c0_ s_ [(4,.O (decide (x1≥0)))]) J 2 (wn ?_))
 cases h
 exact we J func180 [] Q Q Q Q
theorem z182_ct (N:Nat) (g_:T5) (all_:(List T3)) (r:Bool) (h:z182 N g_ all_=some r) :
 Fn Tryz.prog 182 ⟨3,[.a [.sl 0,.sl 1],.S 2],[(0,.sl rR1 g_.Diffs),(1,.sl (rP (rI .i64) (rI .i64)) g_.Equals),(2,.sl rR3 all_)],[],3,.O r,[],[]⟩:=by
 refine wF func182 Q Q (fun E F w=>?_)
 unfold z182 at h
 refine wR J 2 Q (wq (wq (wg (xw [5,6,7,8,9] (zz62 g_.Diffs g_.Equals all_ [(1,.S 2),(2,.B 3 0),(4,.O false),(15,.O (decide ((g_.Diffs.length:Int) > 20)))]) J 5 ?_))))
 obtain ⟨K,h⟩|⟨K,h⟩:=oc h
 ·refine wy 15 K Q (wx (zz62 g_.Diffs g_.Equals all_ [(1,.S 2),(2,.B 3 0),(4,.O false),(20,.O true)]) J 5 (wn (wt Q Q (wR J 1 Q ?_))))
  cases h
  exact we J func182 [] Q Q Q Q
 refine wy 15 K Q (wx (zz62 g_.Diffs g_.Equals all_ [(1,.S 2),(2,.B 3 0),(4,.O false),(20,.O (decide ((g_.Equals.length:Int) > 20)))]) J 5 (wn ?_))
 obtain ⟨K,h⟩|⟨K,h⟩:=oc h
 ·refine wt K Q (wR J 1 Q ?_)
  cases h
  exact we J func182 [] Q Q Q Q
 refine wf K Q (wi (wq (wV (zz62 g_.Diffs g_.Equals all_ [(1,.S 2),(2,.B 3 0),(4,.O false),(22,.S 0),(23,.I (g_.Diffs.length:Int)),(24,.I 0)]) J 4 ?_)))
 refine wC (σ:=Unit) (fun st=>(zz62 g_.Diffs g_.Equals all_ [(1,.S 2),(2,.B 3 0)])) (fun st=>z182_k5 N g_ all_=some r) ?_ (fun j1=>?_)
 ·intro _ h
  replace h:z182_k5 N g_ all_=some r:=h
  unfold z182_k5 at h
  refine wq (wV (zz123 g_.Diffs g_.Equals all_ [(1,.S 2),(56,.S 1),(57,.I (g_.Equals.length:Int)),(58,.I 0)]) J 4 ?_)
  refine wC (σ:=Unit) (fun st=>(zz123 g_.Diffs g_.Equals all_ [])) (fun st=>z182_k1=some r) ?_ (fun j3=>?_)
  ·intro _ h
   replace h:z182_k1=some r:=h
   unfold z182_k1 at h
   refine wR J 1 Q ?_
   cases h
   exact we J func182 [] Q Q Q Q
  refine wo ?_
  refine wI (σ:=Int) (fun st=>(zz123 g_.Diffs g_.Equals all_ [(1,.S 2),(56,.S 1),(57,.I (g_.Equals.length:Int)),(58,.I st)])) (fun n st=>z182_l2 N g_ all_ n st) (r:=r) (fun _=>rfl) ?_ (fun ih=>?_)
  ·intro n13 ih14
   intro c h
   replace h:z182_l2 N g_ all_ (n13+1) c=some r:=h
   unfold z182_l2 at h
   refine wR J 1 Q (wq ?_)
   obtain ⟨K,h⟩|⟨K,h⟩:=oc' h
   ·exact wf K Q (wz rfl (wU (j3 () h)))
   refine wt K Q (wi (wq (wo (wq (wg ?_)))))
   obtain ⟨d,e,h⟩:=ob h
   refine wj (oP (oI .i64) (oI .i64)) J e Q Q Q Q Q Q Q Q Q (wx ⟨[(1,.S 2),(8,.B 5 0),(56,.S 1),(57,.I (g_.Equals.length:Int)),(58,.I c)],[(5,.box [.I d.1,.I d.2] 146)],[(0,.sl rR1 g_.Diffs),(1,.sl (rP (rI .i64) (rI .i64)) g_.Equals),(2,.sl rR3 all_)],6⟩ J 3 (wn (wR J 2 Q ?_)))
   refine wC (σ:=Unit) (fun st=>(zz50 g_.Diffs g_.Equals all_ [(1,.S 2),(56,.S 1),(57,.I (g_.Equals.length:Int)),(58,.I c)])) (fun st=>z182_k3 c (z182_l2 N g_ all_ n13)=some r) ?_ (fun j21=>?_)
   ·intro _ h
    replace h:z182_k3 c (z182_l2 N g_ all_ n13)=some r:=h
    unfold z182_k3 at h
    exact wb (wS J 2 Q (wU (ih14 (w64 (c+1)) h)))
   refine wo ?_
   refine wI (σ:=Int) (fun st=>(zz50 g_.Diffs g_.Equals all_ [(1,.S 2),(56,.S 1),(57,.I (g_.Equals.length:Int)),(58,.I c),(62,.a [.I d.1,.I d.2]),(63,.I st)])) (fun n st=>z182_l4 all_ c (z182_l2 N g_ all_ n13) d n st) (r:=r) (fun _=>rfl) ?_ (fun ih=>?_)
   ·intro n15 ih23
    intro f h
    replace h:z182_l4 all_ c (z182_l2 N g_ all_ n13) d (n15+1) f=some r:=h
    unfold z182_l4 at h
    refine wR J 1 Q (wq ?_)
    obtain ⟨K,h⟩|⟨K,h⟩:=oc' h
    ·exact wf K Q (wz rfl (wU (j21 () h)))
    refine wt K Q (wi (wq (wo (wq (wg ?_)))))
    obtain ⟨g,j,h⟩:=ob h
    refine WPr.ax (len:=2) (el:=3) (SC.i .i64) ([d.1,d.2]:List Int) j Q Q Q Q (by kernel_rfl) (by kernel_rfl) (by kernel_rfl) (by kernel_rfl) Q Q Q Q (wx (zz50 g_.Diffs g_.Equals all_ [(1,.S 2),(10,.I g),(56,.S 1),(57,.I (g_.Equals.length:Int)),(58,.I c),(62,.a [.I d.1,.I d.2]),(63,.I f)]) J 1 (wn (wq (wg (xw (rg 3 14) (zz50 g_.Diffs g_.Equals all_ [(1,.S 2),(10,.I g),(56,.S 1),(57,.I (g_.Equals.length:Int)),(58,.I c),(62,.a [.I d.1,.I d.2]),(63,.I f),(68,.O (decide (g < 0)))]) J 3 ?_)))))
    obtain ⟨K,h⟩|⟨K,h⟩:=oc h
    ·refine wy 68 K Q (wx (zz50 g_.Diffs g_.Equals all_ [(1,.S 2),(56,.S 1),(57,.I (g_.Equals.length:Int)),(58,.I c),(62,.a [.I d.1,.I d.2]),(63,.I f),(82,.O true)]) J 14 (wn (wt Q Q (wR J 1 Q ?_))))
     cases h
     exact we J func182 [] Q Q Q Q
    refine wy 68 K Q (xw (rg 9 8) (zz50 g_.Diffs g_.Equals all_ [(1,.S 2),(10,.I g),(56,.S 1),(57,.I (g_.Equals.length:Int)),(58,.I c),(62,.a [.I d.1,.I d.2]),(63,.I f),(74,.O (decide (g≥(all_.length:Int))))]) J 6 ?_)
    obtain ⟨K,h⟩|⟨K,h⟩:=oc h
    ·refine wy 74 K Q (wx (zz50 g_.Diffs g_.Equals all_ [(1,.S 2),(56,.S 1),(57,.I (g_.Equals.length:Int)),(58,.I c),(62,.a [.I d.1,.I d.2]),(63,.I f),(82,.O true)]) J 8 (wn (wt Q Q (wR J 1 Q ?_))))
     cases h
     exact we J func182 [] Q Q Q Q
    refine wy 74 K Q (ws J 2 Q ?_)
    obtain ⟨k,l,h⟩:=ob h
    refine wj oO3 J l Q Q Q Q Q Q Q Q Q (wx ⟨[(1,.S 2),(56,.S 1),(57,.I (g_.Equals.length:Int)),(58,.I c),(62,.a [.I d.1,.I d.2]),(63,.I f),(82,.O (k.Sort'.Kind != 2))],[],[(0,.sl rR1 g_.Diffs),(1,.sl (rP (rI .i64) (rI .i64)) g_.Equals),(2,.sl rR3 all_)],7⟩ J 5 (wn ?_))
    obtain ⟨K,h⟩|⟨K,h⟩:=oc h
    ·refine wt K Q (wR J 1 Q ?_)
     cases h
     exact we J func182 [] Q Q Q Q
    exact wf K Q (wi (wb (wS J 2 Q (wU (ih23 (w64 (f+1)) h)))))
   exact wU (ih N 0 h)
  exact wU (ih N 0 h)
 refine wo ?_
 refine wI (σ:=Int) (fun st=>(zz62 g_.Diffs g_.Equals all_ [(1,.S 2),(2,.B 3 0),(22,.S 0),(23,.I (g_.Diffs.length:Int)),(24,.I st)])) (fun n st=>z182_l6 N g_ all_ n st) (r:=r) (fun _=>rfl) ?_ (fun ih=>?_)
 ·intro n16 ih24
  intro m h
  replace h:z182_l6 N g_ all_ (n16+1) m=some r:=h
  unfold z182_l6 at h
  refine wR J 1 Q (wq ?_)
  obtain ⟨K,h⟩|⟨K,h⟩:=oc' h
  ·exact wf K Q (wz rfl (wU (j1 () h)))
  refine wt K Q (wi (wq (wo (wq (wg ?_)))))
  obtain ⟨o,p,h⟩:=ob h
  refine wj oO1 J p Q Q Q Q Q Q Q Q Q (wx (zz99 o g_.Diffs g_.Equals all_ [(1,.S 2),(2,.B 3 0),(6,.B 5 0),(22,.S 0),(23,.I (g_.Diffs.length:Int)),(24,.I m)]) J 3 (wn (wq (wg (xw (rg 7 19) (zz99 o g_.Diffs g_.Equals all_ [(1,.S 2),(2,.B 3 0),(6,.B 5 0),(22,.S 0),(23,.I (g_.Diffs.length:Int)),(24,.I m),(34,.O (decide ((minI o.X o.Y) < (-1))))]) J 7 ?_)))))
  obtain ⟨K,h⟩|⟨K,h⟩:=oc h
  ·refine wy 34 K Q (wx (zz100 g_.Diffs g_.Equals all_ [(1,.S 2),(2,.B 3 0),(22,.S 0),(23,.I (g_.Diffs.length:Int)),(24,.I m),(53,.O true)]) J 19 (wn (wt Q Q (wR J 1 Q ?_))))
   cases h
   exact we J func182 [] Q Q Q Q
  refine wy 34 K Q (xw (rg 17 9) (zz99 o g_.Diffs g_.Equals all_ [(1,.S 2),(2,.B 3 0),(6,.B 5 0),(22,.S 0),(23,.I (g_.Diffs.length:Int)),(24,.I m),(44,.O (decide ((maxI o.X o.Y)≥(all_.length:Int))))]) J 10 ?_)
  obtain ⟨K,h⟩|⟨K,h⟩:=oc h
  ·refine wy 44 K Q (wx (zz100 g_.Diffs g_.Equals all_ [(1,.S 2),(2,.B 3 0),(22,.S 0),(23,.I (g_.Diffs.length:Int)),(24,.I m),(53,.O true)]) J 9 (wn (wt Q Q (wR J 1 Q ?_))))
   cases h
   exact we J func182 [] Q Q Q Q
  refine wy 44 K Q (xw [22,23,24,25] (zz99 o g_.Diffs g_.Equals all_ [(1,.S 2),(2,.B 3 0),(6,.B 5 0),(22,.S 0),(23,.I (g_.Diffs.length:Int)),(24,.I m),(49,.O (decide (o.C < (-20000))))]) J 5 ?_)
  obtain ⟨K,h⟩|⟨K,h⟩:=oc h
  ·refine wy 49 K Q (wx (zz100 g_.Diffs g_.Equals all_ [(1,.S 2),(2,.B 3 0),(22,.S 0),(23,.I (g_.Diffs.length:Int)),(24,.I m),(53,.O true)]) J 4 (wn (wt Q Q (wR J 1 Q ?_))))
   cases h
   exact we J func182 [] Q Q Q Q
  refine wy 49 K Q (wx (zz100 g_.Diffs g_.Equals all_ [(1,.S 2),(2,.B 3 0),(22,.S 0),(23,.I (g_.Diffs.length:Int)),(24,.I m),(53,.O (decide (o.C > 20000)))]) J 4 (wn ?_))
  obtain ⟨K,h⟩|⟨K,h⟩:=oc h
  ·refine wt K Q (wR J 1 Q ?_)
   cases h
   exact we J func182 [] Q Q Q Q
  exact wf K Q (wi (wb (wS J 2 Q (wU (ih24 (w64 (m+1)) h)))))
 exact wU (ih N 0 h)
theorem z158_ct (N:Nat) (l_:(List T0)) (r:Bool) (h:z158 N l_=some r) :
 Fn Tryz.prog 158 ⟨1,[.S 0],[(0,.sl rR0 l_)],[],1,.O r,[],[]⟩:=by
 refine wF func158 Q Q (fun E F w=>?_)
 unfold z158 at h
 refine wR J 1 Q (wq (wV (zz7 l_ [(0,.S 0),(2,.O false),(11,.O (decide ((l_.length:Int) > 40)))]) J 3 ?_))
 obtain ⟨K,h⟩|⟨K,h⟩:=oc h
 ·refine wt K Q (wR J 1 Q ?_)
  cases h
  exact we J func158 [] Q Q Q Q
 refine wf K Q (wi (wq (wg (ws J 1 Q ?_))))
 obtain ⟨x1,d,h⟩:=ob h
 refine wc (z175_ct N l_ _ d) [(0,.sl 0)] [] Q Q Q Q Q Q Q Q (.inl rfl) rfl (wx (zz61 x1 l_ [(0,.S 0),(2,.O false),(3,.S 1)]) J 1 (wn (wq (wV (zz61 x1 l_ [(0,.S 0),(2,.O false),(3,.S 1),(16,.O (decide ((x1.length:Int) > 24)))]) J 3 ?_))))
 obtain ⟨K,h⟩|⟨K,h⟩:=oc h
 ·refine wt K Q (wR J 1 Q ?_)
  cases h
  exact we J func158 [] Q Q Q Q
 refine wf K Q (wi (wR J 1 Q (wq (wV (zz61 x1 l_ [(0,.S 0),(2,.O false),(3,.S 1),(4,.I 0),(17,.S 0),(18,.I (l_.length:Int)),(19,.I 0)]) J 3 ?_))))
 refine wC (σ:=Unit) (fun st=>⟨[],[],[(0,.sl rR0 l_)],2⟩) (fun st=>z158_k1=some r) ?_ (fun j1=>?_)
 ·intro _ h
  replace h:z158_k1=some r:=h
  unfold z158_k1 at h
  refine wR J 1 Q ?_
  cases h
  exact we J func158 [] Q Q Q Q
 refine wo ?_
 refine wI (σ:=Int × Int) (fun st=>(zz61 x1 l_ [(0,.S 0),(3,.S 1),(4,.I st.1),(17,.S 0),(18,.I (l_.length:Int)),(19,.I st.2)])) (fun n st=>z158_l2 N l_ x1 n st.1 st.2) (r:=r) (fun _=>rfl) ?_ (fun ih=>?_)
 ·intro n12 ih12
  rintro ⟨e,f⟩ h
  replace h:z158_l2 N l_ x1 (n12+1) e f=some r:=h
  unfold z158_l2 at h
  refine wR J 1 Q (wq ?_)
  obtain ⟨K,h⟩|⟨K,h⟩:=oc' h
  ·exact wf K Q (wz rfl (wU (j1 () h)))
  refine wt K Q (wi (wq (wo (wq (wg (ws J 1 Q ?_))))))
  obtain ⟨g,i,h⟩:=ob h
  refine wj oO0 J i Q Q Q Q Q Q Q Q Q (wx (zz44 x1 g l_ [(0,.S 0),(3,.S 1),(4,.I e),(5,.I f),(6,.B 6 0),(17,.S 0),(18,.I (l_.length:Int)),(19,.I f)]) J 4 (wn (wq (wq (wg (ws J 2 Q ?_))))))
  obtain ⟨j,k,h⟩:=ob h
  refine wc (z176_ct N g.Name _ k) [] [] Q Q Q Q Q Q Q Q (.inl rfl) rfl (xw (rg 5 18) (zz44 x1 g l_ [(0,.S 0),(3,.S 1),(4,.I e),(5,.I f),(6,.B 6 0),(17,.S 0),(18,.I (l_.length:Int)),(19,.I f),(28,.O (!j))]) J 2 ?_)
  obtain ⟨K,h⟩|⟨K,h⟩:=oc h
  ·refine wy 28 K Q (wx (zz44 x1 g l_ [(0,.S 0),(3,.S 1),(4,.I e),(6,.B 6 0),(17,.S 0),(18,.I (l_.length:Int)),(19,.I f),(46,.O true)]) J 18 (wn (wt Q Q (wR J 1 Q ?_))))
   cases h
   exact we J func158 [] Q Q Q Q
  refine wy 28 K Q (xw (rg 11 12) (zz44 x1 g l_ [(0,.S 0),(3,.S 1),(4,.I e),(5,.I f),(6,.B 6 0),(17,.S 0),(18,.I (l_.length:Int)),(19,.I f),(34,.O (decide ((g.Fields.length:Int) > 4)))]) J 6 ?_)
  obtain ⟨K,h⟩|⟨K,h⟩:=oc h
  ·refine wy 34 K Q (wx (zz44 x1 g l_ [(0,.S 0),(3,.S 1),(4,.I e),(6,.B 6 0),(17,.S 0),(18,.I (l_.length:Int)),(19,.I f),(46,.O true)]) J 12 (wn (wt Q Q (wR J 1 Q ?_))))
   cases h
   exact we J func158 [] Q Q Q Q
  refine wy 34 K Q (xw (rg 17 6) (zz44 x1 g l_ [(0,.S 0),(3,.S 1),(4,.I e),(5,.I f),(6,.B 6 0),(17,.S 0),(18,.I (l_.length:Int)),(19,.I f),(40,.O (g.First != e))]) J 6 ?_)
  obtain ⟨K,h⟩|⟨K,h⟩:=oc h
  ·refine wy 40 K Q (wx (zz44 x1 g l_ [(0,.S 0),(3,.S 1),(4,.I e),(6,.B 6 0),(17,.S 0),(18,.I (l_.length:Int)),(19,.I f),(46,.O true)]) J 6 (wn (wt Q Q (wR J 1 Q ?_))))
   cases h
   exact we J func158 [] Q Q Q Q
  refine wy 40 K Q (ws J 2 Q ?_)
  obtain ⟨m,o,h⟩:=ob h
  refine WPr.isl J (l:=none) (h:=some (.i64,f)) o Q Q Q Q Q Q Q Q Q Q (xw [21,22] ⟨[(0,.S 0),(3,.S 1),(4,.I e),(6,.B 6 0),(17,.S 0),(18,.I (l_.length:Int)),(19,.I f),(40,.O false),(43,.S 7),(44,.c (.cl 178 [] [6]))],[(1,.own rR3 x1 true),(6,.box (cC0 3 4 5 g) 94)],((0,.sl rR0 l_)::vV0 3 4 5 g [(7,.sl rR0 m)]),8⟩ J 1 ?_)
  obtain ⟨p,q,h⟩:=ob h
  refine wc (z177_4_ct N m g _ q) [(0,.sl 7),(1,.bp 6 0),(2,.sl 3),(3,.sl 4),(4,.sl 5)] [] Q Q Q Q Q Q Q Q (.inl rfl) rfl (wx (zz77 x1 g l_ [(0,.S 0),(3,.S 1),(4,.I e),(6,.B 6 0),(17,.S 0),(18,.I (l_.length:Int)),(19,.I f),(46,.O p)]) J 1 (wn ?_))
  obtain ⟨K,h⟩|⟨K,h⟩:=oc h
  ·refine wt K Q (wR J 1 Q ?_)
   cases h
   exact we J func158 [] Q Q Q Q
  refine wf K Q (wi (wV (zz77 x1 g l_ [(0,.S 0),(3,.S 1),(4,.I (w64 (e+(g.Fields.length:Int)))),(6,.B 6 0),(17,.S 0),(18,.I (l_.length:Int)),(19,.I f)]) J 6 (wq (wV (zz77 x1 g l_ [(0,.S 0),(3,.S 1),(4,.I (w64 (e+(g.Fields.length:Int)))),(6,.B 6 0),(17,.S 0),(18,.I (l_.length:Int)),(19,.I f),(53,.S 3),(54,.I (g.Fields.length:Int)),(55,.I 0)]) J 4 ?_))))
  refine wC (σ:=Unit) (fun st=>(zz77 x1 g l_ [(0,.S 0),(3,.S 1),(4,.I (w64 (e+(g.Fields.length:Int)))),(6,.B 6 0),(17,.S 0),(18,.I (l_.length:Int)),(19,.I f)])) (fun st=>z158_k3 N x1 e f (z158_l2 N l_ x1 n12) g=some r) ?_ (fun j19=>?_)
  ·intro _ h
   replace h:z158_k3 N x1 e f (z158_l2 N l_ x1 n12) g=some r:=h
   unfold z158_k3 at h
   refine wq (wg (xw [3,4] ⟨[(0,.S 0),(3,.S 1),(4,.I (w64 (e+(g.Fields.length:Int)))),(17,.S 0),(18,.I (l_.length:Int)),(19,.I f),(80,.a [.sl 4,.sl 5]),(81,.S 1)],[(1,.own rR3 x1 true)],[(0,.sl rR0 l_),(4,.sl rR1 g.Guard.Diffs),(5,.sl (rP (rI .i64) (rI .i64)) g.Guard.Equals)],8⟩ J 3 ?_))
   obtain ⟨s,t,h⟩:=ob h
   refine wc (z182_ct N g.Guard x1 _ t) [(0,.sl 4),(1,.sl 5),(2,.sl 1)] [1] Q Q Q Q Q Q Q Q (.inr ⟨rfl,trivial⟩) rfl (wx ⟨[(0,.S 0),(3,.S 1),(4,.I (w64 (e+(g.Fields.length:Int)))),(17,.S 0),(18,.I (l_.length:Int)),(19,.I f),(83,.O (!s))],[(1,.own rR3 x1 true)],[(0,.sl rR0 l_)],8⟩ J 1 (wn ?_))
   obtain ⟨K,h⟩|⟨K,h⟩:=oc h
   ·refine wt K Q (wR J 1 Q ?_)
    cases h
    exact we J func158 [] Q Q Q Q
   exact wf K Q (wi (wb (wS J 2 Q (wU (ih12 ((w64 (e+(g.Fields.length:Int))),(w64 (f+1))) h)))))
  refine wo ?_
  refine wI (σ:=Int) (fun st=>(zz77 x1 g l_ [(0,.S 0),(3,.S 1),(4,.I (w64 (e+(g.Fields.length:Int)))),(6,.B 6 0),(17,.S 0),(18,.I (l_.length:Int)),(19,.I f),(53,.S 3),(54,.I (g.Fields.length:Int)),(55,.I st)])) (fun n st=>z158_l4 N x1 e f (z158_l2 N l_ x1 n12) g n st) (r:=r) (fun _=>rfl) ?_ (fun ih=>?_)
  ·intro n14 ih21
   intro u h
   replace h:z158_l4 N x1 e f (z158_l2 N l_ x1 n12) g (n14+1) u=some r:=h
   unfold z158_l4 at h
   refine wR J 1 Q (wq ?_)
   obtain ⟨K,h⟩|⟨K,h⟩:=oc' h
   ·exact wf K Q (wz rfl (wU (j19 () h)))
   refine wt K Q (wi (wq (wo (wq (wg (ws J 1 Q ?_))))))
   obtain ⟨v,x,h⟩:=ob h
   refine wj oO3 J x Q Q Q Q Q Q Q Q Q (wx (zz101 x1 g v l_ [(0,.S 0),(3,.S 1),(4,.I (w64 (e+(g.Fields.length:Int)))),(6,.B 6 0),(7,.I u),(8,.B 9 0),(17,.S 0),(18,.I (l_.length:Int)),(19,.I f),(53,.S 3),(54,.I (g.Fields.length:Int)),(55,.I u)]) J 4 (wn (wq (wg (ws J 2 Q ?_)))))
   obtain ⟨y,z,h⟩:=ob h
   refine wc (z120_ct N v.Name _ z) [] [] Q Q Q Q Q Q Q Q (.inl rfl) rfl (xw (rg 5 13) (zz101 x1 g v l_ [(0,.S 0),(3,.S 1),(4,.I (w64 (e+(g.Fields.length:Int)))),(6,.B 6 0),(7,.I u),(8,.B 9 0),(17,.S 0),(18,.I (l_.length:Int)),(19,.I f),(53,.S 3),(54,.I (g.Fields.length:Int)),(55,.I u),(64,.O (!y))]) J 2 ?_)
   obtain ⟨K,h⟩|⟨K,h⟩:=oc h
   ·refine wy 64 K Q (wx (zz165 x1 g l_ [(0,.S 0),(3,.S 1),(4,.I (w64 (e+(g.Fields.length:Int)))),(6,.B 6 0),(17,.S 0),(18,.I (l_.length:Int)),(19,.I f),(53,.S 3),(54,.I (g.Fields.length:Int)),(55,.I u),(77,.O true)]) J 13 (wn (wt Q Q (wR J 1 Q ?_))))
    cases h
    exact we J func158 [] Q Q Q Q
   refine wy 64 K Q (ws J 2 Q ?_)
   obtain ⟨A,C,h⟩:=ob h
   refine wc (z179_ct N v.Sort' _ C) [] [] Q Q Q Q Q Q Q Q (.inl rfl) rfl (xw (rg 11 7) (zz101 x1 g v l_ [(0,.S 0),(3,.S 1),(4,.I (w64 (e+(g.Fields.length:Int)))),(6,.B 6 0),(7,.I u),(8,.B 9 0),(17,.S 0),(18,.I (l_.length:Int)),(19,.I f),(53,.S 3),(54,.I (g.Fields.length:Int)),(55,.I u),(70,.O (!A))]) J 3 ?_)
   obtain ⟨K,h⟩|⟨K,h⟩:=oc h
   ·refine wy 70 K Q (wx (zz165 x1 g l_ [(0,.S 0),(3,.S 1),(4,.I (w64 (e+(g.Fields.length:Int)))),(6,.B 6 0),(17,.S 0),(18,.I (l_.length:Int)),(19,.I f),(53,.S 3),(54,.I (g.Fields.length:Int)),(55,.I u),(77,.O true)]) J 7 (wn (wt Q Q (wR J 1 Q ?_))))
    cases h
    exact we J func158 [] Q Q Q Q
   refine wy 70 K Q (xw [14,15,16,17] (zz101 x1 g v l_ [(0,.S 0),(3,.S 1),(4,.I (w64 (e+(g.Fields.length:Int)))),(6,.B 6 0),(8,.B 9 0),(17,.S 0),(18,.I (l_.length:Int)),(19,.I f),(53,.S 3),(54,.I (g.Fields.length:Int)),(55,.I u),(70,.O false),(72,.S 3),(73,.I u)]) J 3 ?_)
   obtain ⟨D,G,h⟩:=ob h
   refine WPr.isl J (l:=none) (h:=some (.i64,u)) G Q Q Q Q Q Q Q Q Q Q (ws J 1 Q ?_)
   obtain ⟨H,R,h⟩:=ob h
   refine wc (z180_7_ct N D v _ R) [(0,.sl 10),(1,.bp 9 0)] [] Q Q Q Q Q Q Q Q (.inl rfl) rfl (wx ⟨[(0,.S 0),(3,.S 1),(4,.I (w64 (e+(g.Fields.length:Int)))),(6,.B 6 0),(17,.S 0),(18,.I (l_.length:Int)),(19,.I f),(53,.S 3),(54,.I (g.Fields.length:Int)),(55,.I u),(77,.O H)],[(1,.own rR3 x1 true),(6,.box (cC0 3 4 5 g) 94)],((0,.sl rR0 l_)::vV0 3 4 5 g []),11⟩ J 1 (wn ?_))
   obtain ⟨K,h⟩|⟨K,h⟩:=oc h
   ·refine wt K Q (wR J 1 Q ?_)
    cases h
    exact we J func158 [] Q Q Q Q
   exact wf K Q (wi (wb (wS J 2 Q (wU (ih21 (w64 (u+1)) h)))))
  exact wU (ih N 0 h)
 exact wU (ih N (0,0) h)
theorem z159_ct (N:Nat) (d_:T0) (r:(List T1)) (h:z159 N d_=some r) :
 Fn Tryz.prog 159 ⟨3,[.a (cC0 0 1 2 d_)],(vV0 0 1 2 d_ []),[],4,.S 3,[],[(3,.own rR1 r true)]⟩:=by
 refine wF func159 Q Q (fun E F w=>?_)
 unfold z159 at h
 refine wR J 2 Q (wV ⟨[(1,.B 3 0),(2,.c .nil),(3,.c .nil)],[(3,.box (cC0 0 1 2 d_) 94)],(vV0 0 1 2 d_ []),4⟩ J 1 (wq (wV ⟨[(1,.B 3 0),(2,.c .nil),(3,.c .nil),(9,.S 0),(10,.I (d_.Fields.length:Int)),(11,.I 0)],[(3,.box (cC0 0 1 2 d_) 94)],(vV0 0 1 2 d_ []),4⟩ J 4 ?_)))
 refine wC (σ:=(List T1)) (fun st=>(zz124 d_ st [(1,.B 3 0),(3,.S 4)])) (fun st=>z159_k3 N d_ st=some r) ?_ (fun j1=>?_)
 ·intro d h
  replace h:z159_k3 N d_ d=some r:=h
  unfold z159_k3 at h
  refine wq (wg (xw [4,5] (zz124 d_ d [(1,.B 3 0),(37,.S 4),(40,.S 1)]) J 4 ?_))
  obtain ⟨x9,e,h⟩:=ob h
  refine WPr.app J e (by exact (srcI rfl)) Q Q Q Q Q Q Q Q Q Q (wx ⟨[(1,.B 3 0),(3,.S 5)],[(3,.box (cC0 0 1 2 d_) 94),(5,.own rR1 x9 true)],(vV0 0 1 2 d_ []),6⟩ J 1 (wn (wq (wV ⟨[(3,.S 5),(44,.S 2),(45,.I (d_.Guard.Equals.length:Int)),(46,.I 0)],[(5,.own rR1 x9 true)],(vV0 0 1 2 d_ []),6⟩ J 5 ?_))))
  refine wC (σ:=(List T1)) (fun st=>⟨[(3,.S 6)],[(6,.own rR1 st true)],(vV0 0 1 2 d_ []),7⟩) (fun st=>z159_k1 st=some r) ?_ (fun j3=>?_)
  ·intro f h
   replace h:z159_k1 f=some r:=h
   unfold z159_k1 at h
   refine wR J 2 Q ?_
   cases h
   exact we J func159 [(3,.sl 6)] Q Q Q Q
  refine wo ?_
  refine wI (σ:=(List T1) × Int) (fun st=>⟨[(3,.S 6),(44,.S 2),(45,.I (d_.Guard.Equals.length:Int)),(46,.I st.2)],[(6,.own rR1 st.1 true)],(vV0 0 1 2 d_ []),7⟩) (fun n st=>z159_l2 d_ n st.1 st.2) (r:=r) (fun _=>rfl) ?_ (fun ih=>?_)
  ·intro n3 ih5
   rintro ⟨g,i⟩ h
   replace h:z159_l2 d_ (n3+1) g i=some r:=h
   unfold z159_l2 at h
   refine wR J 1 Q (wq ?_)
   obtain ⟨K,h⟩|⟨K,h⟩:=oc' h
   ·exact wf K Q (wz rfl (wU (j3 g h)))
   refine wt K Q (wi (wq (wo (wq (wg ?_)))))
   obtain ⟨j,k,h⟩:=ob h
   refine wj (oP (oI .i64) (oI .i64)) J k Q Q Q Q Q Q Q Q Q (wx (zz125 g j.1 j.2 d_ [(3,.S 6),(7,.B 8 0),(44,.S 2),(45,.I (d_.Guard.Equals.length:Int)),(46,.I i)]) J 3 (wn (wg (ws J 1 Q (WPr.axb (len:=2) (el:=3) (es:=1) 0 Q Q Q Q Q (by kernel_rfl) (by kernel_rfl) Q Q Q Q (xw (rg 3 11) (zz125 g j.1 j.2 d_ [(7,.B 8 0),(44,.S 2),(45,.I (d_.Guard.Equals.length:Int)),(46,.I i),(50,.S 6),(52,.I j.1)]) J 1 (WPr.axb (len:=2) (el:=3) (es:=1) 1 Q Q Q Q Q (by kernel_rfl) (by kernel_rfl) Q Q Q Q (xw (rg 6 8) (zz125 g j.1 j.2 d_ [(7,.B 8 0),(44,.S 2),(45,.I (d_.Guard.Equals.length:Int)),(46,.I i),(50,.S 6),(55,.a [.I j.1,.I j.2,.I 0])]) J 2 (WPr.axb (len:=2) (el:=3) (es:=1) 1 Q Q Q Q Q (by kernel_rfl) (by kernel_rfl) Q Q Q Q (ws J 1 Q (WPr.axb (len:=2) (el:=3) (es:=1) 0 Q Q Q Q Q (by kernel_rfl) (by kernel_rfl) Q Q Q Q (xw [11,12,13] ⟨[(44,.S 2),(45,.I (d_.Guard.Equals.length:Int)),(46,.I i),(50,.S 6),(55,.a [.I j.1,.I j.2,.I 0]),(60,.a [.I j.2,.I j.1,.I 0])],[(6,.own rR1 g true)],(vV0 0 1 2 d_ []),9⟩ J 2 (WPr.bs (cs:=[.I j.1,.I j.2,.I 0,.I j.2,.I j.1,.I 0]) oO1 J ([(⟨j.1,j.2,0⟩:T1),(⟨j.2,j.1,0⟩:T1)]:List T1) Q Q Q Q Q Q (by kernel_rfl) (by exact (an (an rfl (an Q Q)) (an (an rfl (an Q Q)) rfl))) rfl ?_)))))))))))))
   obtain ⟨l,m,h⟩:=ob h
   exact WPr.app J m (by exact (srcO rfl)) Q Q Q Q Q Q Q Q Q Q (wx ⟨[(3,.S 10),(44,.S 2),(45,.I (d_.Guard.Equals.length:Int)),(46,.I i)],[(10,.own rR1 l true)],(vV0 0 1 2 d_ []),11⟩ J 1 (wn (wb (wS J 2 Q (wu [(6,.sl 10)] (ih5 (l,(w64 (i+1))) h) Q Q Q Q)))))
  exact wu [(6,.sl 5)] (ih N (x9,0) h) Q Q Q Q
 refine wo ?_
 refine wI (σ:=(List T1) × Int) (fun st=>(zz124 d_ st.1 [(1,.B 3 0),(3,.S 4),(9,.S 0),(10,.I (d_.Fields.length:Int)),(11,.I st.2)])) (fun n st=>z159_l4 N d_ n st.1 st.2) (r:=r) (fun _=>rfl) ?_ (fun ih=>?_)
 ·intro n4 ih6
  rintro ⟨o,p⟩ h
  replace h:z159_l4 N d_ (n4+1) o p=some r:=h
  unfold z159_l4 at h
  refine wR J 1 Q (wq ?_)
  obtain ⟨K,h⟩|⟨K,h⟩:=oc' h
  ·exact wf K Q (wz rfl (wU (j1 o h)))
  refine wt K Q (wi (wq (wo (wq (wg (ws J 1 Q ?_))))))
  obtain ⟨q,s,h⟩:=ob h
  refine wj oO3 J s Q Q Q Q Q Q Q Q Q (wx ⟨[(1,.B 3 0),(3,.S 4),(4,.I p),(5,.B 6 0),(9,.S 0),(10,.I (d_.Fields.length:Int)),(11,.I p)],[(3,.box (cC0 0 1 2 d_) 94),(4,.own rR1 o true),(6,.box (cC3 q) 141)],(vV0 0 1 2 d_ []),7⟩ J 4 (wn (wg (xw [18,19,20] ⟨[(1,.B 3 0),(9,.S 0),(10,.I (d_.Fields.length:Int)),(11,.I p),(16,.S 4),(24,.a [.I (w64 (d_.First+p)),.I (-1),.I q.Sort'.Hi]),(33,.a [.I (-1),.I (w64 (d_.First+p)),.I (w64 (0-q.Sort'.Lo))])],[(3,.box (cC0 0 1 2 d_) 94),(4,.own rR1 o true)],(vV0 0 1 2 d_ []),7⟩ J 18 (WPr.bs (cs:=[.I (w64 (d_.First+p)),.I (-1),.I q.Sort'.Hi,.I (-1),.I (w64 (d_.First+p)),.I (w64 (0-q.Sort'.Lo))]) oO1 J ([(⟨(w64 (d_.First+p)),(-1),q.Sort'.Hi⟩:T1),(⟨(-1),(w64 (d_.First+p)),(w64 (0-q.Sort'.Lo))⟩:T1)]:List T1) Q Q Q Q Q Q (by kernel_rfl) (by exact (an (an rfl (an Q Q)) (an (an rfl (an Q Q)) rfl))) rfl ?_)))))
  obtain ⟨t,u,h⟩:=ob h
  exact WPr.app J u (by exact (srcO rfl)) Q Q Q Q Q Q Q Q Q Q (wx ⟨[(1,.B 3 0),(3,.S 8),(9,.S 0),(10,.I (d_.Fields.length:Int)),(11,.I p)],[(3,.box (cC0 0 1 2 d_) 94),(8,.own rR1 t true)],(vV0 0 1 2 d_ []),9⟩ J 1 (wn (wb (wS J 2 Q (wu [(4,.sl 8)] (ih6 (t,(w64 (p+1))) h) Q Q Q Q)))))
 exact wu [(4,.nil)] (ih N (([]:List T1),0) h) Q Q Q Q
theorem z122_ct (N:Nat) (decls_:(List T0)) (label_:Int) (r:(List T1) × Int) (h:z122 N decls_ label_=some r) :
 Fn Tryz.prog 122 ⟨1,[.S 0,.I label_],[(0,.sl rR0 decls_)],[],2,.t [.inl (.sl 1),.inl (.I r.2)],[],[(1,.own rR1 r.1 true)]⟩:=by
 refine wF func122 Q Q (fun E F w=>?_)
 unfold z122 at h
 refine wR J 2 Q (wq (wq (wg (xw (rg 3 10) (zz7 decls_ [(0,.S 0),(1,.I label_),(4,.c .nil),(5,.I 0),(8,.O (decide (label_ < 0)))]) J 3 ?_))))
 obtain ⟨K,h⟩|⟨K,h⟩:=oc h
 ·refine wy 8 K Q (wx (zz7 decls_ [(0,.S 0),(1,.I label_),(4,.c .nil),(5,.I 0),(18,.O true)]) J 10 (wn (wt Q Q (wR J 2 Q ?_))))
  cases h
  exact we J func122 [(1,.nil)] Q Q Q Q
 refine wy 8 K Q (xw [9,10,11,12] (zz7 decls_ [(0,.S 0),(1,.I label_),(4,.c .nil),(5,.I 0),(14,.O (decide (label_≥(decls_.length:Int))))]) J 6 ?_)
 obtain ⟨K,h⟩|⟨K,h⟩:=oc h
 ·refine wy 14 K Q (wx (zz7 decls_ [(0,.S 0),(1,.I label_),(4,.c .nil),(5,.I 0),(18,.O true)]) J 4 (wn (wt Q Q (wR J 2 Q ?_))))
  cases h
  exact we J func122 [(1,.nil)] Q Q Q Q
 refine wy 14 K Q (ws J 1 Q ?_)
 obtain ⟨x1,d,h⟩:=ob h
 refine wc (z158_ct N decls_ _ d) [(0,.sl 0)] [] Q Q Q Q Q Q Q Q (.inl rfl) rfl (wx (zz7 decls_ [(0,.S 0),(1,.I label_),(4,.c .nil),(5,.I 0),(18,.O (!x1))]) J 2 (wn ?_))
 obtain ⟨K,h⟩|⟨K,h⟩:=oc h
 ·refine wt K Q (wR J 2 Q ?_)
  cases h
  exact we J func122 [(1,.nil)] Q Q Q Q
 refine wf K Q (wi (wq (wg (ws J 2 Q ?_))))
 obtain ⟨x2,e,h⟩:=ob h
 refine wj oO0 J e Q Q Q Q Q Q Q Q Q (xw [4,5,6] ⟨[(22,.a (cC0 2 3 4 x2))],[],((0,.sl rR0 decls_)::vV0 2 3 4 x2 []),5⟩ J 1 ?_)
 obtain ⟨x3,f,h⟩:=ob h
 refine wc (z159_ct N x2 _ f) [(0,.sl 2),(1,.sl 3),(2,.sl 4)] [] Q Q Q Q Q Q Q Q (.inl rfl) rfl (wx ⟨[(4,.S 5),(5,.I 0)],[(5,.own rR1 x3 true)],[(0,.sl rR0 decls_)],6⟩ J 2 (wn ?_))
 cases h
 exact we J func122 [(1,.sl 5)] Q Q Q Q
theorem z63_ct (N:Nat) (l_:(List T0)) (r:Bool) (h:z63 N l_=some r) :
 Fn Tryz.prog 63 ⟨1,[.S 0],[(0,.sl rR0 l_)],[],1,.O r,[],[]⟩:=by
 refine wF func63 Q Q (fun E F w=>?_)
 unfold z63 at h
 refine wR J 1 Q (wq (wV (zz7 l_ [(0,.S 0),(2,.O false),(7,.O ((l_.length:Int)==0))]) J 3 ?_))
 obtain ⟨K,h⟩|⟨K,h⟩:=oc h
 ·refine wt K Q (wR J 1 Q ?_)
  cases h
  exact we J func63 [] Q Q Q Q
 refine wf K Q (wi (wq (wg (ws J 1 Q ?_))))
 obtain ⟨x1,c,h⟩:=ob h
 refine wc (z122_ct N l_ 0 _ c) [(0,.sl 0)] [] Q Q Q Q Q Q Q Q (.inl rfl) rfl (wx ⟨[(2,.O false),(4,.I x1.2)],[],[(0,.sl rR0 l_)],2⟩ J 5 (wn (wV ⟨[(2,.O (x1.2==0))],[],[(0,.sl rR0 l_)],2⟩ J 3 ?_)))
 cases h
 exact we J func63 [] Q Q Q Q
theorem z64_ct (N:Nat) (g_:T4) (r:Bool) (h:z64 N g_=some r) :
 Fn Tryz.prog 64 ⟨4,[.a (cC4 0 1 2 3 g_)],(vV4 0 1 2 3 g_ []),[],4,.O r,[],[]⟩:=by
 refine wF func64 Q Q (fun E F w=>?_)
 unfold z64 at h
 refine wR J 2 Q (wq (wV (zz2 g_ [(1,.B 4 0),(2,.O false),(8,.S 2),(9,.I (g_.Edges.length:Int)),(10,.I 0)]) J 4 ?_))
 refine wC (σ:=Unit) (fun st=>(zz6 g_ [])) (fun st=>z64_k1=some r) ?_ (fun j1=>?_)
 ·intro _ h
  replace h:z64_k1=some r:=h
  unfold z64_k1 at h
  refine wR J 1 Q ?_
  cases h
  exact we J func64 [] Q Q Q Q
 refine wo ?_
 refine wI (σ:=Int) (fun st=>(zz2 g_ [(1,.B 4 0),(8,.S 2),(9,.I (g_.Edges.length:Int)),(10,.I st)])) (fun n st=>z64_l2 N g_ n st) (r:=r) (fun _=>rfl) ?_ (fun ih=>?_)
 ·intro n12 ih33
  intro c h
  replace h:z64_l2 N g_ (n12+1) c=some r:=h
  unfold z64_l2 at h
  refine wR J 1 Q (wq ?_)
  obtain ⟨K,h⟩|⟨K,h⟩:=oc' h
  ·exact wf K Q (wz rfl (wU (j1 () h)))
  refine wt K Q (wi (wq (wo (wq (wg (ws J 1 Q ?_))))))
  obtain ⟨d,e,h⟩:=ob h
  refine wj oO2 J e Q Q Q Q Q Q Q Q Q (wx (zz8 g_ d [(1,.B 4 0),(3,.I c),(4,.B 6 0),(8,.S 2),(9,.I (g_.Edges.length:Int)),(10,.I c)]) J 4 (wn (wq (wq (wg (xw (rg 6 10) (zz8 g_ d [(1,.B 4 0),(3,.I c),(4,.B 6 0),(8,.S 2),(9,.I (g_.Edges.length:Int)),(10,.I c),(20,.O (d.From==g_.End))]) J 6 ?_))))))
  refine WP.cutr (σ:=Bool) (fun st=>(zz8 g_ d [(1,.B 4 0),(3,.I c),(4,.B 6 0),(8,.S 2),(9,.I (g_.Edges.length:Int)),(10,.I c),(30,.O st)])) (fun st=>z64_k6 N g_ c (z64_l2 N g_ n12) d st=some r) ?_ (fun j54=>?_)
  ·intro f h
   replace h:z64_k6 N g_ c (z64_l2 N g_ n12) d f=some r:=h
   unfold z64_k6 at h
   obtain ⟨K,h⟩|⟨K,h⟩:=oc h
   ·refine wt K Q (wR J 1 Q ?_)
    cases h
    exact we J func64 [] Q Q Q Q
   refine wf K Q (wi (wV (zz8 g_ d [(1,.B 4 0),(3,.I c),(4,.B 6 0),(8,.S 2),(9,.I (g_.Edges.length:Int)),(10,.I c),(32,.S 2),(33,.I (g_.Edges.length:Int)),(34,.I 0)]) J 4 ?_))
   refine wC (σ:=Unit) (fun st=>(zz14 g_ [(1,.B 4 0),(8,.S 2),(9,.I (g_.Edges.length:Int)),(10,.I c)])) (fun st=>z64_k3 c (z64_l2 N g_ n12)=some r) ?_ (fun j55=>?_)
   ·intro _ h
    replace h:z64_k3 c (z64_l2 N g_ n12)=some r:=h
    unfold z64_k3 at h
    exact wb (wS J 2 Q (wU (ih33 (w64 (c+1)) h)))
   refine wo ?_
   refine wI (σ:=Int) (fun st=>(zz8 g_ d [(1,.B 4 0),(3,.I c),(4,.B 6 0),(8,.S 2),(9,.I (g_.Edges.length:Int)),(10,.I c),(32,.S 2),(33,.I (g_.Edges.length:Int)),(34,.I st)])) (fun n st=>z64_l4 g_ c (z64_l2 N g_ n12) d n st) (r:=r) (fun _=>rfl) ?_ (fun ih=>?_)
   ·intro n14 ih60
    intro g h
    replace h:z64_l4 g_ c (z64_l2 N g_ n12) d (n14+1) g=some r:=h
    unfold z64_l4 at h
    refine wR J 1 Q (wq ?_)
    obtain ⟨K,h⟩|⟨K,h⟩:=oc' h
    ·exact wf K Q (wz rfl (wU (j55 () h)))
    refine wt K Q (wi (wq (wo (wq (wg (ws J 1 Q ?_))))))
    obtain ⟨i,j,h⟩:=ob h
    refine wj oO2 J j Q Q Q Q Q Q Q Q Q (wx (zz9 g_ d i [(1,.B 4 0),(3,.I c),(4,.B 6 0),(5,.I g),(6,.B 8 0),(8,.S 2),(9,.I (g_.Edges.length:Int)),(10,.I c),(32,.S 2),(33,.I (g_.Edges.length:Int)),(34,.I g)]) J 4 (wn (wq (wq (wg (xw (rg 4 26) (zz9 g_ d i [(1,.B 4 0),(3,.I c),(4,.B 6 0),(6,.B 8 0),(8,.S 2),(9,.I (g_.Edges.length:Int)),(10,.I c),(32,.S 2),(33,.I (g_.Edges.length:Int)),(34,.I g),(42,.O (c != g))]) J 4 ?_))))))
    refine WP.cutr (σ:=Bool) (fun st=>(zz9 g_ d i [(1,.B 4 0),(3,.I c),(4,.B 6 0),(6,.B 8 0),(8,.S 2),(9,.I (g_.Edges.length:Int)),(10,.I c),(32,.S 2),(33,.I (g_.Edges.length:Int)),(34,.I g),(68,.O st)])) (fun st=>z64_k5 d g (z64_l4 g_ c (z64_l2 N g_ n12) d n14) i st=some r) ?_ (fun j63=>?_)
    ·intro k h
     replace h:z64_k5 d g (z64_l4 g_ c (z64_l2 N g_ n12) d n14) i k=some r:=h
     unfold z64_k5 at h
     obtain ⟨K,h⟩|⟨K,h⟩:=oc h
     ·refine wt K Q (wR J 1 Q ?_)
      cases h
      exact we J func64 [] Q Q Q Q
     refine wf K Q (wi (wq (wg (xw (rg 3 24) (zz9 g_ d i [(1,.B 4 0),(3,.I c),(4,.B 6 0),(6,.B 8 0),(8,.S 2),(9,.I (g_.Edges.length:Int)),(10,.I c),(32,.S 2),(33,.I (g_.Edges.length:Int)),(34,.I g),(71,.O d.Again)]) J 3 ?_))))
     obtain ⟨K,h⟩|⟨K,h⟩:=oc' h
     ·exact wy 71 K Q (wx (zz26 g_ d [(1,.B 4 0),(3,.I c),(4,.B 6 0),(8,.S 2),(9,.I (g_.Edges.length:Int)),(10,.I c),(32,.S 2),(33,.I (g_.Edges.length:Int)),(34,.I g),(95,.O false)]) J 24 (wn (wf Q Q (wi (wb (wS J 2 Q (wU (ih60 (w64 (g+1)) h))))))))
     refine wy 71 K Q (xw (rg 10 17) (zz9 g_ d i [(1,.B 4 0),(3,.I c),(4,.B 6 0),(6,.B 8 0),(8,.S 2),(9,.I (g_.Edges.length:Int)),(10,.I c),(32,.S 2),(33,.I (g_.Edges.length:Int)),(34,.I g),(78,.O (i.To==d.From))]) J 7 ?_)
     obtain ⟨K,h⟩|⟨K,h⟩:=oc' h
     ·exact wy 78 K Q (wx (zz26 g_ d [(1,.B 4 0),(3,.I c),(4,.B 6 0),(8,.S 2),(9,.I (g_.Edges.length:Int)),(10,.I c),(32,.S 2),(33,.I (g_.Edges.length:Int)),(34,.I g),(95,.O false)]) J 17 (wn (wf Q Q (wi (wb (wS J 2 Q (wU (ih60 (w64 (g+1)) h))))))))
     refine wy 78 K Q (xw (rg 18 9) (zz9 g_ d i [(1,.B 4 0),(3,.I c),(4,.B 6 0),(6,.B 8 0),(8,.S 2),(9,.I (g_.Edges.length:Int)),(10,.I c),(32,.S 2),(33,.I (g_.Edges.length:Int)),(34,.I g),(78,.O true),(86,.O (d.Act.From != i.Act.From))]) J 8 ?_)
     obtain ⟨K,h⟩|⟨K,h⟩:=oc h
     ·refine wy 86 K Q (wx (zz26 g_ d [(1,.B 4 0),(3,.I c),(4,.B 6 0),(8,.S 2),(9,.I (g_.Edges.length:Int)),(10,.I c),(32,.S 2),(33,.I (g_.Edges.length:Int)),(34,.I g),(95,.O true)]) J 9 (wn (wt Q Q (wR J 1 Q ?_))))
      cases h
      exact we J func64 [] Q Q Q Q
     refine wy 86 K Q (wx (zz26 g_ d [(1,.B 4 0),(3,.I c),(4,.B 6 0),(8,.S 2),(9,.I (g_.Edges.length:Int)),(10,.I c),(32,.S 2),(33,.I (g_.Edges.length:Int)),(34,.I g),(95,.O (d.Act.Label != i.Act.Label))]) J 9 (wn ?_))
     obtain ⟨K,h⟩|⟨K,h⟩:=oc h
     ·refine wt K Q (wR J 1 Q ?_)
      cases h
      exact we J func64 [] Q Q Q Q
     exact wf K Q (wi (wb (wS J 2 Q (wU (ih60 (w64 (g+1)) h)))))
    obtain ⟨K,h⟩|⟨K,h⟩:=oc' h
    ·exact wy 42 K Q (wx (zz9 g_ d i [(1,.B 4 0),(3,.I c),(4,.B 6 0),(6,.B 8 0),(8,.S 2),(9,.I (g_.Edges.length:Int)),(10,.I c),(32,.S 2),(33,.I (g_.Edges.length:Int)),(34,.I g),(68,.O false)]) J 26 (wn (wU (j63 false h))))
    refine wy 42 K Q (xw (rg 11 19) (zz9 g_ d i [(1,.B 4 0),(3,.I c),(4,.B 6 0),(6,.B 8 0),(8,.S 2),(9,.I (g_.Edges.length:Int)),(10,.I c),(32,.S 2),(33,.I (g_.Edges.length:Int)),(34,.I g),(49,.O (d.From==i.From))]) J 7 ?_)
    obtain ⟨K,h⟩|⟨K,h⟩:=oc' h
    ·exact wy 49 K Q (wx (zz9 g_ d i [(1,.B 4 0),(3,.I c),(4,.B 6 0),(6,.B 8 0),(8,.S 2),(9,.I (g_.Edges.length:Int)),(10,.I c),(32,.S 2),(33,.I (g_.Edges.length:Int)),(34,.I g),(68,.O false)]) J 19 (wn (wU (j63 false h))))
    refine wy 49 K Q (xw (rg 15 15) (zz9 g_ d i [(1,.B 4 0),(3,.I c),(4,.B 6 0),(6,.B 8 0),(8,.S 2),(9,.I (g_.Edges.length:Int)),(10,.I c),(32,.S 2),(33,.I (g_.Edges.length:Int)),(34,.I g),(49,.O true),(51,.a (cC6 d.Act)),(53,.a (cC6 i.Act))]) J 4 (WPr.eqa (neg:=false) (equal_run (b:=((d.Act.From==i.Act.From) && ((d.Act.To==i.Act.To) && ((d.Act.Label==i.Act.Label) && true)))) (by kernel_rfl) (by kernel_rfl)) (by kernel_rfl) Q Q Q Q Q Q Q (ws J 1 Q ?_)))
    obtain ⟨K,h⟩|⟨K,h⟩:=oc h
    ·exact wy 55 K Q (wx (zz9 g_ d i [(1,.B 4 0),(3,.I c),(4,.B 6 0),(6,.B 8 0),(8,.S 2),(9,.I (g_.Edges.length:Int)),(10,.I c),(32,.S 2),(33,.I (g_.Edges.length:Int)),(34,.I g),(68,.O true)]) J 13 (wn (wU (j63 true h))))
    refine wy 55 K Q (xw [26,27,28,29] (zz9 g_ d i [(1,.B 4 0),(3,.I c),(4,.B 6 0),(6,.B 8 0),(8,.S 2),(9,.I (g_.Edges.length:Int)),(10,.I c),(32,.S 2),(33,.I (g_.Edges.length:Int)),(34,.I g),(49,.O true),(64,.O (d.Act.From != i.Act.From))]) J 9 ?_)
    obtain ⟨K,h⟩|⟨K,h⟩:=oc h
    ·exact wy 64 K Q (wx (zz9 g_ d i [(1,.B 4 0),(3,.I c),(4,.B 6 0),(6,.B 8 0),(8,.S 2),(9,.I (g_.Edges.length:Int)),(10,.I c),(32,.S 2),(33,.I (g_.Edges.length:Int)),(34,.I g),(68,.O true)]) J 4 (wn (wU (j63 true h))))
    exact wy 64 K Q (wx (zz9 g_ d i [(1,.B 4 0),(3,.I c),(4,.B 6 0),(6,.B 8 0),(8,.S 2),(9,.I (g_.Edges.length:Int)),(10,.I c),(32,.S 2),(33,.I (g_.Edges.length:Int)),(34,.I g),(68,.O d.Again)]) J 4 (wn (wU (j63 d.Again h))))
   exact wU (ih N 0 h)
  obtain ⟨K,h⟩|⟨K,h⟩:=oc h
  ·exact wy 20 K Q (wx (zz8 g_ d [(1,.B 4 0),(3,.I c),(4,.B 6 0),(8,.S 2),(9,.I (g_.Edges.length:Int)),(10,.I c),(30,.O true)]) J 10 (wn (wU (j54 true h))))
  refine wy 20 K Q (xw (rg 9 7) (zz8 g_ d [(1,.B 4 0),(3,.I c),(4,.B 6 0),(8,.S 2),(9,.I (g_.Edges.length:Int)),(10,.I c),(20,.O false),(23,.O d.Again)]) J 3 ?_)
  obtain ⟨K,h⟩|⟨K,h⟩:=oc h
  ·exact wy 23 K Q (wx (zz8 g_ d [(1,.B 4 0),(3,.I c),(4,.B 6 0),(8,.S 2),(9,.I (g_.Edges.length:Int)),(10,.I c),(30,.O (d.From==g_.Start))]) J 7 (wn (wU (j54 (d.From==g_.Start) h))))
  exact wy 23 K Q (wx (zz8 g_ d [(1,.B 4 0),(3,.I c),(4,.B 6 0),(8,.S 2),(9,.I (g_.Edges.length:Int)),(10,.I c),(30,.O false)]) J 7 (wn (wU (j54 false h))))
 exact wU (ih N 0 h)
theorem z65_ct (N:Nat) (g_:T4) (r:Bool) (h:z65 N g_=some r) :
 Fn Tryz.prog 65 ⟨4,[.a (cC4 0 1 2 3 g_)],(vV4 0 1 2 3 g_ []),[],4,.O r,[],[]⟩:=by
 refine wF func65 Q Q (fun E F w=>?_)
 unfold z65 at h
 refine wR J 2 Q (wV (zz2 g_ [(1,.B 4 0),(2,.O false),(3,.I (-1))]) J 1 (wq (wV (zz2 g_ [(1,.B 4 0),(2,.O false),(3,.I (-1)),(7,.S 3),(8,.I (g_.Timeouts.length:Int)),(9,.I 0)]) J 4 ?_)))
 refine wC (σ:=Unit) (fun st=>(zz6 g_ [])) (fun st=>z65_k1=some r) ?_ (fun j1=>?_)
 ·intro _ h
  replace h:z65_k1=some r:=h
  unfold z65_k1 at h
  refine wR J 1 Q ?_
  cases h
  exact we J func65 [] Q Q Q Q
 refine wo ?_
 refine wI (σ:=Int × Int) (fun st=>(zz2 g_ [(1,.B 4 0),(3,.I st.1),(7,.S 3),(8,.I (g_.Timeouts.length:Int)),(9,.I st.2)])) (fun n st=>z65_l2 g_ n st.1 st.2) (r:=r) (fun _=>rfl) ?_ (fun ih=>?_)
 ·intro n2 ih3
  rintro ⟨c,d⟩ h
  replace h:z65_l2 g_ (n2+1) c d=some r:=h
  unfold z65_l2 at h
  refine wR J 1 Q (wq ?_)
  obtain ⟨K,h⟩|⟨K,h⟩:=oc' h
  ·exact wf K Q (wz rfl (wU (j1 () h)))
  refine wt K Q (wi (wq (wo (wq (wg ?_)))))
  obtain ⟨e,f,h⟩:=ob h
  refine wj oO8 J f Q Q Q Q Q Q Q Q Q (wx (zz11 g_ e [(1,.B 4 0),(3,.I c),(5,.B 6 0),(7,.S 3),(8,.I (g_.Timeouts.length:Int)),(9,.I d)]) J 3 (wn (wq (wq (wQ (by kernel_rfl) (by kernel_rfl) (xq (rg 5 43) (zz11 g_ e [(1,.B 4 0),(5,.B 6 0),(7,.S 3),(8,.I (g_.Timeouts.length:Int)),(9,.I d),(17,.O (decide (e.State≤c)))]) J 5 ?_))))))
  obtain ⟨K,h⟩|⟨K,h⟩:=oc h
  ·refine qy 17 K Q (qx (zz11 g_ e [(1,.B 4 0),(5,.B 6 0),(7,.S 3),(8,.I (g_.Timeouts.length:Int)),(9,.I d),(60,.O true)]) J 43 (qn (wt Q Q (wR J 1 Q ?_))))
   cases h
   exact we J func65 [] Q Q Q Q
  refine qy 17 K Q (xq (rg 10 38) (zz11 g_ e [(1,.B 4 0),(5,.B 6 0),(7,.S 3),(8,.I (g_.Timeouts.length:Int)),(9,.I d),(22,.O (decide (e.Ticks < 1)))]) J 5 ?_)
  obtain ⟨K,h⟩|⟨K,h⟩:=oc h
  ·refine qy 22 K Q (qx (zz11 g_ e [(1,.B 4 0),(5,.B 6 0),(7,.S 3),(8,.I (g_.Timeouts.length:Int)),(9,.I d),(60,.O true)]) J 38 (qn (wt Q Q (wR J 1 Q ?_))))
   cases h
   exact we J func65 [] Q Q Q Q
  refine qy 22 K Q (xq (rg 15 33) (zz11 g_ e [(1,.B 4 0),(5,.B 6 0),(7,.S 3),(8,.I (g_.Timeouts.length:Int)),(9,.I d),(27,.O (decide (e.Ticks > 1000)))]) J 5 ?_)
  obtain ⟨K,h⟩|⟨K,h⟩:=oc h
  ·refine qy 27 K Q (qx (zz11 g_ e [(1,.B 4 0),(5,.B 6 0),(7,.S 3),(8,.I (g_.Timeouts.length:Int)),(9,.I d),(60,.O true)]) J 33 (qn (wt Q Q (wR J 1 Q ?_))))
   cases h
   exact we J func65 [] Q Q Q Q
  refine qy 27 K Q (xq (rg 20 28) (zz11 g_ e [(1,.B 4 0),(5,.B 6 0),(7,.S 3),(8,.I (g_.Timeouts.length:Int)),(9,.I d),(32,.O (decide (e.Else < 0)))]) J 5 ?_)
  obtain ⟨K,h⟩|⟨K,h⟩:=oc h
  ·refine qy 32 K Q (qx (zz11 g_ e [(1,.B 4 0),(5,.B 6 0),(7,.S 3),(8,.I (g_.Timeouts.length:Int)),(9,.I d),(60,.O true)]) J 28 (qn (wt Q Q (wR J 1 Q ?_))))
   cases h
   exact we J func65 [] Q Q Q Q
  refine qy 32 K Q (xq (rg 28 20) (zz11 g_ e [(1,.B 4 0),(5,.B 6 0),(7,.S 3),(8,.I (g_.Timeouts.length:Int)),(9,.I d),(40,.O (decide (e.Else≥(g_.Edges.length:Int))))]) J 8 ?_)
  obtain ⟨K,h⟩|⟨K,h⟩:=oc h
  ·refine qy 40 K Q (qx (zz11 g_ e [(1,.B 4 0),(5,.B 6 0),(7,.S 3),(8,.I (g_.Timeouts.length:Int)),(9,.I d),(60,.O true)]) J 20 (qn (wt Q Q (wR J 1 Q ?_))))
   cases h
   exact we J func65 [] Q Q Q Q
  refine qy 40 K Q (xq (rg 32 16) (zz11 g_ e [(1,.B 4 0),(5,.B 6 0),(7,.S 3),(8,.I (g_.Timeouts.length:Int)),(9,.I d),(40,.O false),(42,.S 2),(44,.I e.Else)]) J 4 ?_)
  obtain ⟨g,i,h⟩:=ob h
  refine WPq.op Q Q (VN.vs (VN.ix oO2 J i Q Q Q Q Q Q Q)) (xq (rg 40 8) (zz32 g_ e [(1,.B 4 0),(5,.B 6 0),(7,.S 3),(8,.I (g_.Timeouts.length:Int)),(9,.I d),(52,.O (g.From != e.State))]) J 7 ?_)
  obtain ⟨K,h⟩|⟨K,h⟩:=oc h
  ·refine qy 52 K Q (qx (zz32 g_ e [(1,.B 4 0),(5,.B 6 0),(7,.S 3),(8,.I (g_.Timeouts.length:Int)),(9,.I d),(60,.O true)]) J 8 (qn (wt Q Q (wR J 1 Q ?_))))
   cases h
   exact we J func65 [] Q Q Q Q
  refine qy 52 K Q (xq [44,45,46,47] (zz32 g_ e [(1,.B 4 0),(5,.B 6 0),(7,.S 3),(8,.I (g_.Timeouts.length:Int)),(9,.I d),(52,.O false),(54,.S 2),(56,.I e.Else)]) J 4 ?_)
  obtain ⟨j,k,h⟩:=ob h
  refine WPq.op Q Q (VN.vs (VN.ix oO2 J k Q Q Q Q Q Q Q)) (qx ⟨[(1,.B 4 0),(5,.B 6 0),(7,.S 3),(8,.I (g_.Timeouts.length:Int)),(9,.I d),(60,.O j.Again)],[(4,.box (cC4 0 1 2 3 g_) 27),(6,.box (cC8 e) 79)],(vV4 0 1 2 3 g_ []),9⟩ J 3 (qn ?_))
  obtain ⟨K,h⟩|⟨K,h⟩:=oc h
  ·refine wt K Q (wR J 1 Q ?_)
   cases h
   exact we J func65 [] Q Q Q Q
  exact wf K Q (wi (wT (zz78 g_ [(1,.B 4 0),(3,.I e.State),(7,.S 3),(8,.I (g_.Timeouts.length:Int)),(9,.I d)]) J 3 (wb (wS J 2 Q (wU (ih3 (e.State,(w64 (d+1))) h))))))
 exact wU (ih N ((-1),0) h)
theorem z156_ct (N:Nat) (x_:Int) (y_:Int) (r:Int × Int) (h:z156 N x_ y_=some r) :
 Fn Tryz.prog 156 ⟨0,[.c (.i .u64 x_),.c (.i .u64 y_)],[],[],0,.t [.inl (.i .u64 r.1),.inl (.i .u64 r.2)],[],[]⟩:=by
 refine wF func156 Q Q (fun E F w=>?_)
 unfold z156 at h
 refine wR J 2 Q (wq (wg (xw [1,2] (zz0 [(0,.c (.i .u64 x_)),(1,.c (.i .u64 y_)),(4,.c (.i .u64 0)),(5,.c (.i .u64 0)),(14,.c (.i .u64 x_))]) J 1 ?_)))
 obtain ⟨x1,d,h⟩:=ob h
 refine WPr.bin d Q Q Q Q Q Q Q Q (ws J 1 Q (wn (wq (wg (xw [1,2] (zz0 [(0,.c (.i .u64 x_)),(1,.c (.i .u64 y_)),(4,.c (.i .u64 0)),(5,.c (.i .u64 0)),(6,.c (.i .u64 x1)),(16,.c (.i .u64 x_))]) J 1 ?_)))))
 obtain ⟨x2,e,h⟩:=ob h
 refine WPr.bin e Q Q Q Q Q Q Q Q (ws J 1 Q (wn (wq (wg (xw [1,2] (zz0 [(0,.c (.i .u64 x_)),(1,.c (.i .u64 y_)),(4,.c (.i .u64 0)),(5,.c (.i .u64 0)),(6,.c (.i .u64 x1)),(7,.c (.i .u64 x2)),(18,.c (.i .u64 y_))]) J 1 ?_)))))
 obtain ⟨x3,f,h⟩:=ob h
 refine WPr.bin f Q Q Q Q Q Q Q Q (ws J 1 Q (wn (wq (wg (xw [1,2] (zz0 [(0,.c (.i .u64 x_)),(1,.c (.i .u64 y_)),(4,.c (.i .u64 0)),(5,.c (.i .u64 0)),(6,.c (.i .u64 x1)),(7,.c (.i .u64 x2)),(8,.c (.i .u64 x3)),(20,.c (.i .u64 y_))]) J 1 ?_)))))
 obtain ⟨x4,g,h⟩:=ob h
 refine WPr.bin g Q Q Q Q Q Q Q Q (ws J 1 Q (wn (wV (zz0 [(0,.c (.i .u64 x_)),(1,.c (.i .u64 y_)),(4,.c (.i .u64 0)),(5,.c (.i .u64 0)),(6,.c (.i .u64 x1)),(7,.c (.i .u64 x2)),(8,.c (.i .u64 x3)),(9,.c (.i .u64 x4)),(10,.c (.i .u64 (wk .u64 (x1 * x3))))]) J 4 (wq (wg (xw [4,5,6] (zz0 [(0,.c (.i .u64 x_)),(1,.c (.i .u64 y_)),(4,.c (.i .u64 0)),(5,.c (.i .u64 0)),(6,.c (.i .u64 x1)),(7,.c (.i .u64 x2)),(9,.c (.i .u64 x4)),(27,.c (.i .u64 (wk .u64 (x2 * x3)))),(28,.c (.i .u64 (wk .u64 (x1 * x3))))]) J 4 ?_))))))
 obtain ⟨x5,j,h⟩:=ob h
 refine WPr.bin j Q Q Q Q Q Q Q Q (wx (zz0 [(0,.c (.i .u64 x_)),(1,.c (.i .u64 y_)),(4,.c (.i .u64 0)),(5,.c (.i .u64 0)),(6,.c (.i .u64 x1)),(7,.c (.i .u64 x2)),(9,.c (.i .u64 x4)),(11,.c (.i .u64 (wk .u64 ((wk .u64 (x2 * x3))+x5))))]) J 2 (wn (wq (wg (ws J 1 Q ?_)))))
 obtain ⟨x6,k,h⟩:=ob h
 refine WPr.bin k Q Q Q Q Q Q Q Q (wx (zz0 [(0,.c (.i .u64 x_)),(1,.c (.i .u64 y_)),(4,.c (.i .u64 0)),(5,.c (.i .u64 0)),(6,.c (.i .u64 x1)),(7,.c (.i .u64 x2)),(9,.c (.i .u64 x4)),(11,.c (.i .u64 (wk .u64 ((wk .u64 (x2 * x3))+x5)))),(12,.c (.i .u64 x6))]) J 1 (wn (wq (wg (ws J 1 Q ?_)))))
 obtain ⟨x7,l,h⟩:=ob h
 refine WPr.bin l Q Q Q Q Q Q Q Q (wx (zz0 [(0,.c (.i .u64 x_)),(1,.c (.i .u64 y_)),(4,.c (.i .u64 0)),(5,.c (.i .u64 0)),(6,.c (.i .u64 x1)),(7,.c (.i .u64 x2)),(9,.c (.i .u64 x4)),(12,.c (.i .u64 x6)),(13,.c (.i .u64 x7))]) J 1 (wn (wV (zz0 [(0,.c (.i .u64 x_)),(1,.c (.i .u64 y_)),(4,.c (.i .u64 0)),(5,.c (.i .u64 0)),(7,.c (.i .u64 x2)),(9,.c (.i .u64 x4)),(12,.c (.i .u64 (wk .u64 (x6+(wk .u64 (x1 * x4)))))),(13,.c (.i .u64 x7))]) J 6 (wq (wg (xw [6,7,8] (zz0 [(0,.c (.i .u64 x_)),(1,.c (.i .u64 y_)),(5,.c (.i .u64 0)),(44,.c (.i .u64 (wk .u64 ((wk .u64 (x2 * x4))+x7)))),(45,.c (.i .u64 (wk .u64 (x6+(wk .u64 (x1 * x4))))))]) J 6 ?_))))))
 obtain ⟨x8,m,h⟩:=ob h
 refine WPr.bin m Q Q Q Q Q Q Q Q (wx (zz0 [(0,.c (.i .u64 x_)),(1,.c (.i .u64 y_)),(4,.c (.i .u64 (wk .u64 ((wk .u64 ((wk .u64 (x2 * x4))+x7))+x8)))),(5,.c (.i .u64 0))]) J 2 (wn (wV (zz0 [(4,.c (.i .u64 (wk .u64 ((wk .u64 ((wk .u64 (x2 * x4))+x7))+x8)))),(5,.c (.i .u64 (wk .u64 (x_ * y_))))]) J 4 ?_)))
 cases h
 exact we J func156 [] Q Q Q Q
theorem z119_ct (N:Nat) (x_:Int) (y_:Int) (r:Int × Int) (h:z119 N x_ y_=some r) :
 Fn Tryz.prog 119 ⟨0,[.c (.i .u64 x_),.c (.i .u64 y_)],[],[],0,.t [.inl (.i .u64 r.1),.inl (.i .u64 r.2)],[],[]⟩:=by
 refine wF func119 Q Q (fun E F w=>?_)
 unfold z119 at h
 refine wR J 2 Q (wq (WP.condCF (wi (wq (wg (xw (rg 2 6) (zz0 [(4,.c (.i .u64 0)),(5,.c (.i .u64 0)),(23,.c (.i .u64 x_)),(24,.c (.i .u64 y_))]) J 2 ?_))))))
 obtain ⟨x1,d,h⟩:=ob h
 refine wc (z156_ct N x_ y_ _ d) [] [] Q Q Q Q Q Q Q Q (.inl rfl) rfl (wx (zz0 [(4,.c (.i .u64 0)),(5,.c (.i .u64 0)),(8,.c (.i .u64 x1.1)),(9,.c (.i .u64 x1.2))]) J 5 (wn (wV (zz0 [(4,.c (.i .u64 x1.1)),(5,.c (.i .u64 x1.2))]) J 4 ?_)))
 cases h
 exact we J func119 [] Q Q Q Q
theorem z58_ct (N:Nat) (x_:(List Int)) (count_:Int) (r:(List Int)) (h:z58 N x_ count_=some r) :
 Fn Tryz.prog 58 ⟨1,[.S 0,.I count_],[(0,.sl (rI .i64) x_)],[],2,.S 1,[],[(1,.own (rI .i64) r true)]⟩:=by
 refine wF func58 Q Q (fun E F w=>?_)
 unfold z58 at h
 refine wR J 1 Q (wq (wV (zz15 x_ [(0,.S 0),(1,.I count_),(4,.c .nil),(10,.O (decide (count_ < 0)))]) J 2 ?_))
 obtain ⟨K,h⟩|⟨K,h⟩:=oc h
 ·refine wt K Q (wg ?_)
  cases h
 refine wf K Q (wi (wq (wg (xw (rg 5 6) (zz15 x_ [(0,.S 0),(4,.c .nil),(15,.c (.i .u64 (wk .u64 ((x_.length:Int))))),(17,.c (.i .u64 (wk .u64 (count_))))]) J 5 ?_))))
 obtain ⟨x1,d,h⟩:=ob h
 refine wc (z119_ct N (wk .u64 ((x_.length:Int))) (wk .u64 (count_)) _ d) [] [] Q Q Q Q Q Q Q Q (.inl rfl) rfl (wx (zz15 x_ [(0,.S 0),(4,.c .nil),(5,.c (.i .u64 x1.1)),(6,.c (.i .u64 x1.2))]) J 5 (wn (wq (wq (wg (xw [3,4,5] (zz15 x_ [(0,.S 0),(4,.c .nil),(6,.c (.i .u64 x1.2)),(23,.O (decide (x1.1 > 0)))]) J 3 ?_))))))
 refine WP.cutr (σ:=Bool) (fun st=>(zz15 x_ [(0,.S 0),(6,.c (.i .u64 x1.2)),(26,.O st)])) (fun st=>z58_k3 N x_ x1 st=some r) ?_ (fun j2=>?_)
 ·intro e h
  replace h:z58_k3 N x_ x1 e=some r:=h
  unfold z58_k3 at h
  obtain ⟨K,h⟩|⟨K,h⟩:=oc h
  ·refine wt K Q (wg ?_)
   cases h
  refine wf K Q (wi (wq (wg (ws J 2 Q ?_))))
  obtain ⟨x2,f,h⟩:=ob h
  refine WPr.mk (oI .i64) J 0 f Q Q Q Q Q Q Q Q (by exact an Q Q) rfl (wx (zz79 x2 x_ [(0,.S 0),(7,.S 1)]) J 1 (wn (wq (wg (ws J 2 Q ?_)))))
  obtain ⟨x3,g,h⟩:=ob h
  refine WPr.cp J g (by exact (srcI rfl)) Q Q Q Q Q (Or.inr ⟨rfl,rfl,rfl⟩) Q Q Q Q (wx (zz79 x3.1 x_ [(7,.S 1),(8,.I x3.2)]) J 1 (wn (wq ?_)))
  refine wC (σ:=(List Int)) (fun st=>(zz79 st x_ [(7,.S 1)])) (fun st=>z58_k1 st=some r) ?_ (fun j4=>?_)
  ·intro j h
   replace h:z58_k1 j=some r:=h
   unfold z58_k1 at h
   refine wR J 2 Q ?_
   cases h
   exact we J func58 [(1,.sl 1)] Q Q Q Q
  refine wo ?_
  refine wI (σ:=(List Int) × Int) (fun st=>(zz79 st.1 x_ [(7,.S 1),(8,.I st.2)])) (fun n st=>z58_l2 n st.1 st.2) (r:=r) (fun _=>rfl) ?_ (fun ih=>?_)
  ·intro n2 ih6
   rintro ⟨m,o⟩ h
   replace h:z58_l2 (n2+1) m o=some r:=h
   unfold z58_l2 at h
   refine wq (wV (zz79 m x_ [(7,.S 1),(8,.I o),(37,.O (decide (o < (m.length:Int))))]) J 4 ?_)
   obtain ⟨K,h⟩|⟨K,h⟩:=oc' h
   ·exact wf K Q (wz rfl (wU (j4 m h)))
   refine wt K Q (wi (wo (wN (fun A9 p q=>?_))))
   have s:A9 0 (zz102 [(8,.I o)] [(38,.I o)]):=p _ _ (wL J)
   have u:A9 1 (zz102 [(7,.S 1)] [(39,.S 1)]):=p _ _ (wL J)
   have v:A9 2 (zz102 [(8,.I o)] [(40,.I o)]):=p _ _ (wL J)
   obtain ⟨x,y,h⟩:=ob h
   have z:A9 3 ⟨[(39,.S 1),(40,.I o)],[],[],[(1,.own (rI .i64) m true)],2,[(41,.S 2)],[(2,.vw 1 (some o) none ((rI .i64)).sz)],[],3⟩:=p _ _ (wO Q Q Q (fun _ _ _ _ _ _ _ k=>WPr.vw J (l:=some (.i64,o)) (h:=none) y Q Q Q Q Q Q Q Q Q Q (k)) rfl)
   have A:A9 4 ⟨[(7,.S 1)],[],[],[],3,[(42,.S 1)],[],[],3⟩:=p _ _ (wL J)
   have C:A9 5 ⟨[(8,.I o)],[],[],[],3,[(43,.I o)],[],[],3⟩:=p _ _ (wL J)
   obtain ⟨D,G,h⟩:=ob h
   have H:A9 6 ⟨[(42,.S 1),(43,.I o)],[],[],[(1,.own (rI .i64) m true)],3,[(44,.S 3)],[(3,.vw 1 none (some o) ((rI .i64)).sz)],[],4⟩:=p _ _ (wO Q Q Q (fun _ _ _ _ _ _ _ k=>WPr.vw J (l:=none) (h:=some (.i64,o)) G Q Q Q Q Q Q Q Q Q Q (k)) rfl)
   obtain ⟨R,T,h⟩:=ob h
   have U:A9 7 ⟨[(41,.S 2),(44,.S 3)],[(2,.vw 1 (some o) none ((rI .i64)).sz),(3,.vw 1 none (some o) ((rI .i64)).sz)],[(1,.own (rI .i64) m true)],[],4,[(45,.I R.2)],[],[(1,.own (rI .i64) R.1 true)],4⟩:=p _ _ (wO Q Q Q (fun _ _ _ _ _ _ _ k=>WPr.cp J T (by exact (srcV G Q Q)) Q Q Q Q Q (Or.inl rfl) Q Q Q Q (k)) rfl)
   have X:A9 8 ⟨[(38,.I o),(45,.I R.2)],[],[],[],4,[(46,.I (w64 (o+R.2)))],[],[],4⟩:=p _ _ (wL J)
   have Y:A9 9 ⟨[(46,.I (w64 (o+R.2)))],[],[],[],4,[(8,.I (w64 (o+R.2)))],[],[],4⟩:=p _ _ (wL J)
   exact wD (t:=⟨[(7,.S 1),(8,.I (w64 (o+R.2)))],[(1,.own (rI .i64) R.1 true)],[(0,.sl (rI .i64) x_)],4⟩) [0,0,0,6,0,0,48,126,255,511] (.cons (q _ _ s) (.cons (q _ _ u) (.cons (q _ _ v) (.cons (q _ _ z) (.cons (q _ _ A) (.cons (q _ _ C) (.cons (q _ _ H) (.cons (q _ _ U) (.cons (q _ _ X) (.cons (q _ _ Y) .nil)))))))))) (by kernel_rfl) (by kernel_rfl) (by kernel_rfl) (by kernel_rfl) (wb (wU (ih6 (R.1,(w64 (o+R.2))) h)))
  exact wU (ih N (x3.1,x3.2) h)
 obtain ⟨K,h⟩|⟨K,h⟩:=oc h
 ·exact wy 23 K Q (wx (zz15 x_ [(0,.S 0),(4,.c .nil),(6,.c (.i .u64 x1.2)),(26,.O true)]) J 3 (wn (wU (j2 true h))))
 exact wy 23 K Q (wx (zz15 x_ [(0,.S 0),(4,.c .nil),(6,.c (.i .u64 x1.2)),(26,.O (decide (x1.2 > 9223372036854775807)))]) J 3 (wn (wU (j2 (decide (x1.2 > 9223372036854775807)) h))))
theorem z67_ct (N:Nat) (g_:T4) (from_:Int) (back_:Bool) (r:(List Int)) (h:z67 N g_ from_ back_=some r) :
 Fn Tryz.prog 67 ⟨4,[.a (cC4 0 1 2 3 g_),.I from_,.O back_],(vV4 0 1 2 3 g_ []),[],5,.S 4,[],[(4,.own (rI .i64) r true)]⟩:=by
 refine wF func67 Q Q (fun E F w=>?_)
 unfold z67 at h
 refine wR J 2 Q (wq (wg (WPr.bs (cs:=[.I (-1)]) (oI .i64) J ([(-1)]:List Int) Q Q Q Q Q Q (by kernel_rfl) (by exact (an Q Q)) rfl (xw [3,4] ⟨[(1,.I from_),(2,.O back_),(3,.B 4 0),(6,.c .nil),(13,.S 5),(15,.I g_.States)],[(4,.box (cC4 0 1 2 3 g_) 27),(5,.own (rI .i64) ([(-1)]:List Int) true)],(vV4 0 1 2 3 g_ []),6⟩ J 2 ?_))))
 obtain ⟨x1,d,h⟩:=ob h
 refine wc (z58_ct N ([(-1)]:List Int) g_.States _ d) [(0,.sl 5)] [5] Q Q Q Q Q Q Q Q (.inr ⟨rfl,⟨(rI_flat _),trivial⟩⟩) rfl (wx ⟨[(1,.I from_),(2,.O back_),(3,.B 4 0),(6,.c .nil),(7,.S 6)],[(4,.box (cC4 0 1 2 3 g_) 27),(6,.own (rI .i64) x1 true)],(vV4 0 1 2 3 g_ []),7⟩ J 1 (wn (wq (wg (ws J 2 Q ?_)))))
 obtain ⟨x2,e,h⟩:=ob h
 refine wX J e Q Q Q Q Q Q Q Q Q (xw [3] ⟨[(1,.I from_),(2,.O back_),(3,.B 4 0),(6,.c .nil),(7,.S 6),(19,.P 7 0)],[(4,.box (cC4 0 1 2 3 g_) 27),(6,.own (rI .i64) x1 true)],(vV4 0 1 2 3 g_ [(7,.el 6 ((from_).toNat * ((rI .i64)).sz))]),8⟩ J 0 (WPr.sto (oI .i64) J 0 e Q Q Q Q Q Q Q Q Q Q (by exact rfl) rfl (wn (wq (wq (wg (ws J 1 Q (WPr.bs (cs:=[.I from_]) (oI .i64) J ([from_]:List Int) Q Q Q Q Q Q (by kernel_rfl) (by exact (an Q Q)) rfl (wx ⟨[(2,.O back_),(3,.B 4 0),(6,.c .nil),(7,.S 6),(8,.S 8)],[(4,.box (cC4 0 1 2 3 g_) 27),(6,.own (rI .i64) (setL' x1 from_ 0) true),(8,.own (rI .i64) ([from_]:List Int) true)],(vV4 0 1 2 3 g_ []),9⟩ J 1 (wn ?_))))))))))
 refine wC (σ:=(List Int)) (fun st=>⟨[(7,.S 6)],[(6,.own (rI .i64) st true)],(vV4 0 1 2 3 g_ []),9⟩) (fun st=>z67_k1 st=some r) ?_ (fun j1=>?_)
 ·intro f h
  replace h:z67_k1 f=some r:=h
  unfold z67_k1 at h
  refine wR J 2 Q ?_
  cases h
  exact we J func67 [(4,.sl 6)] Q Q Q Q
 refine wo ?_
 refine wI (σ:=(List Int) × (List Int)) (fun st=>(zz126 g_ st.1 st.2 [(2,.O back_),(3,.B 4 0),(7,.S 6),(8,.S 9)])) (fun n st=>z67_l2 N g_ back_ n st.1 st.2) (r:=r) (fun _=>rfl) ?_ (fun ih=>?_)
 ·intro n12 ih30
  rintro ⟨g,i⟩ h
  replace h:z67_l2 N g_ back_ (n12+1) g i=some r:=h
  unfold z67_l2 at h
  refine wq (wV (zz126 g_ g i [(2,.O back_),(3,.B 4 0),(7,.S 6),(8,.S 9),(24,.O (decide ((i.length:Int) > 0)))]) J 3 ?_)
  obtain ⟨K,h⟩|⟨K,h⟩:=oc' h
  ·exact wf K Q (wz rfl (wU (j1 g h)))
  refine wt K Q (wi (wq (wo (wV (zz126 g_ g i [(2,.O back_),(3,.B 4 0),(7,.S 6),(8,.S 9),(28,.S 2),(29,.I (g_.Edges.length:Int)),(30,.I 0)]) J 4 ?_))))
  refine wC (σ:=(List Int) × (List Int)) (fun st=>(zz166 g_ st.1 st.2 [(2,.O back_),(3,.B 4 0),(7,.S 6),(8,.S 10)])) (fun st=>z67_k3 (z67_l2 N g_ back_ n12) st.1 st.2=some r) ?_ (fun j49=>?_)
  ·rintro ⟨j,k⟩ h
   replace h:z67_k3 (z67_l2 N g_ back_ n12) j k=some r:=h
   unfold z67_k3 at h
   refine wb (wg (ws J 1 Q ?_))
   obtain ⟨m,o,h⟩:=ob h
   exact WPr.vw J (l:=some (.i64,1)) (h:=none) o Q Q Q Q Q Q Q Q Q Q (wx ⟨[(2,.O back_),(3,.B 4 0),(7,.S 6),(8,.S 11)],[(4,.box (cC4 0 1 2 3 g_) 27),(6,.own (rI .i64) j true),(10,.own (rI .i64) k true)],(vV4 0 1 2 3 g_ [(11,.vw 10 (some 1) none ((rI .i64)).sz)]),12⟩ J 1 (wn (WP.stl 11 o Q Q Q (wu [(9,.sl 11)] (ih30 (j,m) h) Q Q Q Q))))
  refine wo ?_
  refine wI (σ:=(List Int) × (List Int) × Int) (fun st=>(zz166 g_ st.1 st.2.1 [(2,.O back_),(3,.B 4 0),(7,.S 6),(8,.S 10),(28,.S 2),(29,.I (g_.Edges.length:Int)),(30,.I st.2.2)])) (fun n st=>z67_l4 g_ back_ (z67_l2 N g_ back_ n12) n st.1 st.2.1 st.2.2) (r:=r) (fun _=>rfl) ?_ (fun ih=>?_)
  ·intro n14 ih54
   rintro ⟨p,q,s⟩ h
   replace h:z67_l4 g_ back_ (z67_l2 N g_ back_ n12) (n14+1) p q s=some r:=h
   unfold z67_l4 at h
   refine wR J 1 Q (wq ?_)
   obtain ⟨K,h⟩|⟨K,h⟩:=oc' h
   ·exact wf K Q (wz rfl (wU (j49 (p,q) h)))
   refine wt K Q (wi (wq (wo (wq (wg ?_)))))
   obtain ⟨t,u,h⟩:=ob h
   refine wj oO2 J u Q Q Q Q Q Q Q Q Q (wx ⟨[(2,.O back_),(3,.B 4 0),(7,.S 6),(8,.S 10),(10,.B 12 0),(28,.S 2),(29,.I (g_.Edges.length:Int)),(30,.I s)],[(4,.box (cC4 0 1 2 3 g_) 27),(6,.own (rI .i64) p true),(10,.own (rI .i64) q true),(12,.box (cC2 t) 43)],(vV4 0 1 2 3 g_ []),13⟩ J 3 (wn (wq (wQ (by kernel_rfl) (by kernel_rfl) (qx (zz127 g_ p q [(2,.O back_),(3,.B 4 0),(7,.S 6),(8,.S 10),(11,.I t.From),(12,.I t.To),(28,.S 2),(29,.I (g_.Edges.length:Int)),(30,.I s)]) J 6 (qn (wq (wR J 1 Q ?_))))))))
   refine wC (σ:=Int × Int) (fun st=>(zz127 g_ p q [(2,.O back_),(3,.B 4 0),(7,.S 6),(8,.S 10),(11,.I st.1),(12,.I st.2),(28,.S 2),(29,.I (g_.Edges.length:Int)),(30,.I s)])) (fun st=>z67_k5 p q s (z67_l4 g_ back_ (z67_l2 N g_ back_ n12) n14) st.1 st.2=some r) ?_ (fun j57=>?_)
   ·rintro ⟨v,x⟩ h
    replace h:z67_k5 p q s (z67_l4 g_ back_ (z67_l2 N g_ back_ n12) n14) v x=some r:=h
    unfold z67_k5 at h
    refine wq (wg (ws J 2 Q ?_))
    obtain ⟨y,z,h⟩:=ob h
    refine wX J z Q Q Q Q Q Q Q Q Q (xw (rg 3 9) ⟨[(2,.O back_),(3,.B 4 0),(7,.S 6),(8,.S 10),(11,.I v),(12,.I x),(28,.S 2),(29,.I (g_.Edges.length:Int)),(30,.I s),(41,.I v),(43,.P 13 0)],[(4,.box (cC4 0 1 2 3 g_) 27),(6,.own (rI .i64) p true),(10,.own (rI .i64) q true)],(vV4 0 1 2 3 g_ [(13,.el 10 (((0:Int)).toNat * ((rI .i64)).sz))]),14⟩ J 0 (wd (oI .i64) J z Q Q Q Q Q Q Q Q Q Q (xw (rg 6 6) (zz167 g_ p q [(2,.O back_),(3,.B 4 0),(7,.S 6),(8,.S 10),(11,.I v),(12,.I x),(28,.S 2),(29,.I (g_.Edges.length:Int)),(30,.I s),(46,.O (v==y))]) J 2 ?_)))
    obtain ⟨K,h⟩|⟨K,h⟩:=oc' h
    ·exact wy 46 K Q (wx (zz167 g_ p q [(2,.O back_),(3,.B 4 0),(7,.S 6),(8,.S 10),(11,.I v),(12,.I x),(28,.S 2),(29,.I (g_.Edges.length:Int)),(30,.I s),(52,.O false)]) J 6 (wn (wf Q Q (wi (wb (wS J 2 Q (wU (ih54 (p,q,(w64 (s+1))) h))))))))
    refine wy 46 K Q (ws J 2 Q ?_)
    obtain ⟨A,C,h⟩:=ob h
    refine wX J C Q Q Q Q Q Q Q Q Q (xw [9,10,11] ⟨[(2,.O back_),(3,.B 4 0),(7,.S 6),(8,.S 10),(11,.I v),(12,.I x),(28,.S 2),(29,.I (g_.Edges.length:Int)),(30,.I s),(46,.O true),(49,.P 14 0)],[(4,.box (cC4 0 1 2 3 g_) 27),(6,.own (rI .i64) p true),(10,.own (rI .i64) q true)],(vV4 0 1 2 3 g_ [(14,.el 6 ((x).toNat * ((rI .i64)).sz))]),15⟩ J 0 (wd (oI .i64) J C Q Q Q Q Q Q Q Q Q Q (wx (zz168 g_ p q [(2,.O back_),(3,.B 4 0),(7,.S 6),(8,.S 10),(11,.I v),(12,.I x),(28,.S 2),(29,.I (g_.Edges.length:Int)),(30,.I s),(52,.O (decide (A < 0)))]) J 2 (wn ?_))))
    obtain ⟨K,h⟩|⟨K,h⟩:=oc' h
    ·exact wf K Q (wi (wb (wS J 2 Q (wU (ih54 (p,q,(w64 (s+1))) h)))))
    refine wt K Q (wq (wg (xw [4,5,6,7,8] (zz168 g_ p q [(2,.O back_),(3,.B 4 0),(7,.S 6),(8,.S 10),(12,.I x),(28,.S 2),(29,.I (g_.Edges.length:Int)),(30,.I s),(53,.S 6),(54,.I x),(55,.S 6),(56,.I v)]) J 4 ?_)))
    obtain ⟨D,G,h⟩:=ob h
    refine wX J G Q Q Q Q Q Q Q Q Q (wd (oI .i64) J G Q Q Q Q Q Q Q Q Q Q (xw [7,8] ⟨[(2,.O back_),(3,.B 4 0),(7,.S 6),(8,.S 10),(12,.I x),(28,.S 2),(29,.I (g_.Edges.length:Int)),(30,.I s),(53,.S 6),(54,.I x),(59,.I (w64 (D+1)))],[(4,.box (cC4 0 1 2 3 g_) 27),(6,.own (rI .i64) p true),(10,.own (rI .i64) q true)],(vV4 0 1 2 3 g_ []),16⟩ J 1 ?_))
    obtain ⟨H,R,h⟩:=ob h
    refine wX J R Q Q Q Q Q Q Q Q Q (WPr.sto (oI .i64) J (w64 (D+1)) R Q Q Q Q Q Q Q Q Q Q (by exact rfl) rfl (wn (wg (xw [2,3,4] ⟨[(2,.O back_),(3,.B 4 0),(7,.S 6),(28,.S 2),(29,.I (g_.Edges.length:Int)),(30,.I s),(61,.S 10),(62,.I x)],[(4,.box (cC4 0 1 2 3 g_) 27),(6,.own (rI .i64) (setL' p x (w64 (D+1))) true),(10,.own (rI .i64) q true)],(vV4 0 1 2 3 g_ []),17⟩ J 2 (WPr.bs (cs:=[.I x]) (oI .i64) J ([x]:List Int) Q Q Q Q Q Q (by kernel_rfl) (by exact (an Q Q)) rfl ?_)))))
    obtain ⟨T,U,h⟩:=ob h
    exact WPr.app J U (by exact (srcO rfl)) Q Q Q Q Q Q Q Q Q Q (wx ⟨[(2,.O back_),(3,.B 4 0),(7,.S 6),(8,.S 18),(28,.S 2),(29,.I (g_.Edges.length:Int)),(30,.I s)],[(4,.box (cC4 0 1 2 3 g_) 27),(6,.own (rI .i64) (setL' p x (w64 (D+1))) true),(18,.own (rI .i64) T true)],(vV4 0 1 2 3 g_ []),19⟩ J 1 (wn (wb (wS J 2 Q (wu [(10,.sl 18)] (ih54 ((setL' p x (w64 (D+1))),T,(w64 (s+1))) h) Q Q Q Q)))))
   obtain ⟨K,h⟩|⟨K,h⟩:=oc h
   ·exact wt K Q (wT (zz127 g_ p q [(2,.O back_),(3,.B 4 0),(7,.S 6),(8,.S 10),(11,.I t.To),(12,.I t.From),(28,.S 2),(29,.I (g_.Edges.length:Int)),(30,.I s)]) J 4 (wU (j57 (t.To,t.From) h)))
   exact wf K Q (wi (wU (j57 (t.From,t.To) h)))
  exact wu [(10,.sl 9)] (ih N (g,i,0) h) Q Q Q Q
 exact wu [(9,.sl 8)] (ih N ((setL' x1 from_ 0),([from_]:List Int)) h) Q Q Q Q
theorem z123_ct (N:Nat) (s_:(List Int)) (v_:Int) (r:Int) (h:z123 N s_ v_=some r) :
 Fn Tryz.prog 123 ⟨1,[.S 0,.I v_],[(0,.sl (rI .i64) s_)],[],1,.I r,[],[]⟩:=by
 refine wF func123 Q Q (fun E F w=>?_)
 unfold z123 at h
 refine wR J 1 Q (wq (wV (zz15 s_ [(0,.S 0),(1,.I v_),(4,.I 0),(7,.I (s_.length:Int)),(8,.I 0)]) J 3 ?_))
 refine wC (σ:=Unit) (fun st=>(zz15 s_ [])) (fun st=>z123_k1=some r) ?_ (fun j1=>?_)
 ·intro _ h
  replace h:z123_k1=some r:=h
  unfold z123_k1 at h
  refine wR J 1 Q ?_
  cases h
  exact we J func123 [] Q Q Q Q
 refine wo ?_
 refine wI (σ:=Int) (fun st=>(zz15 s_ [(0,.S 0),(1,.I v_),(7,.I (s_.length:Int)),(8,.I st)])) (fun n st=>z123_l2 s_ v_ n st) (r:=r) (fun _=>rfl) ?_ (fun ih=>?_)
 ·intro n2 ih3
  intro c h
  replace h:z123_l2 s_ v_ (n2+1) c=some r:=h
  unfold z123_l2 at h
  refine wR J 1 Q (wq ?_)
  obtain ⟨K,h⟩|⟨K,h⟩:=oc' h
  ·exact wf K Q (wz rfl (wU (j1 () h)))
  refine wt K Q (wi (wq (wo (wV (zz15 s_ [(0,.S 0),(1,.I v_),(5,.I c),(7,.I (s_.length:Int)),(8,.I c)]) J 2 (wq (wg (xw [3,4,5] (zz15 s_ [(0,.S 0),(1,.I v_),(5,.I c),(7,.I (s_.length:Int)),(8,.I c),(11,.I v_),(12,.S 0),(13,.I c)]) J 3 ?_)))))))
  obtain ⟨x9,d,h⟩:=ob h
  refine wj (oI .i64) J d Q Q Q Q Q Q Q Q Q (wx (zz80 s_ [(0,.S 0),(1,.I v_),(5,.I c),(7,.I (s_.length:Int)),(8,.I c),(16,.O (v_==x9))]) J 2 (wn ?_))
  obtain ⟨K,h⟩|⟨K,h⟩:=oc h
  ·refine wt K Q (wR J 2 Q ?_)
   cases h
   exact we J func123 [] Q Q Q Q
  exact wf K Q (wi (wb (wS J 2 Q (wU (ih3 (w64 (c+1)) h)))))
 exact wU (ih N 0 h)
theorem z66_ct (N:Nat) (s_:(List Int)) (v_:Int) (r:Bool) (h:z66 N s_ v_=some r) :
 Fn Tryz.prog 66 ⟨1,[.S 0,.I v_],[(0,.sl (rI .i64) s_)],[],1,.O r,[],[]⟩:=by
 refine wF func66 Q Q (fun E F w=>?_)
 unfold z66 at h
 refine wR J 1 Q (wq (wg (xw [2,3,4] (zz15 s_ [(5,.S 0),(6,.I v_)]) J 2 ?_)))
 obtain ⟨x1,c,h⟩:=ob h
 refine wc (z123_ct N s_ v_ _ c) [(0,.sl 0)] [] Q Q Q Q Q Q Q Q (.inl rfl) rfl (wx (zz15 s_ [(4,.O (decide (x1≥0)))]) J 2 (wn ?_))
 cases h
 exact we J func66 [] Q Q Q Q
theorem z22_ct (N:Nat) (g_:T4) (r:Bool) (h:z22 N g_=some r) :
 Fn Tryz.prog 22 ⟨4,[.a (cC4 0 1 2 3 g_)],(vV4 0 1 2 3 g_ []),[],4,.O r,[],[]⟩:=by
 refine wF func22 Q Q (fun E F w=>?_)
 unfold z22 at h
 refine wR J 2 Q (wq (wg (xw (rg 1 35) (zz2 g_ [(1,.B 4 0),(3,.a (cC4 0 1 2 3 g_))]) J 1 ?_)))
 obtain ⟨x1,c,h⟩:=ob h
 refine wc (z61_ct N g_ _ c) [(0,.sl 0),(1,.sl 1),(2,.sl 2),(3,.sl 3)] [] Q Q Q Q Q Q Q Q (.inl rfl) rfl (xw (rg 3 33) (zz2 g_ [(1,.B 4 0),(5,.O x1)]) J 1 ?_)
 obtain ⟨K,h⟩|⟨K,h⟩:=oc' h
 ·refine wy 5 K Q (wx (zz6 g_ [(2,.O false)]) J 33 (wn ?_))
  cases h
  exact we J func22 [] Q Q Q Q
 refine wy 5 K Q (ws J 1 Q ?_)
 obtain ⟨x2,d,h⟩:=ob h
 refine wc (z62_ct N g_ _ d) [(0,.sl 0),(1,.sl 1),(2,.sl 2),(3,.sl 3)] [] Q Q Q Q Q Q Q Q (.inl rfl) rfl (xw (rg 7 29) (zz2 g_ [(1,.B 4 0),(9,.O x2)]) J 2 ?_)
 obtain ⟨K,h⟩|⟨K,h⟩:=oc' h
 ·refine wy 9 K Q (wx (zz6 g_ [(2,.O false)]) J 29 (wn ?_))
  cases h
  exact we J func22 [] Q Q Q Q
 refine wy 9 K Q (ws J 2 Q ?_)
 obtain ⟨x3,e,h⟩:=ob h
 refine wc (z63_ct N g_.Decls _ e) [(0,.sl 1)] [] Q Q Q Q Q Q Q Q (.inl rfl) rfl (xw (rg 12 24) (zz2 g_ [(1,.B 4 0),(14,.O x3)]) J 2 ?_)
 obtain ⟨K,h⟩|⟨K,h⟩:=oc' h
 ·refine wy 14 K Q (wx (zz6 g_ [(2,.O false)]) J 24 (wn ?_))
  cases h
  exact we J func22 [] Q Q Q Q
 refine wy 14 K Q (ws J 1 Q ?_)
 obtain ⟨x4,f,h⟩:=ob h
 refine wc (z64_ct N g_ _ f) [(0,.sl 0),(1,.sl 1),(2,.sl 2),(3,.sl 3)] [] Q Q Q Q Q Q Q Q (.inl rfl) rfl (xw (rg 16 20) (zz2 g_ [(1,.B 4 0),(18,.O x4)]) J 2 ?_)
 obtain ⟨K,h⟩|⟨K,h⟩:=oc' h
 ·refine wy 18 K Q (wx (zz6 g_ [(2,.O false)]) J 20 (wn ?_))
  cases h
  exact we J func22 [] Q Q Q Q
 refine wy 18 K Q (ws J 1 Q ?_)
 obtain ⟨x5,g,h⟩:=ob h
 refine wc (z65_ct N g_ _ g) [(0,.sl 0),(1,.sl 1),(2,.sl 2),(3,.sl 3)] [] Q Q Q Q Q Q Q Q (.inl rfl) rfl (xw (rg 20 16) (zz2 g_ [(1,.B 4 0),(22,.O x5)]) J 2 ?_)
 obtain ⟨K,h⟩|⟨K,h⟩:=oc' h
 ·refine wy 22 K Q (wx (zz6 g_ [(2,.O false)]) J 16 (wn ?_))
  cases h
  exact we J func22 [] Q Q Q Q
 refine wy 22 K Q (xw (rg 23 13) (zz2 g_ [(1,.B 4 0),(22,.O true),(23,.a (cC4 0 1 2 3 g_)),(25,.I g_.Start)]) J 3 ?_)
 obtain ⟨x6,i,h⟩:=ob h
 refine wc (z67_ct N g_ g_.Start false _ i) [(0,.sl 0),(1,.sl 1),(2,.sl 2),(3,.sl 3)] [] Q Q Q Q Q Q Q Q (.inl rfl) rfl (xw (rg 24 12) (zz27 g_ x6 [(1,.B 4 0),(22,.O true),(26,.S 5)]) J 0 ?_)
 obtain ⟨x7,j,h⟩:=ob h
 refine wc (z66_ct N x6 (-1) _ j) [(0,.sl 5)] [5] Q Q Q Q Q Q Q Q (.inr ⟨rfl,trivial⟩) rfl (xw (rg 28 8) (zz43 g_ [(1,.B 4 0),(30,.O (!x7))]) J 3 ?_)
 obtain ⟨K,h⟩|⟨K,h⟩:=oc' h
 ·refine wy 30 K Q (wx ⟨[(2,.O false)],[],(vV4 0 1 2 3 g_ []),6⟩ J 8 (wn ?_))
  cases h
  exact we J func22 [] Q Q Q Q
 refine wy 30 K Q (xw [31,32,33,34,35] ⟨[(30,.O true),(31,.a (cC4 0 1 2 3 g_)),(33,.I g_.End)],[],(vV4 0 1 2 3 g_ []),6⟩ J 3 ?_)
 obtain ⟨x8,k,h⟩:=ob h
 refine wc (z67_ct N g_ g_.End true _ k) [(0,.sl 0),(1,.sl 1),(2,.sl 2),(3,.sl 3)] [] Q Q Q Q Q Q Q Q (.inl rfl) rfl (xw [32,33,34,35] ⟨[(30,.O true),(34,.S 6)],[(6,.own (rI .i64) x8 true)],(vV4 0 1 2 3 g_ []),7⟩ J 0 ?_)
 obtain ⟨x9,l,h⟩:=ob h
 refine wc (z66_ct N x8 (-1) _ l) [(0,.sl 6)] [6] Q Q Q Q Q Q Q Q (.inr ⟨rfl,trivial⟩) rfl (wx ⟨[(2,.O (!x9))],[],(vV4 0 1 2 3 g_ []),7⟩ J 3 (wn ?_))
 cases h
 exact we J func22 [] Q Q Q Q
theorem z111_ct (N:Nat) (x_:Int) (r:Bool) (h:z111 N x_=some r) :
 Fn Tryz.prog 111 ⟨0,[.I x_],[],[],0,.O r,[],[]⟩:=by
 refine wF func111 Q Q (fun E F w=>?_)
 unfold z111 at h
 refine wR J 1 Q (wV (zz0 [(2,.O (x_ != x_))]) J 4 ?_)
 cases h
 exact we J func111 [] Q Q Q Q
theorem z50_ct (N:Nat) (x_:Int) (y_:Int) (r:Int) (h:z50 N x_ y_=some r) :
 Fn Tryz.prog 50 ⟨0,[.I x_,.I y_],[],[],0,.I r,[],[]⟩:=by
 refine wF func50 Q Q (fun E F w=>?_)
 unfold z50 at h
 refine wR J 1 Q (wq (wg (ws J 1 Q ?_)))
 obtain ⟨x1,c,h⟩:=ob h
 refine wc (z111_ct N x_ _ c) [] [] Q Q Q Q Q Q Q Q (.inl rfl) rfl (wx (zz0 [(0,.I x_),(1,.I y_),(4,.I 0),(5,.O x1)]) J 1 (wn (wq (wg (ws J 1 Q ?_)))))
 obtain ⟨x2,d,h⟩:=ob h
 refine wc (z111_ct N y_ _ d) [] [] Q Q Q Q Q Q Q Q (.inl rfl) rfl (wx (zz0 [(0,.I x_),(1,.I y_),(4,.I 0),(5,.O x1),(6,.O x2)]) J 1 (wn (wq (wR J 1 Q ?_))))
 obtain ⟨K,h⟩|⟨K,h⟩:=oc h
 ·refine wt K Q (wq (wR J 1 Q ?_))
  obtain ⟨K,h⟩|⟨K,h⟩:=oc h
  ·refine wt K Q (wV (zz0 [(4,.I 0)]) J 1 ?_)
   cases h
   exact we J func50 [] Q Q Q Q
  refine wf K Q (wi (wV (zz0 [(4,.I (-1))]) J 1 ?_))
  cases h
  exact we J func50 [] Q Q Q Q
 refine wf K Q (wi (wq (wR J 1 Q ?_)))
 obtain ⟨K,h⟩|⟨K,h⟩:=oc h
 ·refine wt K Q (wV (zz0 [(4,.I 1)]) J 1 ?_)
  cases h
  exact we J func50 [] Q Q Q Q
 refine wf K Q (wi (wq (wV (zz0 [(0,.I x_),(1,.I y_),(4,.I 0),(16,.O (decide (x_ < y_)))]) J 3 ?_)))
 obtain ⟨K,h⟩|⟨K,h⟩:=oc h
 ·refine wt K Q (wR J 1 Q ?_)
  cases h
  exact we J func50 [] Q Q Q Q
 refine wf K Q (wi (wq (wV (zz0 [(4,.I 0),(19,.O (decide (x_ > y_)))]) J 3 ?_)))
 obtain ⟨K,h⟩|⟨K,h⟩:=oc h
 ·refine wt K Q (wR J 1 Q ?_)
  cases h
  exact we J func50 [] Q Q Q Q
 refine wf K Q (wi (wR J 1 Q ?_))
 cases h
 exact we J func50 [] Q Q Q Q
theorem z49_ct (N:Nat) (vals_:(List Int)) (r:Int) (h:z49 N vals_=some r) :
 Fn Tryz.prog 49 ⟨1,[.S 0],[(0,.sl (rI .i64) vals_)],[],1,.I r,[],[]⟩:=by
 refine wF func49 Q Q (fun E F w=>?_)
 unfold z49 at h
 refine wR J 1 Q (wR J 1 Q (wq (wV (zz15 vals_ [(2,.I 0),(3,.I 0),(6,.S 0),(7,.I (vals_.length:Int)),(8,.I 0)]) J 3 ?_)))
 refine wC (σ:=Unit) (fun st=>(zz15 vals_ [(3,.I 0)])) (fun st=>z49_k1=some r) ?_ (fun j1=>?_)
 ·intro _ h
  replace h:z49_k1=some r:=h
  unfold z49_k1 at h
  refine wR J 2 Q ?_
  cases h
  exact we J func49 [] Q Q Q Q
 refine wo ?_
 refine wI (σ:=Int) (fun st=>(zz15 vals_ [(3,.I 0),(6,.S 0),(7,.I (vals_.length:Int)),(8,.I st)])) (fun n st=>z49_l2 vals_ n st) (r:=r) (fun _=>rfl) ?_ (fun ih=>?_)
 ·intro n2 ih3
  intro c h
  replace h:z49_l2 vals_ (n2+1) c=some r:=h
  unfold z49_l2 at h
  refine wR J 1 Q (wq ?_)
  obtain ⟨K,h⟩|⟨K,h⟩:=oc' h
  ·exact wf K Q (wz rfl (wU (j1 () h)))
  refine wt K Q (wi (wq (wo (wq (wg ?_)))))
  obtain ⟨x9,d,h⟩:=ob h
  refine wj (oI .i64) J d Q Q Q Q Q Q Q Q Q (wx (zz80 vals_ [(3,.I 0),(5,.I x9),(6,.S 0),(7,.I (vals_.length:Int)),(8,.I c)]) J 2 (wn (wV (zz80 vals_ [(3,.I 0),(5,.I x9),(6,.S 0),(7,.I (vals_.length:Int)),(8,.I c),(14,.O (x9 != 0))]) J 3 ?_)))
  obtain ⟨K,h⟩|⟨K,h⟩:=oc h
  ·refine wt K Q (wR J 2 Q ?_)
   cases h
   exact we J func49 [] Q Q Q Q
  exact wf K Q (wi (wb (wS J 2 Q (wU (ih3 (w64 (c+1)) h)))))
 exact wU (ih N 0 h)
theorem z48_8_ct (N:Nat) (i_:Int) (k_:Int) (c0_:T4) (r:Int) (h:z48_8 N i_ k_ c0_=some r) :
 Fn Tryz.prog 48 ⟨5,[.I i_,.I k_,.B 0 0],(vV4 1 2 3 4 c0_ []),[(0,.box (cC4 1 2 3 4 c0_) 27)],5,.I r,[],[(0,.box (cC4 1 2 3 4 c0_) 27)]⟩:=by
 refine wF func48 Q Q (fun E F w=>?_)
 unfold z48_8 at h
 refine wR J 1 Q (wq (wN (fun A1 c d=>?_)))
 have e:A1 0 (zz35 [(2,.B 0 0)] [(8,.B 0 6)]):=c _ _ (wL J)
 have f:A1 1 ⟨[(8,.B 0 6)],(vV4 1 2 3 4 c0_ []),[],[(0,.box (cC4 1 2 3 4 c0_) 27)],5,[(9,.S 3)],[],[],5⟩:=c _ _ (wL J)
 have g:A1 2 (zz35 [(0,.I i_)] [(10,.I i_)]):=c _ _ (wL J)
 obtain ⟨x4,i,h⟩:=ob h
 have j:A1 3 ⟨[(9,.S 3),(10,.I i_)],[(3,.sl rR2 c0_.Edges)],[],[],5,[(11,.P 5 0)],[(5,.pl (cC2 x4))],[],6⟩:=c _ _ (wO Q Q Q (fun _ _ _ _ _ _ _ k=>wj oO2 J i Q Q Q Q Q Q Q Q Q (k)) rfl)
 have l:A1 4 (zz103 x4 [(11,.P 5 0)] [(12,.P 5 1)]):=c _ _ (wL J)
 have m:A1 5 (zz103 x4 [(12,.P 5 1)] [(13,.a (cC6 x4.Act))]):=c _ _ (wL J)
 have o:A1 6 (zz3 [(2,.B 0 0)] [(14,.B 0 6)]):=c _ _ (wL J)
 have p:A1 7 ⟨[(14,.B 0 6)],(vV4 1 2 3 4 c0_ []),[],[(0,.box (cC4 1 2 3 4 c0_) 27)],6,[(15,.S 3)],[],[],6⟩:=c _ _ (wL J)
 have q:A1 8 (zz3 [(1,.I k_)] [(16,.I k_)]):=c _ _ (wL J)
 obtain ⟨s,u,h⟩:=ob h
 have v:A1 9 ⟨[(15,.S 3),(16,.I k_)],[(3,.sl rR2 c0_.Edges)],[],[],6,[(17,.P 6 0)],[(6,.pl (cC2 s))],[],7⟩:=c _ _ (wO Q Q Q (fun _ _ _ _ _ _ _ k=>wj oO2 J u Q Q Q Q Q Q Q Q Q (k)) rfl)
 have x:A1 10 (zz104 s [(17,.P 6 0)] [(18,.P 6 1)]):=c _ _ (wL J)
 have y:A1 11 (zz104 s [(18,.P 6 1)] [(19,.a (cC6 s.Act))]):=c _ _ (wL J)
 have z:A1 12 ⟨[],[],[],[],7,[(6,.B 7 0)],[],[(7,.box [.I 0,.I 0,.I 0] 37)],8⟩:=c _ _ (wL J)
 have A:A1 13 ⟨[],[],[],[],8,[(7,.B 8 0)],[],[(8,.box [.I 0,.I 0,.I 0] 37)],9⟩:=c _ _ (wL J)
 have C:A1 14 ⟨[(6,.B 7 0),(13,.a (cC6 x4.Act))],[],[(7,.box [.I 0,.I 0,.I 0] 37)],[],9,[],[],[(7,.box (cC6 x4.Act) 37)],9⟩:=c _ _ (wL J)
 have D:A1 15 ⟨[(7,.B 8 0),(19,.a (cC6 s.Act))],[],[(8,.box [.I 0,.I 0,.I 0] 37)],[],9,[],[],[(8,.box (cC6 s.Act) 37)],9⟩:=c _ _ (wL J)
 refine wD (t:=⟨[(5,.I 0),(6,.B 7 0),(7,.B 8 0)],[(0,.box (cC4 1 2 3 4 c0_) 27),(7,.box (cC6 x4.Act) 37),(8,.box (cC6 s.Act) 37)],(vV4 1 2 3 4 c0_ []),9⟩) [0,1,0,7,15,31,0,64,0,448,960,1984,0,0,12351,32767] (.cons (d _ _ e) (.cons (d _ _ f) (.cons (d _ _ g) (.cons (d _ _ j) (.cons (d _ _ l) (.cons (d _ _ m) (.cons (d _ _ o) (.cons (d _ _ p) (.cons (d _ _ q) (.cons (d _ _ v) (.cons (d _ _ x) (.cons (d _ _ y) (.cons (d _ _ z) (.cons (d _ _ A) (.cons (d _ _ C) (.cons (d _ _ D) .nil)))))))))))))))) (by kernel_rfl) (by kernel_rfl) (by kernel_rfl) (by kernel_rfl) (wq (wN (fun A2 G H=>?_)))
 have R:A2 0 (zz28 [(6,.B 7 0)] [(20,.B 7 1)]):=G _ _ (wL J)
 have T:A2 1 ⟨[(20,.B 7 1)],[],[],[(7,.box (cC6 x4.Act) 37)],9,[(21,.I x4.Act.To)],[],[],9⟩:=G _ _ (wL J)
 have U:A2 2 (zz28 [(7,.B 8 0)] [(22,.B 8 1)]):=G _ _ (wL J)
 have X:A2 3 ⟨[(22,.B 8 1)],[],[],[(8,.box (cC6 s.Act) 37)],9,[(23,.I s.Act.To)],[],[],9⟩:=G _ _ (wL J)
 obtain ⟨Y,Z,h⟩:=ob h
 have a0:A2 4 (zz28 [(21,.I x4.Act.To),(23,.I s.Act.To)] [(24,.I Y)]):=G _ _ (wO Q Q Q (fun _ _ _ _ _ _ _ k=>wc (z50_ct N x4.Act.To s.Act.To _ Z) [] [] Q Q Q Q Q Q Q Q (.inl rfl) rfl (k)) rfl)
 have b0:A2 5 (zz28 [(6,.B 7 0)] [(25,.B 7 2)]):=G _ _ (wL J)
 have c0:A2 6 ⟨[(25,.B 7 2)],[],[],[(7,.box (cC6 x4.Act) 37)],9,[(26,.I x4.Act.Label)],[],[],9⟩:=G _ _ (wL J)
 have d0:A2 7 (zz28 [(7,.B 8 0)] [(27,.B 8 2)]):=G _ _ (wL J)
 have e0:A2 8 ⟨[(27,.B 8 2)],[],[],[(8,.box (cC6 s.Act) 37)],9,[(28,.I s.Act.Label)],[],[],9⟩:=G _ _ (wL J)
 obtain ⟨f0,g0,h⟩:=ob h
 have i0:A2 9 (zz28 [(26,.I x4.Act.Label),(28,.I s.Act.Label)] [(29,.I f0)]):=G _ _ (wO Q Q Q (fun _ _ _ _ _ _ _ k=>wc (z50_ct N x4.Act.Label s.Act.Label _ g0) [] [] Q Q Q Q Q Q Q Q (.inl rfl) rfl (k)) rfl)
 have j0:A2 10 ⟨[(24,.I Y),(29,.I f0)],[],[],[],9,[(30,.S 9)],[],[(9,.own (rI .i64) ([Y,f0]:List Int) true)],10⟩:=G _ _ (wO Q Q Q (fun _ _ _ _ _ _ _ k=>WPr.bs (cs:=[.I Y,.I f0]) (oI .i64) J ([Y,f0]:List Int) Q Q Q Q Q Q (by kernel_rfl) (by exact (an rfl (an Q Q))) rfl (k)) rfl)
 obtain ⟨k0,l0,h⟩:=ob h
 have m0:A2 11 ⟨[(30,.S 9)],[],[],[(9,.own (rI .i64) ([Y,f0]:List Int) true)],10,[(31,.I k0)],[],[],10⟩:=G _ _ (wO Q Q Q (fun _ _ _ _ _ _ _ k=>wc (z49_ct N ([Y,f0]:List Int) _ l0) [(0,.sl 9)] [9] Q Q Q Q Q Q Q Q (.inr ⟨rfl,trivial⟩) rfl (k)) rfl)
 have o0:A2 12 (zz20 [(31,.I k0)] [(5,.I k0)]):=G _ _ (wL J)
 refine wD (t:=⟨[(5,.I k0)],[(0,.box (cC4 1 2 3 4 c0_) 27)],(vV4 1 2 3 4 c0_ []),10⟩) [0,1,0,4,15,0,32,0,128,511,1023,2047,4095] (.cons (H _ _ R) (.cons (H _ _ T) (.cons (H _ _ U) (.cons (H _ _ X) (.cons (H _ _ a0) (.cons (H _ _ b0) (.cons (H _ _ c0) (.cons (H _ _ d0) (.cons (H _ _ e0) (.cons (H _ _ i0) (.cons (H _ _ j0) (.cons (H _ _ m0) (.cons (H _ _ o0) .nil))))))))))))) (by kernel_rfl) (by kernel_rfl) (by kernel_rfl) (by kernel_rfl) ?_
 cases h
 exact we J func48 [] Q Q Q Q
theorem z146_9_ct (N:Nat) (data_:(List Int)) (a_:Int) (b_:Int) (c0_:T4) (r:(List Int)) (h:z146_9 N data_ a_ b_ c0_=some r) :
 Fn Tryz.prog 146 ⟨6,[.S 0,.I a_,.I b_,.c (.cl 48 [] [1])],(vV4 2 3 4 5 c0_ []),[(0,.own (rI .i64) data_ false),(1,.box (cC4 2 3 4 5 c0_) 27)],6,.t [],[],[(0,.own (rI .i64) r false),(1,.box (cC4 2 3 4 5 c0_) 27)]⟩:=by
 refine wF func146 Q Q (fun E F w=>?_)
 unfold z146_9 at h
 refine wV (zz1 data_ c0_ [(0,.S 0),(1,.I a_),(2,.I b_),(3,.c (.cl 48 [] [1])),(8,.I (w64 (a_+1)))]) J 3 ?_
 refine wC (σ:=(List Int)) (fun st=>(zz1 st c0_ [])) (fun st=>z146_9_k1 st=some r) ?_ (fun j1=>?_)
 ·intro d h
  replace h:z146_9_k1 d=some r:=h
  unfold z146_9_k1 at h
  cases h
  exact WP.fin J func146 [] Q Q Q Q
 refine wo ?_
 refine wI (σ:=(List Int) × Int) (fun st=>(zz1 st.1 c0_ [(0,.S 0),(1,.I a_),(2,.I b_),(3,.c (.cl 48 [] [1])),(8,.I st.2)])) (fun n st=>z146_9_l2 N a_ b_ c0_ n st.1 st.2) (r:=r) (fun _=>rfl) ?_ (fun ih=>?_)
 ·intro n12 ih12
  rintro ⟨e,f⟩ h
  replace h:z146_9_l2 N a_ b_ c0_ (n12+1) e f=some r:=h
  unfold z146_9_l2 at h
  refine wq (wV (zz1 e c0_ [(0,.S 0),(1,.I a_),(2,.I b_),(3,.c (.cl 48 [] [1])),(8,.I f),(14,.O (decide (f < b_)))]) J 3 ?_)
  obtain ⟨K,h⟩|⟨K,h⟩:=oc' h
  ·exact wf K Q (wz rfl (wU (j1 e h)))
  refine wt K Q (wi (wq (wo (wR J 2 Q ?_))))
  refine wC (σ:=(List Int)) (fun st=>(zz1 st c0_ [(0,.S 0),(1,.I a_),(2,.I b_),(3,.c (.cl 48 [] [1])),(8,.I f)])) (fun st=>z146_9_k3 f (z146_9_l2 N a_ b_ c0_ n12) st=some r) ?_ (fun j19=>?_)
  ·intro g h
   replace h:z146_9_k3 f (z146_9_l2 N a_ b_ c0_ n12) g=some r:=h
   unfold z146_9_k3 at h
   exact wb (wT (zz1 g c0_ [(0,.S 0),(1,.I a_),(2,.I b_),(3,.c (.cl 48 [] [1])),(8,.I (w64 (f+1)))]) J 3 (wU (ih12 (g,(w64 (f+1))) h)))
  refine wo ?_
  refine wI (σ:=(List Int) × Int) (fun st=>(zz1 st.1 c0_ [(0,.S 0),(1,.I a_),(2,.I b_),(3,.c (.cl 48 [] [1])),(8,.I f),(9,.I st.2)])) (fun n st=>z146_9_l4 N a_ c0_ f (z146_9_l2 N a_ b_ c0_ n12) n st.1 st.2) (r:=r) (fun _=>rfl) ?_ (fun ih=>?_)
  ·intro n14 ih21
   rintro ⟨i,j⟩ h
   replace h:z146_9_l4 N a_ c0_ f (z146_9_l2 N a_ b_ c0_ n12) (n14+1) i j=some r:=h
   unfold z146_9_l4 at h
   refine wq (wq (wN (fun l m o=>?_)))
   have p:l 0 (zz3 [(9,.I j)] [(18,.I j)]):=m _ _ (wL J)
   have q:l 1 (zz3 [(1,.I a_)] [(19,.I a_)]):=m _ _ (wL J)
   have s:l 2 (zz3 [(18,.I j),(19,.I a_)] [(20,.O (decide (j > a_)))]):=m _ _ (wL J)
   have v:l 3 (zz3 [(20,.O (decide (j > a_)))] [(21,.O (decide (j > a_)))]):=m _ _ (wL J)
   obtain ⟨K,h⟩|⟨K,h⟩:=oc' h
   ·have x:=m _ _ (LS.kb K Q (o _ _ v))
    have y:l 4 (zz3 [(21,.O false)] [(22,.u)]):=m _ _ (LS.skip Q Q Q (.inr ⟨_,rfl,rfl⟩) Q Q)
    have z:l 5 (zz3 [(21,.O false)] [(23,.u)]):=m _ _ (LS.skip Q Q Q (.inr ⟨_,rfl,rfl⟩) Q Q)
    have A:l 6 (zz3 [(21,.O false)] [(24,.u)]):=m _ _ (LS.skip Q Q Q (.inr ⟨_,rfl,rfl⟩) Q Q)
    have C:l 7 (zz3 [(21,.O false)] [(25,.u)]):=m _ _ (LS.skip Q Q Q (.inr ⟨_,rfl,rfl⟩) Q Q)
    have D:l 8 (zz3 [(21,.O false)] [(26,.u)]):=m _ _ (LS.skip Q Q Q (.inr ⟨_,rfl,rfl⟩) Q Q)
    have G:l 9 (zz3 [(21,.O false)] [(27,.u)]):=m _ _ (LS.skip Q Q Q (.inr ⟨_,rfl,rfl⟩) Q Q)
    have H:l 10 (zz3 [(21,.O false)] [(28,.u)]):=m _ _ (LS.skip Q Q Q (.inr ⟨_,rfl,rfl⟩) Q Q)
    have R:l 11 (zz3 [(21,.O false)] [(29,.u)]):=m _ _ (LS.skip Q Q Q (.inr ⟨_,rfl,rfl⟩) Q Q)
    have T:l 12 (zz3 [(21,.O false)] [(30,.u)]):=m _ _ (LS.skip Q Q Q (.inr ⟨_,rfl,rfl⟩) Q Q)
    have U:l 13 (zz3 [(21,.O false)] [(31,.u)]):=m _ _ (LS.skip Q Q Q (.inr ⟨_,rfl,rfl⟩) Q Q)
    have X:l 14 (zz3 [(21,.O false)] [(32,.u)]):=m _ _ (LS.skip Q Q Q (.inr ⟨_,rfl,rfl⟩) Q Q)
    have Y:l 15 (zz3 [(21,.O false)] [(33,.u)]):=m _ _ (LS.skip Q Q Q (.inr ⟨_,rfl,rfl⟩) Q Q)
    have Z:l 16 (zz3 [(21,.O false),(33,.u)] [(34,.O false)]):=m _ _ (wL J)
    exact wD (t:=(zz1 i c0_ [(0,.S 0),(1,.I a_),(2,.I b_),(3,.c (.cl 48 [] [1])),(8,.I f),(9,.I j),(34,.O false)])) [0,0,3,7,15,15,15,111,239,15,15,1039,3599,7695,16383,32767,65535] (.cons (o _ _ p) (.cons (o _ _ q) (.cons (o _ _ s) (.cons (o _ _ x) (.cons (o _ _ y) (.cons (o _ _ z) (.cons (o _ _ A) (.cons (o _ _ C) (.cons (o _ _ D) (.cons (o _ _ G) (.cons (o _ _ H) (.cons (o _ _ R) (.cons (o _ _ T) (.cons (o _ _ U) (.cons (o _ _ X) (.cons (o _ _ Y) (.cons (o _ _ Z) .nil))))))))))))))))) (by kernel_rfl) (by kernel_rfl) (by kernel_rfl) (by kernel_rfl) (wf Q Q (wz rfl (wU (j19 i h))))
   have a0:=m _ _ (LS.kb K Q (o _ _ v))
   have b0:l 4 (zz3 [(3,.c (.cl 48 [] [1])),(21,.O true)] [(22,.c (.cl 48 [] [1]))]):=m _ _ (wL J)
   have c0:l 5 (zz3 [(0,.S 0),(21,.O true)] [(23,.S 0)]):=m _ _ (wL J)
   have d0:l 6 (zz3 [(9,.I j),(21,.O true)] [(24,.I j)]):=m _ _ (wL J)
   obtain ⟨e0,f0,h⟩:=ob h
   have g0:l 7 (zz51 i ((j).toNat * ((rI .i64)).sz) [(21,.O true),(23,.S 0),(24,.I j)] [(25,.P 6 0)]):=m _ _ (wO Q Q Q (fun _ _ _ _ _ _ _ k=>wX J f0 Q Q Q Q Q Q Q Q Q (k)) rfl)
   have i0:l 8 (zz52 ((j).toNat * ((rI .i64)).sz) i [(21,.O true),(25,.P 6 0)] [(26,.I e0)]):=m _ _ (wO Q Q Q (fun _ _ _ _ _ _ _ k=>wd (oI .i64) J f0 Q Q Q Q Q Q Q Q Q Q (k)) rfl)
   have j0:l 9 (zz4 [(0,.S 0),(21,.O true)] [(27,.S 0)]):=m _ _ (wL J)
   have k0:l 10 (zz4 [(9,.I j),(21,.O true)] [(28,.I j)]):=m _ _ (wL J)
   have l0:l 11 (zz4 [(21,.O true),(28,.I j)] [(29,.I (w64 (j-1)))]):=m _ _ (wL J)
   obtain ⟨m0,o0,h⟩:=ob h
   have p0:l 12 (zz53 i (((w64 (j-(1:Int)))).toNat * ((rI .i64)).sz) [(21,.O true),(27,.S 0),(29,.I (w64 (j-1)))] [(30,.P 7 0)]):=m _ _ (wO Q Q Q (fun _ _ _ _ _ _ _ k=>wX J o0 Q Q Q Q Q Q Q Q Q (k)) rfl)
   have q0:l 13 (zz54 (((w64 (j-(1:Int)))).toNat * ((rI .i64)).sz) i [(21,.O true),(30,.P 7 0)] [(31,.I m0)]):=m _ _ (wO Q Q Q (fun _ _ _ _ _ _ _ k=>wd (oI .i64) J o0 Q Q Q Q Q Q Q Q Q Q (k)) rfl)
   obtain ⟨s0,t0,h⟩:=ob h
   have u0:l 14 (zz105 c0_ [(21,.O true),(22,.c (.cl 48 [] [1])),(26,.I e0),(31,.I m0)] [(32,.I s0)]):=m _ _ (wO Q Q Q (fun _ _ _ _ _ _ _ k=>WPr.callc (z48_8_ct N e0 m0 c0_ _ t0) [(0,.bp 1 0),(1,.sl 2),(2,.sl 3),(3,.sl 4),(4,.sl 5)] [] Q Q Q Q Q Q Q Q Q (.inl rfl) rfl (k)) rfl)
   have v0:l 15 (zz12 [(21,.O true),(32,.I s0)] [(33,.O (decide (s0 < 0)))]):=m _ _ (wL J)
   have x0:l 16 (zz12 [(21,.O true),(33,.O (decide (s0 < 0)))] [(34,.O (decide (s0 < 0)))]):=m _ _ (wL J)
   refine wD (t:=(zz55 i c0_ [(0,.S 0),(1,.I a_),(2,.I b_),(3,.c (.cl 48 [] [1])),(8,.I f),(9,.I j),(34,.O (decide (s0 < 0)))])) [0,0,3,7,15,15,15,111,239,15,15,1039,3599,7695,16383,32767,65535] (.cons (o _ _ p) (.cons (o _ _ q) (.cons (o _ _ s) (.cons (o _ _ a0) (.cons (o _ _ b0) (.cons (o _ _ c0) (.cons (o _ _ d0) (.cons (o _ _ g0) (.cons (o _ _ i0) (.cons (o _ _ j0) (.cons (o _ _ k0) (.cons (o _ _ l0) (.cons (o _ _ p0) (.cons (o _ _ q0) (.cons (o _ _ u0) (.cons (o _ _ v0) (.cons (o _ _ x0) .nil))))))))))))))))) (by kernel_rfl) (by kernel_rfl) (by kernel_rfl) (by kernel_rfl) ?_
   obtain ⟨K,h⟩|⟨K,h⟩:=oc' h
   ·exact wf K Q (wz rfl (wU (j19 i h)))
   refine wt K Q (wi (wq (wo (wN (fun y0 z0 A0=>?_)))))
   have B0:y0 0 (zz12 [(0,.S 0)] [(37,.S 0)]):=z0 _ _ (wL J)
   have C0:y0 1 (zz12 [(9,.I j)] [(38,.I j)]):=z0 _ _ (wL J)
   have D0:y0 2 (zz12 [(0,.S 0)] [(39,.S 0)]):=z0 _ _ (wL J)
   have G0:y0 3 (zz12 [(9,.I j)] [(40,.I j)]):=z0 _ _ (wL J)
   have H0:y0 4 (zz12 [(40,.I j)] [(41,.I (w64 (j-1)))]):=z0 _ _ (wL J)
   have I0:y0 5 (zz12 [(0,.S 0)] [(42,.S 0)]):=z0 _ _ (wL J)
   have L0:y0 6 (zz12 [(9,.I j)] [(43,.I j)]):=z0 _ _ (wL J)
   have M0:y0 7 (zz12 [(43,.I j)] [(44,.I (w64 (j-1)))]):=z0 _ _ (wL J)
   obtain ⟨O0,R0,h⟩:=ob h
   have S0:y0 8 (zz106 i (((w64 (j-(1:Int)))).toNat * ((rI .i64)).sz) [(42,.S 0),(44,.I (w64 (j-1)))] [(45,.P 8 0)]):=z0 _ _ (wO Q Q Q (fun _ _ _ _ _ _ _ k=>wX J R0 Q Q Q Q Q Q Q Q Q (k)) rfl)
   have T0:y0 9 ⟨[(45,.P 8 0)],[(8,.el 0 (((w64 (j-(1:Int)))).toNat * ((rI .i64)).sz))],[],[(0,.own (rI .i64) i false)],9,[(46,.I O0)],[],[],9⟩:=z0 _ _ (wO Q Q Q (fun _ _ _ _ _ _ _ k=>wd (oI .i64) J R0 Q Q Q Q Q Q Q Q Q Q (k)) rfl)
   have U0:y0 10 (zz28 [(0,.S 0)] [(47,.S 0)]):=z0 _ _ (wL J)
   have V0:y0 11 (zz28 [(9,.I j)] [(48,.I j)]):=z0 _ _ (wL J)
   obtain ⟨X0,Y0,h⟩:=ob h
   have Z0:y0 12 (zz107 i ((j).toNat * ((rI .i64)).sz) [(47,.S 0),(48,.I j)] [(49,.P 9 0)]):=z0 _ _ (wO Q Q Q (fun _ _ _ _ _ _ _ k=>wX J Y0 Q Q Q Q Q Q Q Q Q (k)) rfl)
   have a1:y0 13 ⟨[(49,.P 9 0)],[(9,.el 0 ((j).toNat * ((rI .i64)).sz))],[],[(0,.own (rI .i64) i false)],10,[(50,.I X0)],[],[],10⟩:=z0 _ _ (wO Q Q Q (fun _ _ _ _ _ _ _ k=>wd (oI .i64) J Y0 Q Q Q Q Q Q Q Q Q Q (k)) rfl)
   obtain ⟨b1,c1,h⟩:=ob h
   have d1:y0 14 ⟨[(37,.S 0),(38,.I j)],[],[],[(0,.own (rI .i64) i false)],10,[(51,.P 10 0)],[(10,.el 0 ((j).toNat * ((rI .i64)).sz))],[],11⟩:=z0 _ _ (wO Q Q Q (fun _ _ _ _ _ _ _ k=>wX J c1 Q Q Q Q Q Q Q Q Q (k)) rfl)
   have e1:y0 15 ⟨[(46,.I O0),(51,.P 10 0)],[(10,.el 0 ((j).toNat * ((rI .i64)).sz))],[(0,.own (rI .i64) i false)],[],11,[],[],[(0,.own (rI .i64) (setL' i j O0) false)],11⟩:=z0 _ _ (wO Q Q Q (fun _ _ _ _ _ _ _ k=>WPr.sto (oI .i64) J O0 c1 Q Q Q Q Q Q Q Q Q Q (by exact rfl) rfl (k)) rfl)
   obtain ⟨f1,g1,h⟩:=ob h
   have i1:y0 16 ⟨[(39,.S 0),(41,.I (w64 (j-1)))],[],[],[(0,.own (rI .i64) (setL' i j O0) false)],11,[(52,.P 11 0)],[(11,.el 0 (((w64 (j-(1:Int)))).toNat * ((rI .i64)).sz))],[],12⟩:=z0 _ _ (wO Q Q Q (fun _ _ _ _ _ _ _ k=>wX J g1 Q Q Q Q Q Q Q Q Q (k)) rfl)
   have k1:y0 17 ⟨[(50,.I X0),(52,.P 11 0)],[(11,.el 0 (((w64 (j-(1:Int)))).toNat * ((rI .i64)).sz))],[(0,.own (rI .i64) (setL' i j O0) false)],[],12,[],[],[(0,.own (rI .i64) (setL' (setL' i j O0) (w64 (j-1)) X0) false)],12⟩:=z0 _ _ (wO Q Q Q (fun _ _ _ _ _ _ _ k=>WPr.sto (oI .i64) J X0 g1 Q Q Q Q Q Q Q Q Q Q (by exact rfl) rfl (k)) rfl)
   exact wD (t:=(zz169 (setL' (setL' i j O0) (w64 (j-1)) X0) c0_ [(0,.S 0),(1,.I a_),(2,.I b_),(3,.c (.cl 48 [] [1])),(8,.I f),(9,.I j)])) [0,0,0,0,8,0,0,64,224,480,0,0,3072,7168,16355,32739,65535,131071] (.cons (A0 _ _ B0) (.cons (A0 _ _ C0) (.cons (A0 _ _ D0) (.cons (A0 _ _ G0) (.cons (A0 _ _ H0) (.cons (A0 _ _ I0) (.cons (A0 _ _ L0) (.cons (A0 _ _ M0) (.cons (A0 _ _ S0) (.cons (A0 _ _ T0) (.cons (A0 _ _ U0) (.cons (A0 _ _ V0) (.cons (A0 _ _ Z0) (.cons (A0 _ _ a1) (.cons (A0 _ _ d1) (.cons (A0 _ _ e1) (.cons (A0 _ _ i1) (.cons (A0 _ _ k1) .nil)))))))))))))))))) (by kernel_rfl) (by kernel_rfl) (by kernel_rfl) (by kernel_rfl) (wb (wT (zz169 (setL' (setL' i j O0) (w64 (j-1)) X0) c0_ [(0,.S 0),(1,.I a_),(2,.I b_),(3,.c (.cl 48 [] [1])),(8,.I f),(9,.I (w64 (j-1)))]) J 3 (wU (ih21 ((setL' (setL' i j O0) (w64 (j-1)) X0),(w64 (j-1))) h))))
  exact wU (ih N (e,f) h)
 exact wU (ih N (data_,(w64 (a_+1))) h)
theorem z183_10_ct (N:Nat) (data_:(List Int)) (a_:Int) (b_:Int) (n_:Int) (c0_:T4) (r:(List Int)) (h:z183_10 N data_ a_ b_ n_ c0_=some r) :
 Fn Tryz.prog 183 ⟨6,[.S 0,.I a_,.I b_,.I n_,.c (.cl 48 [] [1])],(vV4 2 3 4 5 c0_ []),[(0,.own (rI .i64) data_ false),(1,.box (cC4 2 3 4 5 c0_) 27)],6,.t [],[],[(0,.own (rI .i64) r false),(1,.box (cC4 2 3 4 5 c0_) 27)]⟩:=by
 refine wF func183 Q Q (fun E F w=>?_)
 unfold z183_10 at h
 refine wR J 1 Q ?_
 refine wC (σ:=(List Int)) (fun st=>(zz1 st c0_ [])) (fun st=>z183_10_k1 st=some r) ?_ (fun j1=>?_)
 ·intro d h
  replace h:z183_10_k1 d=some r:=h
  unfold z183_10_k1 at h
  cases h
  exact WP.fin J func183 [] Q Q Q Q
 refine wo ?_
 refine wI (σ:=(List Int) × Int) (fun st=>(zz1 st.1 c0_ [(0,.S 0),(1,.I a_),(2,.I b_),(3,.I n_),(10,.I st.2)])) (fun n st=>z183_10_l2 a_ b_ n_ n st.1 st.2) (r:=r) (fun _=>rfl) ?_ (fun ih=>?_)
 ·intro n2 ih3
  rintro ⟨e,f⟩ h
  replace h:z183_10_l2 a_ b_ n_ (n2+1) e f=some r:=h
  unfold z183_10_l2 at h
  refine wq (wV (zz1 e c0_ [(0,.S 0),(1,.I a_),(2,.I b_),(3,.I n_),(10,.I f),(13,.O (decide (f < n_)))]) J 3 ?_)
  obtain ⟨K,h⟩|⟨K,h⟩:=oc' h
  ·exact wf K Q (wz rfl (wU (j1 e h)))
  refine wt K Q (wi (wq (wo (wN (fun A9 g i=>?_)))))
  have j:A9 0 (zz3 [(0,.S 0)] [(16,.S 0)]):=g _ _ (wL J)
  have l:A9 1 (zz3 [(1,.I a_)] [(17,.I a_)]):=g _ _ (wL J)
  have m:A9 2 (zz3 [(10,.I f)] [(18,.I f)]):=g _ _ (wL J)
  have o:A9 3 (zz3 [(17,.I a_),(18,.I f)] [(19,.I (w64 (a_+f)))]):=g _ _ (wL J)
  have p:A9 4 (zz3 [(0,.S 0)] [(20,.S 0)]):=g _ _ (wL J)
  have q:A9 5 (zz3 [(2,.I b_)] [(21,.I b_)]):=g _ _ (wL J)
  have s:A9 6 (zz3 [(10,.I f)] [(22,.I f)]):=g _ _ (wL J)
  have u:A9 7 (zz3 [(21,.I b_),(22,.I f)] [(23,.I (w64 (b_+f)))]):=g _ _ (wL J)
  have v:A9 8 (zz3 [(0,.S 0)] [(24,.S 0)]):=g _ _ (wL J)
  have x:A9 9 (zz3 [(2,.I b_)] [(25,.I b_)]):=g _ _ (wL J)
  have y:A9 10 (zz3 [(10,.I f)] [(26,.I f)]):=g _ _ (wL J)
  have z:A9 11 (zz3 [(25,.I b_),(26,.I f)] [(27,.I (w64 (b_+f)))]):=g _ _ (wL J)
  obtain ⟨A,C,h⟩:=ob h
  have D:A9 12 (zz51 e (((w64 (b_+f))).toNat * ((rI .i64)).sz) [(24,.S 0),(27,.I (w64 (b_+f)))] [(28,.P 6 0)]):=g _ _ (wO Q Q Q (fun _ _ _ _ _ _ _ k=>wX J C Q Q Q Q Q Q Q Q Q (k)) rfl)
  have G:A9 13 (zz52 (((w64 (b_+f))).toNat * ((rI .i64)).sz) e [(28,.P 6 0)] [(29,.I A)]):=g _ _ (wO Q Q Q (fun _ _ _ _ _ _ _ k=>wd (oI .i64) J C Q Q Q Q Q Q Q Q Q Q (k)) rfl)
  have H:A9 14 (zz4 [(0,.S 0)] [(30,.S 0)]):=g _ _ (wL J)
  have R:A9 15 (zz4 [(1,.I a_)] [(31,.I a_)]):=g _ _ (wL J)
  have T:A9 16 (zz4 [(10,.I f)] [(32,.I f)]):=g _ _ (wL J)
  have U:A9 17 (zz4 [(31,.I a_),(32,.I f)] [(33,.I (w64 (a_+f)))]):=g _ _ (wL J)
  obtain ⟨X,Y,h⟩:=ob h
  have Z:A9 18 (zz53 e (((w64 (a_+f))).toNat * ((rI .i64)).sz) [(30,.S 0),(33,.I (w64 (a_+f)))] [(34,.P 7 0)]):=g _ _ (wO Q Q Q (fun _ _ _ _ _ _ _ k=>wX J Y Q Q Q Q Q Q Q Q Q (k)) rfl)
  have a0:A9 19 (zz54 (((w64 (a_+f))).toNat * ((rI .i64)).sz) e [(34,.P 7 0)] [(35,.I X)]):=g _ _ (wO Q Q Q (fun _ _ _ _ _ _ _ k=>wd (oI .i64) J Y Q Q Q Q Q Q Q Q Q Q (k)) rfl)
  obtain ⟨b0,c0,h⟩:=ob h
  have d0:A9 20 (zz106 e (((w64 (a_+f))).toNat * ((rI .i64)).sz) [(16,.S 0),(19,.I (w64 (a_+f)))] [(36,.P 8 0)]):=g _ _ (wO Q Q Q (fun _ _ _ _ _ _ _ k=>wX J c0 Q Q Q Q Q Q Q Q Q (k)) rfl)
  have e0:A9 21 (zz128 (((w64 (a_+f))).toNat * ((rI .i64)).sz) e (setL' e (w64 (a_+f)) A) [(29,.I A),(36,.P 8 0)] []):=g _ _ (wO Q Q Q (fun _ _ _ _ _ _ _ k=>WPr.sto (oI .i64) J A c0 Q Q Q Q Q Q Q Q Q Q (by exact rfl) rfl (k)) rfl)
  obtain ⟨f0,g0,h⟩:=ob h
  have i0:A9 22 (zz107 (setL' e (w64 (a_+f)) A) (((w64 (b_+f))).toNat * ((rI .i64)).sz) [(20,.S 0),(23,.I (w64 (b_+f)))] [(37,.P 9 0)]):=g _ _ (wO Q Q Q (fun _ _ _ _ _ _ _ k=>wX J g0 Q Q Q Q Q Q Q Q Q (k)) rfl)
  have j0:A9 23 (zz129 (((w64 (b_+f))).toNat * ((rI .i64)).sz) (setL' e (w64 (a_+f)) A) (setL' (setL' e (w64 (a_+f)) A) (w64 (b_+f)) X) [(35,.I X),(37,.P 9 0)] []):=g _ _ (wO Q Q Q (fun _ _ _ _ _ _ _ k=>WPr.sto (oI .i64) J X g0 Q Q Q Q Q Q Q Q Q Q (by exact rfl) rfl (k)) rfl)
  exact wD (t:=(zz63 (setL' (setL' e (w64 (a_+f)) A) (w64 (b_+f)) X) c0_ [(0,.S 0),(1,.I a_),(2,.I b_),(3,.I n_),(10,.I f)])) [0,0,0,6,0,0,0,96,0,0,0,1536,3840,7936,0,0,0,98304,245760,507904,1048335,2096911,4194303,8388607] (.cons (i _ _ j) (.cons (i _ _ l) (.cons (i _ _ m) (.cons (i _ _ o) (.cons (i _ _ p) (.cons (i _ _ q) (.cons (i _ _ s) (.cons (i _ _ u) (.cons (i _ _ v) (.cons (i _ _ x) (.cons (i _ _ y) (.cons (i _ _ z) (.cons (i _ _ D) (.cons (i _ _ G) (.cons (i _ _ H) (.cons (i _ _ R) (.cons (i _ _ T) (.cons (i _ _ U) (.cons (i _ _ Z) (.cons (i _ _ a0) (.cons (i _ _ d0) (.cons (i _ _ e0) (.cons (i _ _ i0) (.cons (i _ _ j0) .nil)))))))))))))))))))))))) (by kernel_rfl) (by kernel_rfl) (by kernel_rfl) (by kernel_rfl) (wb (wT (zz63 (setL' (setL' e (w64 (a_+f)) A) (w64 (b_+f)) X) c0_ [(0,.S 0),(1,.I a_),(2,.I b_),(3,.I n_),(10,.I (w64 (f+1)))]) J 3 (wU (ih3 ((setL' (setL' e (w64 (a_+f)) A) (w64 (b_+f)) X),(w64 (f+1))) h))))
 exact wU (ih N (data_,0) h)
theorem z168_11_ct (N:Nat) (data_:(List Int)) (a_:Int) (m_:Int) (b_:Int) (c0_:T4) (r:(List Int)) (h:z168_11 N data_ a_ m_ b_ c0_=some r) :
 Fn Tryz.prog 168 ⟨6,[.S 0,.I a_,.I m_,.I b_,.c (.cl 48 [] [1])],(vV4 2 3 4 5 c0_ []),[(0,.own (rI .i64) data_ false),(1,.box (cC4 2 3 4 5 c0_) 27)],6,.t [],[],[(0,.own (rI .i64) r false),(1,.box (cC4 2 3 4 5 c0_) 27)]⟩:=by
 refine wF func168 Q Q (fun E F w=>?_)
 unfold z168_11 at h
 refine wV (zz1 data_ c0_ [(0,.S 0),(2,.I m_),(3,.I b_),(4,.c (.cl 48 [] [1])),(10,.I (w64 (m_-a_)))]) J 4 (wV (zz1 data_ c0_ [(0,.S 0),(2,.I m_),(4,.c (.cl 48 [] [1])),(10,.I (w64 (m_-a_))),(11,.I (w64 (b_-m_)))]) J 4 (wq ?_))
 refine wC (σ:=(List Int) × Int) (fun st=>(zz1 st.1 c0_ [(0,.S 0),(2,.I m_),(4,.c (.cl 48 [] [1])),(10,.I st.2)])) (fun st=>z168_11_k1 N m_ c0_ st.1 st.2=some r) ?_ (fun j1=>?_)
 ·rintro ⟨d,e⟩ h
  replace h:z168_11_k1 N m_ c0_ d e=some r:=h
  unfold z168_11_k1 at h
  refine wg (xw [7] (zz1 d c0_ [(50,.S 0),(53,.I (w64 (m_-e))),(54,.I m_),(55,.I e),(56,.c (.cl 48 [] [1]))]) J 7 ?_)
  obtain ⟨x9,f,h⟩:=ob h
  refine wc (z183_10_ct N d (w64 (m_-e)) m_ e c0_ _ f) [(0,.sl 0),(1,.bp 1 0),(2,.sl 2),(3,.sl 3),(4,.sl 4),(5,.sl 5)] [] Q Q Q Q Q Q Q Q (.inl rfl) rfl (wx (zz1 x9 c0_ []) J 0 (wn ?_))
  cases h
  exact WP.fin J func168 [] Q Q Q Q
 refine wo ?_
 refine wI (σ:=(List Int) × Int × Int) (fun st=>(zz1 st.1 c0_ [(0,.S 0),(2,.I m_),(4,.c (.cl 48 [] [1])),(10,.I st.2.1),(11,.I st.2.2)])) (fun n st=>z168_11_l2 N m_ c0_ n st.1 st.2.1 st.2.2) (r:=r) (fun _=>rfl) ?_ (fun ih=>?_)
 ·intro n2 ih3
  rintro ⟨g,i,j⟩ h
  replace h:z168_11_l2 N m_ c0_ (n2+1) g i j=some r:=h
  unfold z168_11_l2 at h
  refine wq (wV (zz1 g c0_ [(0,.S 0),(2,.I m_),(4,.c (.cl 48 [] [1])),(10,.I i),(11,.I j),(20,.O (i != j))]) J 3 ?_)
  obtain ⟨K,h⟩|⟨K,h⟩:=oc' h
  ·exact wf K Q (wz rfl (wU (j1 (g,i) h)))
  refine wt K Q (wi (wo (wV (zz1 g c0_ [(0,.S 0),(2,.I m_),(4,.c (.cl 48 [] [1])),(10,.I i),(11,.I j),(23,.O (decide (i > j)))]) J 3 ?_)))
  obtain ⟨K,h⟩|⟨K,h⟩:=oc h
  ·refine wt K Q (wq (wg (xw [7] (zz1 g c0_ [(0,.S 0),(2,.I m_),(4,.c (.cl 48 [] [1])),(10,.I i),(11,.I j),(24,.S 0),(27,.I (w64 (m_-i))),(28,.I m_),(29,.I j),(30,.c (.cl 48 [] [1]))]) J 7 ?_)))
   obtain ⟨k,l,h⟩:=ob h
   exact wc (z183_10_ct N g (w64 (m_-i)) m_ j c0_ _ l) [(0,.sl 0),(1,.bp 1 0),(2,.sl 2),(3,.sl 3),(4,.sl 4),(5,.sl 5)] [] Q Q Q Q Q Q Q Q (.inl rfl) rfl (wx (zz1 k c0_ [(0,.S 0),(2,.I m_),(4,.c (.cl 48 [] [1])),(10,.I i),(11,.I j)]) J 0 (wn (wT (zz1 k c0_ [(0,.S 0),(2,.I m_),(4,.c (.cl 48 [] [1])),(10,.I (w64 (i-j))),(11,.I j)]) J 4 (wb (wU (ih3 (k,(w64 (i-j)),j) h))))))
  refine wf K Q (wq (wg (xw [11] (zz1 g c0_ [(0,.S 0),(2,.I m_),(4,.c (.cl 48 [] [1])),(10,.I i),(11,.I j),(35,.S 0),(38,.I (w64 (m_-i))),(43,.I (w64 ((w64 (m_+j))-i))),(44,.I i),(45,.c (.cl 48 [] [1]))]) J 11 ?_)))
  obtain ⟨m,o,h⟩:=ob h
  exact wc (z183_10_ct N g (w64 (m_-i)) (w64 ((w64 (m_+j))-i)) i c0_ _ o) [(0,.sl 0),(1,.bp 1 0),(2,.sl 2),(3,.sl 3),(4,.sl 4),(5,.sl 5)] [] Q Q Q Q Q Q Q Q (.inl rfl) rfl (wx (zz1 m c0_ [(0,.S 0),(2,.I m_),(4,.c (.cl 48 [] [1])),(10,.I i),(11,.I j)]) J 0 (wn (wT (zz1 m c0_ [(0,.S 0),(2,.I m_),(4,.c (.cl 48 [] [1])),(10,.I i),(11,.I (w64 (j-i)))]) J 4 (wb (wU (ih3 (m,i,(w64 (j-i))) h))))))
 exact wU (ih N (data_,(w64 (m_-a_)),(w64 (b_-m_))) h)
theorem z147_12_b_ct (N:Nat) (rc:(List Int)→Int→Int→Int→T4→Option (List Int)) (rc_slices_symMergeCmpFunc_int_of_global_Edges_1_ct:(∀ (data_:(List Int)) (a_:Int) (m_:Int) (b_:Int) (c0_:T4) (r:(List Int)),rc data_ a_ m_ b_ c0_=some r→Fn Tryz.prog 147 ⟨6,[.S 0,.I a_,.I m_,.I b_,.c (.cl 48 [] [1])],(vV4 2 3 4 5 c0_ []),[(0,.own (rI .i64) data_ false),(1,.box (cC4 2 3 4 5 c0_) 27)],6,.t [],[],[(0,.own (rI .i64) r false),(1,.box (cC4 2 3 4 5 c0_) 27)]⟩)) (data_:(List Int)) (a_:Int) (m_:Int) (b_:Int) (c0_:T4) (r:(List Int)) (h:z147_12_b N rc data_ a_ m_ b_ c0_=some r) :
 Fn Tryz.prog 147 ⟨6,[.S 0,.I a_,.I m_,.I b_,.c (.cl 48 [] [1])],(vV4 2 3 4 5 c0_ []),[(0,.own (rI .i64) data_ false),(1,.box (cC4 2 3 4 5 c0_) 27)],6,.t [],[],[(0,.own (rI .i64) r false),(1,.box (cC4 2 3 4 5 c0_) 27)]⟩:=by
 refine wF func147 Q Q (fun E F w=>?_)
 unfold z147_12_b at h
 refine wq (wV (zz1 data_ c0_ [(0,.S 0),(1,.I a_),(2,.I m_),(3,.I b_),(4,.c (.cl 48 [] [1])),(28,.O ((w64 (m_-a_))==1))]) J 4 ?_)
 obtain ⟨K,h⟩|⟨K,h⟩:=oc h
 ·refine wt K Q (wR J 2 Q (wV (zz1 data_ c0_ [(0,.S 0),(1,.I a_),(4,.c (.cl 48 [] [1])),(10,.I m_),(11,.I b_)]) J 2 (wq ?_)))
  refine wC (σ:=Int) (fun st=>(zz1 data_ c0_ [(0,.S 0),(1,.I a_),(10,.I st)])) (fun st=>z147_12_k3 N data_ a_ st=some r) ?_ (fun j1=>?_)
  ·intro d h
   replace h:z147_12_k3 N data_ a_ d=some r:=h
   unfold z147_12_k3 at h
   refine wq (wR J 2 Q ?_)
   refine wC (σ:=(List Int)) (fun st=>(zz1 st c0_ [])) (fun st=>z147_12_k1 st=some r) ?_ (fun j3=>?_)
   ·intro e h
    replace h:z147_12_k1 e=some r:=h
    unfold z147_12_k1 at h
    cases h
    exact we J func147 [] Q Q Q Q
   refine wo ?_
   refine wI (σ:=(List Int) × Int) (fun st=>(zz1 st.1 c0_ [(0,.S 0),(10,.I d),(13,.I st.2)])) (fun n st=>z147_12_l2 d n st.1 st.2) (r:=r) (fun _=>rfl) ?_ (fun ih=>?_)
   ·intro n3 ih5
    rintro ⟨f,g⟩ h
    replace h:z147_12_l2 d (n3+1) f g=some r:=h
    unfold z147_12_l2 at h
    refine wq (wV (zz1 f c0_ [(0,.S 0),(10,.I d),(13,.I g),(58,.O (decide (g < (w64 (d-1)))))]) J 4 ?_)
    obtain ⟨K,h⟩|⟨K,h⟩:=oc' h
    ·exact wf K Q (wz rfl (wU (j3 f h)))
    refine wt K Q (wi (wq (wo (wN (fun j l m=>?_)))))
    have o:j 0 (zz3 [(0,.S 0)] [(61,.S 0)]):=l _ _ (wL J)
    have p:j 1 (zz3 [(13,.I g)] [(62,.I g)]):=l _ _ (wL J)
    have q:j 2 (zz3 [(0,.S 0)] [(63,.S 0)]):=l _ _ (wL J)
    have s:j 3 (zz3 [(13,.I g)] [(64,.I g)]):=l _ _ (wL J)
    have u:j 4 (zz3 [(64,.I g)] [(65,.I (w64 (g+1)))]):=l _ _ (wL J)
    have v:j 5 (zz3 [(0,.S 0)] [(66,.S 0)]):=l _ _ (wL J)
    have x:j 6 (zz3 [(13,.I g)] [(67,.I g)]):=l _ _ (wL J)
    have y:j 7 (zz3 [(67,.I g)] [(68,.I (w64 (g+1)))]):=l _ _ (wL J)
    obtain ⟨z,A,h⟩:=ob h
    have C:j 8 (zz51 f (((w64 (g+(1:Int)))).toNat * ((rI .i64)).sz) [(66,.S 0),(68,.I (w64 (g+1)))] [(69,.P 6 0)]):=l _ _ (wO Q Q Q (fun _ _ _ _ _ _ _ k=>wX J A Q Q Q Q Q Q Q Q Q (k)) rfl)
    have D:j 9 (zz52 (((w64 (g+(1:Int)))).toNat * ((rI .i64)).sz) f [(69,.P 6 0)] [(70,.I z)]):=l _ _ (wO Q Q Q (fun _ _ _ _ _ _ _ k=>wd (oI .i64) J A Q Q Q Q Q Q Q Q Q Q (k)) rfl)
    have G:j 10 (zz4 [(0,.S 0)] [(71,.S 0)]):=l _ _ (wL J)
    have H:j 11 (zz4 [(13,.I g)] [(72,.I g)]):=l _ _ (wL J)
    obtain ⟨R,T,h⟩:=ob h
    have U:j 12 (zz53 f ((g).toNat * ((rI .i64)).sz) [(71,.S 0),(72,.I g)] [(73,.P 7 0)]):=l _ _ (wO Q Q Q (fun _ _ _ _ _ _ _ k=>wX J T Q Q Q Q Q Q Q Q Q (k)) rfl)
    have X:j 13 (zz54 ((g).toNat * ((rI .i64)).sz) f [(73,.P 7 0)] [(74,.I R)]):=l _ _ (wO Q Q Q (fun _ _ _ _ _ _ _ k=>wd (oI .i64) J T Q Q Q Q Q Q Q Q Q Q (k)) rfl)
    obtain ⟨Y,Z,h⟩:=ob h
    have a0:j 14 (zz106 f ((g).toNat * ((rI .i64)).sz) [(61,.S 0),(62,.I g)] [(75,.P 8 0)]):=l _ _ (wO Q Q Q (fun _ _ _ _ _ _ _ k=>wX J Z Q Q Q Q Q Q Q Q Q (k)) rfl)
    have b0:j 15 (zz128 ((g).toNat * ((rI .i64)).sz) f (setL' f g z) [(70,.I z),(75,.P 8 0)] []):=l _ _ (wO Q Q Q (fun _ _ _ _ _ _ _ k=>WPr.sto (oI .i64) J z Z Q Q Q Q Q Q Q Q Q Q (by exact rfl) rfl (k)) rfl)
    obtain ⟨c0,d0,h⟩:=ob h
    have e0:j 16 (zz107 (setL' f g z) (((w64 (g+(1:Int)))).toNat * ((rI .i64)).sz) [(63,.S 0),(65,.I (w64 (g+1)))] [(76,.P 9 0)]):=l _ _ (wO Q Q Q (fun _ _ _ _ _ _ _ k=>wX J d0 Q Q Q Q Q Q Q Q Q (k)) rfl)
    have f0:j 17 (zz129 (((w64 (g+(1:Int)))).toNat * ((rI .i64)).sz) (setL' f g z) (setL' (setL' f g z) (w64 (g+1)) R) [(74,.I R),(76,.P 9 0)] []):=l _ _ (wO Q Q Q (fun _ _ _ _ _ _ _ k=>WPr.sto (oI .i64) J R d0 Q Q Q Q Q Q Q Q Q Q (by exact rfl) rfl (k)) rfl)
    exact wD (t:=(zz63 (setL' (setL' f g z) (w64 (g+1)) R) c0_ [(0,.S 0),(10,.I d),(13,.I g)])) [0,0,0,0,8,0,0,64,224,480,0,0,3072,7168,16355,32739,65535,131071] (.cons (m _ _ o) (.cons (m _ _ p) (.cons (m _ _ q) (.cons (m _ _ s) (.cons (m _ _ u) (.cons (m _ _ v) (.cons (m _ _ x) (.cons (m _ _ y) (.cons (m _ _ C) (.cons (m _ _ D) (.cons (m _ _ G) (.cons (m _ _ H) (.cons (m _ _ U) (.cons (m _ _ X) (.cons (m _ _ a0) (.cons (m _ _ b0) (.cons (m _ _ e0) (.cons (m _ _ f0) .nil)))))))))))))))))) (by kernel_rfl) (by kernel_rfl) (by kernel_rfl) (by kernel_rfl) (wb (wT (zz63 (setL' (setL' f g z) (w64 (g+1)) R) c0_ [(0,.S 0),(10,.I d),(13,.I (w64 (g+1)))]) J 3 (wU (ih5 ((setL' (setL' f g z) (w64 (g+1)) R),(w64 (g+1))) h))))
   exact wU (ih N (data_,a_) h)
  refine wo ?_
  refine wI (σ:=Int × Int) (fun st=>(zz1 data_ c0_ [(0,.S 0),(1,.I a_),(4,.c (.cl 48 [] [1])),(10,.I st.1),(11,.I st.2)])) (fun n st=>z147_12_l4 N data_ a_ c0_ n st.1 st.2) (r:=r) (fun _=>rfl) ?_ (fun ih=>?_)
  ·intro n4 ih6
   rintro ⟨g0,i0⟩ h
   replace h:z147_12_l4 N data_ a_ c0_ (n4+1) g0 i0=some r:=h
   unfold z147_12_l4 at h
   refine wq (wV (zz1 data_ c0_ [(0,.S 0),(1,.I a_),(4,.c (.cl 48 [] [1])),(10,.I g0),(11,.I i0),(33,.O (decide (g0 < i0)))]) J 3 ?_)
   obtain ⟨K,h⟩|⟨K,h⟩:=oc' h
   ·exact wf K Q (wz rfl (wU (j1 g0 h)))
   refine wt K Q (wi (wo (wq (wg (xw [4,5,6] (zz1 data_ c0_ [(0,.S 0),(1,.I a_),(4,.c (.cl 48 [] [1])),(10,.I g0),(11,.I i0),(37,.c (.i .u64 (wk .u64 ((w64 (g0+i0))))))]) J 4 ?_)))))
   obtain ⟨j0,k0,h⟩:=ob h
   refine WPr.bin k0 Q Q Q Q Q Q Q Q (wx (zz1 data_ c0_ [(0,.S 0),(1,.I a_),(4,.c (.cl 48 [] [1])),(10,.I g0),(11,.I i0),(12,.I (w64 (j0)))]) J 2 (wn (wq (wN (fun l0 m0 o0=>?_)))))
   have p0:l0 0 (zz3 [(4,.c (.cl 48 [] [1]))] [(40,.c (.cl 48 [] [1]))]):=m0 _ _ (wL J)
   have q0:l0 1 (zz3 [(0,.S 0)] [(41,.S 0)]):=m0 _ _ (wL J)
   have s0:l0 2 (zz3 [(12,.I (w64 (j0)))] [(42,.I (w64 (j0)))]):=m0 _ _ (wL J)
   obtain ⟨t0,u0,h⟩:=ob h
   have v0:l0 3 (zz51 data_ (((w64 (j0))).toNat * ((rI .i64)).sz) [(41,.S 0),(42,.I (w64 (j0)))] [(43,.P 6 0)]):=m0 _ _ (wO Q Q Q (fun _ _ _ _ _ _ _ k=>wX J u0 Q Q Q Q Q Q Q Q Q (k)) rfl)
   have x0:l0 4 (zz52 (((w64 (j0))).toNat * ((rI .i64)).sz) data_ [(43,.P 6 0)] [(44,.I t0)]):=m0 _ _ (wO Q Q Q (fun _ _ _ _ _ _ _ k=>wd (oI .i64) J u0 Q Q Q Q Q Q Q Q Q Q (k)) rfl)
   have y0:l0 5 (zz4 [(0,.S 0)] [(45,.S 0)]):=m0 _ _ (wL J)
   have z0:l0 6 (zz4 [(1,.I a_)] [(46,.I a_)]):=m0 _ _ (wL J)
   obtain ⟨A0,B0,h⟩:=ob h
   have C0:l0 7 (zz53 data_ ((a_).toNat * ((rI .i64)).sz) [(45,.S 0),(46,.I a_)] [(47,.P 7 0)]):=m0 _ _ (wO Q Q Q (fun _ _ _ _ _ _ _ k=>wX J B0 Q Q Q Q Q Q Q Q Q (k)) rfl)
   have D0:l0 8 (zz54 ((a_).toNat * ((rI .i64)).sz) data_ [(47,.P 7 0)] [(48,.I A0)]):=m0 _ _ (wO Q Q Q (fun _ _ _ _ _ _ _ k=>wd (oI .i64) J B0 Q Q Q Q Q Q Q Q Q Q (k)) rfl)
   obtain ⟨G0,H0,h⟩:=ob h
   have I0:l0 9 (zz105 c0_ [(40,.c (.cl 48 [] [1])),(44,.I t0),(48,.I A0)] [(49,.I G0)]):=m0 _ _ (wO Q Q Q (fun _ _ _ _ _ _ _ k=>WPr.callc (z48_8_ct N t0 A0 c0_ _ H0) [(0,.bp 1 0),(1,.sl 2),(2,.sl 3),(3,.sl 4),(4,.sl 5)] [] Q Q Q Q Q Q Q Q Q (.inl rfl) rfl (k)) rfl)
   have L0:l0 10 (zz12 [(49,.I G0)] [(50,.O (decide (G0 < 0)))]):=m0 _ _ (wL J)
   refine wD (t:=(zz55 data_ c0_ [(0,.S 0),(1,.I a_),(4,.c (.cl 48 [] [1])),(10,.I g0),(11,.I i0),(12,.I (w64 (j0))),(50,.O (decide (G0 < 0)))])) [0,0,0,6,14,0,0,96,224,511,1023] (.cons (o0 _ _ p0) (.cons (o0 _ _ q0) (.cons (o0 _ _ s0) (.cons (o0 _ _ v0) (.cons (o0 _ _ x0) (.cons (o0 _ _ y0) (.cons (o0 _ _ z0) (.cons (o0 _ _ C0) (.cons (o0 _ _ D0) (.cons (o0 _ _ I0) (.cons (o0 _ _ L0) .nil))))))))))) (by kernel_rfl) (by kernel_rfl) (by kernel_rfl) (by kernel_rfl) ?_
   obtain ⟨K,h⟩|⟨K,h⟩:=oc h
   ·exact wt K Q (wT (zz55 data_ c0_ [(0,.S 0),(1,.I a_),(4,.c (.cl 48 [] [1])),(10,.I (w64 ((w64 (j0))+1))),(11,.I i0)]) J 3 (wb (wU (ih6 ((w64 ((w64 (j0))+1)),i0) h))))
   exact wf K Q (wS J 2 Q (wb (wU (ih6 (g0,(w64 (j0))) h))))
  exact wU (ih N (m_,b_) h)
 refine wf K Q (wi (wq (wV (zz1 data_ c0_ [(0,.S 0),(1,.I a_),(2,.I m_),(3,.I b_),(4,.c (.cl 48 [] [1])),(80,.O ((w64 (b_-m_))==1))]) J 4 ?_)))
 obtain ⟨K,h⟩|⟨K,h⟩:=oc h
 ·refine wt K Q (wR J 2 Q (wV (zz1 data_ c0_ [(0,.S 0),(2,.I m_),(4,.c (.cl 48 [] [1])),(14,.I a_),(15,.I m_)]) J 2 (wq ?_)))
  refine wC (σ:=Int) (fun st=>(zz1 data_ c0_ [(0,.S 0),(2,.I m_),(14,.I st)])) (fun st=>z147_12_k7 N data_ m_ st=some r) ?_ (fun j7=>?_)
  ·intro M0 h
   replace h:z147_12_k7 N data_ m_ M0=some r:=h
   unfold z147_12_k7 at h
   refine wq (wR J 2 Q ?_)
   refine wC (σ:=(List Int)) (fun st=>(zz1 st c0_ [])) (fun st=>z147_12_k5 st=some r) ?_ (fun j9=>?_)
   ·intro O0 h
    replace h:z147_12_k5 O0=some r:=h
    unfold z147_12_k5 at h
    cases h
    exact we J func147 [] Q Q Q Q
   refine wo ?_
   refine wI (σ:=(List Int) × Int) (fun st=>(zz1 st.1 c0_ [(0,.S 0),(14,.I M0),(17,.I st.2)])) (fun n st=>z147_12_l6 M0 n st.1 st.2) (r:=r) (fun _=>rfl) ?_ (fun ih=>?_)
   ·intro n7 ih11
    rintro ⟨R0,S0⟩ h
    replace h:z147_12_l6 M0 (n7+1) R0 S0=some r:=h
    unfold z147_12_l6 at h
    refine wq (wV (zz1 R0 c0_ [(0,.S 0),(14,.I M0),(17,.I S0),(110,.O (decide (S0 > M0)))]) J 3 ?_)
    obtain ⟨K,h⟩|⟨K,h⟩:=oc' h
    ·exact wf K Q (wz rfl (wU (j9 R0 h)))
    refine wt K Q (wi (wq (wo (wN (fun T0 U0 V0=>?_)))))
    have X0:T0 0 (zz3 [(0,.S 0)] [(113,.S 0)]):=U0 _ _ (wL J)
    have Y0:T0 1 (zz3 [(17,.I S0)] [(114,.I S0)]):=U0 _ _ (wL J)
    have Z0:T0 2 (zz3 [(0,.S 0)] [(115,.S 0)]):=U0 _ _ (wL J)
    have a1:T0 3 (zz3 [(17,.I S0)] [(116,.I S0)]):=U0 _ _ (wL J)
    have b1:T0 4 (zz3 [(116,.I S0)] [(117,.I (w64 (S0-1)))]):=U0 _ _ (wL J)
    have c1:T0 5 (zz3 [(0,.S 0)] [(118,.S 0)]):=U0 _ _ (wL J)
    have d1:T0 6 (zz3 [(17,.I S0)] [(119,.I S0)]):=U0 _ _ (wL J)
    have e1:T0 7 (zz3 [(119,.I S0)] [(120,.I (w64 (S0-1)))]):=U0 _ _ (wL J)
    obtain ⟨f1,g1,h⟩:=ob h
    have i1:T0 8 (zz51 R0 (((w64 (S0-(1:Int)))).toNat * ((rI .i64)).sz) [(118,.S 0),(120,.I (w64 (S0-1)))] [(121,.P 6 0)]):=U0 _ _ (wO Q Q Q (fun _ _ _ _ _ _ _ k=>wX J g1 Q Q Q Q Q Q Q Q Q (k)) rfl)
    have k1:T0 9 (zz52 (((w64 (S0-(1:Int)))).toNat * ((rI .i64)).sz) R0 [(121,.P 6 0)] [(122,.I f1)]):=U0 _ _ (wO Q Q Q (fun _ _ _ _ _ _ _ k=>wd (oI .i64) J g1 Q Q Q Q Q Q Q Q Q Q (k)) rfl)
    have l1:T0 10 (zz4 [(0,.S 0)] [(123,.S 0)]):=U0 _ _ (wL J)
    have m1:T0 11 (zz4 [(17,.I S0)] [(124,.I S0)]):=U0 _ _ (wL J)
    obtain ⟨o1,p1,h⟩:=ob h
    have q1:T0 12 (zz53 R0 ((S0).toNat * ((rI .i64)).sz) [(123,.S 0),(124,.I S0)] [(125,.P 7 0)]):=U0 _ _ (wO Q Q Q (fun _ _ _ _ _ _ _ k=>wX J p1 Q Q Q Q Q Q Q Q Q (k)) rfl)
    have s1:T0 13 (zz54 ((S0).toNat * ((rI .i64)).sz) R0 [(125,.P 7 0)] [(126,.I o1)]):=U0 _ _ (wO Q Q Q (fun _ _ _ _ _ _ _ k=>wd (oI .i64) J p1 Q Q Q Q Q Q Q Q Q Q (k)) rfl)
    obtain ⟨t1,u1,h⟩:=ob h
    have v1:T0 14 (zz106 R0 ((S0).toNat * ((rI .i64)).sz) [(113,.S 0),(114,.I S0)] [(127,.P 8 0)]):=U0 _ _ (wO Q Q Q (fun _ _ _ _ _ _ _ k=>wX J u1 Q Q Q Q Q Q Q Q Q (k)) rfl)
    have x1:T0 15 (zz128 ((S0).toNat * ((rI .i64)).sz) R0 (setL' R0 S0 f1) [(122,.I f1),(127,.P 8 0)] []):=U0 _ _ (wO Q Q Q (fun _ _ _ _ _ _ _ k=>WPr.sto (oI .i64) J f1 u1 Q Q Q Q Q Q Q Q Q Q (by exact rfl) rfl (k)) rfl)
    obtain ⟨y1,z1,h⟩:=ob h
    have A1:T0 16 (zz107 (setL' R0 S0 f1) (((w64 (S0-(1:Int)))).toNat * ((rI .i64)).sz) [(115,.S 0),(117,.I (w64 (S0-1)))] [(128,.P 9 0)]):=U0 _ _ (wO Q Q Q (fun _ _ _ _ _ _ _ k=>wX J z1 Q Q Q Q Q Q Q Q Q (k)) rfl)
    have B1:T0 17 (zz129 (((w64 (S0-(1:Int)))).toNat * ((rI .i64)).sz) (setL' R0 S0 f1) (setL' (setL' R0 S0 f1) (w64 (S0-1)) o1) [(126,.I o1),(128,.P 9 0)] []):=U0 _ _ (wO Q Q Q (fun _ _ _ _ _ _ _ k=>WPr.sto (oI .i64) J o1 z1 Q Q Q Q Q Q Q Q Q Q (by exact rfl) rfl (k)) rfl)
    exact wD (t:=(zz63 (setL' (setL' R0 S0 f1) (w64 (S0-1)) o1) c0_ [(0,.S 0),(14,.I M0),(17,.I S0)])) [0,0,0,0,8,0,0,64,224,480,0,0,3072,7168,16355,32739,65535,131071] (.cons (V0 _ _ X0) (.cons (V0 _ _ Y0) (.cons (V0 _ _ Z0) (.cons (V0 _ _ a1) (.cons (V0 _ _ b1) (.cons (V0 _ _ c1) (.cons (V0 _ _ d1) (.cons (V0 _ _ e1) (.cons (V0 _ _ i1) (.cons (V0 _ _ k1) (.cons (V0 _ _ l1) (.cons (V0 _ _ m1) (.cons (V0 _ _ q1) (.cons (V0 _ _ s1) (.cons (V0 _ _ v1) (.cons (V0 _ _ x1) (.cons (V0 _ _ A1) (.cons (V0 _ _ B1) .nil)))))))))))))))))) (by kernel_rfl) (by kernel_rfl) (by kernel_rfl) (by kernel_rfl) (wb (wT (zz63 (setL' (setL' R0 S0 f1) (w64 (S0-1)) o1) c0_ [(0,.S 0),(14,.I M0),(17,.I (w64 (S0-1)))]) J 3 (wU (ih11 ((setL' (setL' R0 S0 f1) (w64 (S0-1)) o1),(w64 (S0-1))) h))))
   exact wU (ih N (data_,m_) h)
  refine wo ?_
  refine wI (σ:=Int × Int) (fun st=>(zz1 data_ c0_ [(0,.S 0),(2,.I m_),(4,.c (.cl 48 [] [1])),(14,.I st.1),(15,.I st.2)])) (fun n st=>z147_12_l8 N data_ m_ c0_ n st.1 st.2) (r:=r) (fun _=>rfl) ?_ (fun ih=>?_)
  ·intro n8 ih12
   rintro ⟨C1,D1⟩ h
   replace h:z147_12_l8 N data_ m_ c0_ (n8+1) C1 D1=some r:=h
   unfold z147_12_l8 at h
   refine wq (wV (zz1 data_ c0_ [(0,.S 0),(2,.I m_),(4,.c (.cl 48 [] [1])),(14,.I C1),(15,.I D1),(85,.O (decide (C1 < D1)))]) J 3 ?_)
   obtain ⟨K,h⟩|⟨K,h⟩:=oc' h
   ·exact wf K Q (wz rfl (wU (j7 C1 h)))
   refine wt K Q (wi (wo (wq (wg (xw [4,5,6] (zz1 data_ c0_ [(0,.S 0),(2,.I m_),(4,.c (.cl 48 [] [1])),(14,.I C1),(15,.I D1),(89,.c (.i .u64 (wk .u64 ((w64 (C1+D1))))))]) J 4 ?_)))))
   obtain ⟨G1,H1,h⟩:=ob h
   refine WPr.bin H1 Q Q Q Q Q Q Q Q (wx (zz1 data_ c0_ [(0,.S 0),(2,.I m_),(4,.c (.cl 48 [] [1])),(14,.I C1),(15,.I D1),(16,.I (w64 (G1)))]) J 2 (wn (wq (wN (fun I1 L1 M1=>?_)))))
   have O1:I1 0 (zz3 [(4,.c (.cl 48 [] [1]))] [(92,.c (.cl 48 [] [1]))]):=L1 _ _ (wL J)
   have R1:I1 1 (zz3 [(0,.S 0)] [(93,.S 0)]):=L1 _ _ (wL J)
   have S1:I1 2 (zz3 [(2,.I m_)] [(94,.I m_)]):=L1 _ _ (wL J)
   obtain ⟨T1,U1,h⟩:=ob h
   have V1:I1 3 (zz51 data_ ((m_).toNat * ((rI .i64)).sz) [(93,.S 0),(94,.I m_)] [(95,.P 6 0)]):=L1 _ _ (wO Q Q Q (fun _ _ _ _ _ _ _ k=>wX J U1 Q Q Q Q Q Q Q Q Q (k)) rfl)
   have X1:I1 4 (zz52 ((m_).toNat * ((rI .i64)).sz) data_ [(95,.P 6 0)] [(96,.I T1)]):=L1 _ _ (wO Q Q Q (fun _ _ _ _ _ _ _ k=>wd (oI .i64) J U1 Q Q Q Q Q Q Q Q Q Q (k)) rfl)
   have Y1:I1 5 (zz4 [(0,.S 0)] [(97,.S 0)]):=L1 _ _ (wL J)
   have Z1:I1 6 (zz4 [(16,.I (w64 (G1)))] [(98,.I (w64 (G1)))]):=L1 _ _ (wL J)
   obtain ⟨a2,b2,h⟩:=ob h
   have c2:I1 7 (zz53 data_ (((w64 (G1))).toNat * ((rI .i64)).sz) [(97,.S 0),(98,.I (w64 (G1)))] [(99,.P 7 0)]):=L1 _ _ (wO Q Q Q (fun _ _ _ _ _ _ _ k=>wX J b2 Q Q Q Q Q Q Q Q Q (k)) rfl)
   have d2:I1 8 (zz54 (((w64 (G1))).toNat * ((rI .i64)).sz) data_ [(99,.P 7 0)] [(100,.I a2)]):=L1 _ _ (wO Q Q Q (fun _ _ _ _ _ _ _ k=>wd (oI .i64) J b2 Q Q Q Q Q Q Q Q Q Q (k)) rfl)
   obtain ⟨e2,f2,h⟩:=ob h
   have g2:I1 9 (zz105 c0_ [(92,.c (.cl 48 [] [1])),(96,.I T1),(100,.I a2)] [(101,.I e2)]):=L1 _ _ (wO Q Q Q (fun _ _ _ _ _ _ _ k=>WPr.callc (z48_8_ct N T1 a2 c0_ _ f2) [(0,.bp 1 0),(1,.sl 2),(2,.sl 3),(3,.sl 4),(4,.sl 5)] [] Q Q Q Q Q Q Q Q Q (.inl rfl) rfl (k)) rfl)
   have i2:I1 10 (zz12 [(101,.I e2)] [(102,.O (decide (e2 < 0)))]):=L1 _ _ (wL J)
   have j2:I1 11 (zz12 [(102,.O (decide (e2 < 0)))] [(103,.O (!(decide (e2 < 0))))]):=L1 _ _ (wL J)
   refine wD (t:=(zz55 data_ c0_ [(0,.S 0),(2,.I m_),(4,.c (.cl 48 [] [1])),(14,.I C1),(15,.I D1),(16,.I (w64 (G1))),(103,.O (!(decide (e2 < 0))))])) [0,0,0,6,14,0,0,96,224,511,1023,2047] (.cons (M1 _ _ O1) (.cons (M1 _ _ R1) (.cons (M1 _ _ S1) (.cons (M1 _ _ V1) (.cons (M1 _ _ X1) (.cons (M1 _ _ Y1) (.cons (M1 _ _ Z1) (.cons (M1 _ _ c2) (.cons (M1 _ _ d2) (.cons (M1 _ _ g2) (.cons (M1 _ _ i2) (.cons (M1 _ _ j2) .nil)))))))))))) (by kernel_rfl) (by kernel_rfl) (by kernel_rfl) (by kernel_rfl) ?_
   obtain ⟨K,h⟩|⟨K,h⟩:=oc h
   ·exact wt K Q (wT (zz55 data_ c0_ [(0,.S 0),(2,.I m_),(4,.c (.cl 48 [] [1])),(14,.I (w64 ((w64 (G1))+1))),(15,.I D1)]) J 3 (wb (wU (ih12 ((w64 ((w64 (G1))+1)),D1) h))))
   exact wf K Q (wS J 2 Q (wb (wU (ih12 (C1,(w64 (G1))) h))))
  exact wU (ih N (a_,m_) h)
 refine wf K Q (wi (wq (wg (xw [4,5,6] (zz1 data_ c0_ [(0,.S 0),(1,.I a_),(2,.I m_),(3,.I b_),(4,.c (.cl 48 [] [1])),(132,.c (.i .u64 (wk .u64 ((w64 (a_+b_))))))]) J 4 ?_))))
 obtain ⟨k2,l2,h⟩:=ob h
 refine WPr.bin l2 Q Q Q Q Q Q Q Q (wx (zz1 data_ c0_ [(0,.S 0),(1,.I a_),(2,.I m_),(3,.I b_),(4,.c (.cl 48 [] [1])),(18,.I (w64 (k2)))]) J 2 (wn (wV (zz1 data_ c0_ [(0,.S 0),(1,.I a_),(2,.I m_),(3,.I b_),(4,.c (.cl 48 [] [1])),(18,.I (w64 (k2))),(19,.I (w64 ((w64 (k2))+m_)))]) J 4 (wR J 2 Q (wq (wV (zz1 data_ c0_ [(0,.S 0),(1,.I a_),(2,.I m_),(3,.I b_),(4,.c (.cl 48 [] [1])),(18,.I (w64 (k2))),(19,.I (w64 ((w64 (k2))+m_))),(140,.O (decide (m_ > (w64 (k2)))))]) J 3 ?_))))))
 refine wC (σ:=Int × Int) (fun st=>(zz1 data_ c0_ [(0,.S 0),(1,.I a_),(2,.I m_),(3,.I b_),(4,.c (.cl 48 [] [1])),(18,.I (w64 (k2))),(19,.I (w64 ((w64 (k2))+m_))),(20,.I st.1),(21,.I st.2)])) (fun st=>z147_12_k15 N rc data_ a_ m_ b_ c0_ k2 st.1 st.2=some r) ?_ (fun j13=>?_)
 ·rintro ⟨m2,o2⟩ h
  replace h:z147_12_k15 N rc data_ a_ m_ b_ c0_ k2 m2 o2=some r:=h
  unfold z147_12_k15 at h
  refine wV (zz1 data_ c0_ [(0,.S 0),(1,.I a_),(2,.I m_),(3,.I b_),(4,.c (.cl 48 [] [1])),(18,.I (w64 (k2))),(19,.I (w64 ((w64 (k2))+m_))),(20,.I m2),(21,.I o2),(22,.I (w64 ((w64 ((w64 (k2))+m_))-1)))]) J 3 (wq ?_)
  refine wC (σ:=Int) (fun st=>(zz1 data_ c0_ [(0,.S 0),(1,.I a_),(2,.I m_),(3,.I b_),(4,.c (.cl 48 [] [1])),(18,.I (w64 (k2))),(19,.I (w64 ((w64 (k2))+m_))),(20,.I st)])) (fun st=>z147_12_k13 N rc data_ a_ m_ b_ c0_ k2 st=some r) ?_ (fun j14=>?_)
  ·intro p2 h
   replace h:z147_12_k13 N rc data_ a_ m_ b_ c0_ k2 p2=some r:=h
   unfold z147_12_k13 at h
   refine wV (zz1 data_ c0_ [(0,.S 0),(1,.I a_),(2,.I m_),(3,.I b_),(4,.c (.cl 48 [] [1])),(18,.I (w64 (k2))),(20,.I p2),(24,.I (w64 ((w64 ((w64 (k2))+m_))-p2)))]) J 4 (wq (wq (wg (xw [4,5,6,7] (zz1 data_ c0_ [(0,.S 0),(1,.I a_),(2,.I m_),(3,.I b_),(4,.c (.cl 48 [] [1])),(18,.I (w64 (k2))),(20,.I p2),(24,.I (w64 ((w64 ((w64 (k2))+m_))-p2))),(181,.O (decide (p2 < m_)))]) J 4 ?_))))
   refine WP.cutr (σ:=Bool) (fun st=>(zz1 data_ c0_ [(0,.S 0),(1,.I a_),(2,.I m_),(3,.I b_),(4,.c (.cl 48 [] [1])),(18,.I (w64 (k2))),(20,.I p2),(24,.I (w64 ((w64 ((w64 (k2))+m_))-p2))),(185,.O st)])) (fun st=>z147_12_k12 N rc data_ a_ m_ b_ c0_ k2 p2 st=some r) ?_ (fun j16=>?_)
   ·intro q2 h
    replace h:z147_12_k12 N rc data_ a_ m_ b_ c0_ k2 p2 q2=some r:=h
    unfold z147_12_k12 at h
    refine wC (σ:=(List Int)) (fun st=>(zz1 st c0_ [(0,.S 0),(1,.I a_),(3,.I b_),(4,.c (.cl 48 [] [1])),(18,.I (w64 (k2))),(20,.I p2),(24,.I (w64 ((w64 ((w64 (k2))+m_))-p2)))])) (fun st=>z147_12_k11 rc a_ m_ b_ c0_ k2 p2 st=some r) ?_ (fun j17=>?_)
    ·intro s2 h
     replace h:z147_12_k11 rc a_ m_ b_ c0_ k2 p2 s2=some r:=h
     unfold z147_12_k11 at h
     refine wq (wq (wg (xw [4,5,6,7] (zz1 s2 c0_ [(0,.S 0),(1,.I a_),(3,.I b_),(4,.c (.cl 48 [] [1])),(18,.I (w64 (k2))),(20,.I p2),(24,.I (w64 ((w64 ((w64 (k2))+m_))-p2))),(195,.O (decide (a_ < p2)))]) J 4 ?_)))
     refine WP.cutr (σ:=Bool) (fun st=>(zz1 s2 c0_ [(0,.S 0),(1,.I a_),(3,.I b_),(4,.c (.cl 48 [] [1])),(18,.I (w64 (k2))),(20,.I p2),(24,.I (w64 ((w64 ((w64 (k2))+m_))-p2))),(199,.O st)])) (fun st=>z147_12_k10 rc a_ m_ b_ c0_ k2 p2 s2 st=some r) ?_ (fun j18=>?_)
     ·intro t2 h
      replace h:z147_12_k10 rc a_ m_ b_ c0_ k2 p2 s2 t2=some r:=h
      unfold z147_12_k10 at h
      refine wC (σ:=(List Int)) (fun st=>(zz1 st c0_ [(0,.S 0),(3,.I b_),(4,.c (.cl 48 [] [1])),(18,.I (w64 (k2))),(24,.I (w64 ((w64 ((w64 (k2))+m_))-p2)))])) (fun st=>z147_12_k9 rc m_ b_ c0_ k2 p2 st=some r) ?_ (fun j19=>?_)
      ·intro u2 h
       replace h:z147_12_k9 rc m_ b_ c0_ k2 p2 u2=some r:=h
       unfold z147_12_k9 at h
       refine wq (wg (xw [4,5,6,7] (zz1 u2 c0_ [(0,.S 0),(3,.I b_),(4,.c (.cl 48 [] [1])),(18,.I (w64 (k2))),(24,.I (w64 ((w64 ((w64 (k2))+m_))-p2))),(209,.O (decide ((w64 (k2)) < (w64 ((w64 ((w64 (k2))+m_))-p2)))))]) J 4 ?_))
       obtain ⟨K,h⟩|⟨K,h⟩:=oc' h
       ·refine wy 209 K Q (wx (zz1 u2 c0_ [(0,.S 0),(3,.I b_),(4,.c (.cl 48 [] [1])),(18,.I (w64 (k2))),(24,.I (w64 ((w64 ((w64 (k2))+m_))-p2))),(213,.O false)]) J 4 (wn (wf Q Q (wi ?_))))
        cases h
        exact WP.fin J func147 [] Q Q Q Q
       refine wy 209 K Q (wx (zz1 u2 c0_ [(0,.S 0),(3,.I b_),(4,.c (.cl 48 [] [1])),(18,.I (w64 (k2))),(24,.I (w64 ((w64 ((w64 (k2))+m_))-p2))),(213,.O (decide ((w64 ((w64 ((w64 (k2))+m_))-p2)) < b_)))]) J 4 (wn ?_))
       obtain ⟨K,h⟩|⟨K,h⟩:=oc' h
       ·refine wf K Q (wi ?_)
        cases h
        exact WP.fin J func147 [] Q Q Q Q
       refine wt K Q (wg (xw [5] (zz1 u2 c0_ [(214,.S 0),(215,.I (w64 (k2))),(216,.I (w64 ((w64 ((w64 (k2))+m_))-p2))),(217,.I b_),(218,.c (.cl 48 [] [1]))]) J 5 ?_))
       obtain ⟨v2,x2,h⟩:=ob h
       refine wc (rc_slices_symMergeCmpFunc_int_of_global_Edges_1_ct u2 (w64 (k2)) (w64 ((w64 ((w64 (k2))+m_))-p2)) b_ c0_ _ x2) [(0,.sl 0),(1,.bp 1 0),(2,.sl 2),(3,.sl 3),(4,.sl 4),(5,.sl 5)] [] Q Q Q Q Q Q Q Q (.inl rfl) rfl (wx (zz1 v2 c0_ []) J 0 (wn ?_))
       cases h
       exact WP.fin J func147 [] Q Q Q Q
      obtain ⟨K,h⟩|⟨K,h⟩:=oc' h
      ·exact wf K Q (wi (wU (j19 s2 h)))
      refine wt K Q (wg (xw [5] (zz1 s2 c0_ [(0,.S 0),(3,.I b_),(4,.c (.cl 48 [] [1])),(18,.I (w64 (k2))),(24,.I (w64 ((w64 ((w64 (k2))+m_))-p2))),(200,.S 0),(201,.I a_),(202,.I p2),(203,.I (w64 (k2))),(204,.c (.cl 48 [] [1]))]) J 5 ?_))
      obtain ⟨y2,z2,h⟩:=ob h
      exact wc (rc_slices_symMergeCmpFunc_int_of_global_Edges_1_ct s2 a_ p2 (w64 (k2)) c0_ _ z2) [(0,.sl 0),(1,.bp 1 0),(2,.sl 2),(3,.sl 3),(4,.sl 4),(5,.sl 5)] [] Q Q Q Q Q Q Q Q (.inl rfl) rfl (wx (zz1 y2 c0_ [(0,.S 0),(3,.I b_),(4,.c (.cl 48 [] [1])),(18,.I (w64 (k2))),(24,.I (w64 ((w64 ((w64 (k2))+m_))-p2)))]) J 0 (wn (wU (j19 y2 h))))
     obtain ⟨K,h⟩|⟨K,h⟩:=oc h
     ·exact wy 195 K Q (wx (zz1 s2 c0_ [(0,.S 0),(1,.I a_),(3,.I b_),(4,.c (.cl 48 [] [1])),(18,.I (w64 (k2))),(20,.I p2),(24,.I (w64 ((w64 ((w64 (k2))+m_))-p2))),(199,.O (decide (p2 < (w64 (k2)))))]) J 4 (wn (wU (j18 (decide (p2 < (w64 (k2)))) h))))
     exact wy 195 K Q (wx (zz1 s2 c0_ [(0,.S 0),(1,.I a_),(3,.I b_),(4,.c (.cl 48 [] [1])),(18,.I (w64 (k2))),(20,.I p2),(24,.I (w64 ((w64 ((w64 (k2))+m_))-p2))),(199,.O false)]) J 4 (wn (wU (j18 false h))))
    obtain ⟨K,h⟩|⟨K,h⟩:=oc' h
    ·exact wf K Q (wi (wU (j17 data_ h)))
    refine wt K Q (wg (xw [5] (zz1 data_ c0_ [(0,.S 0),(1,.I a_),(3,.I b_),(4,.c (.cl 48 [] [1])),(18,.I (w64 (k2))),(20,.I p2),(24,.I (w64 ((w64 ((w64 (k2))+m_))-p2))),(186,.S 0),(187,.I p2),(188,.I m_),(189,.I (w64 ((w64 ((w64 (k2))+m_))-p2))),(190,.c (.cl 48 [] [1]))]) J 5 ?_))
    obtain ⟨A2,B2,h⟩:=ob h
    exact wc (z168_11_ct N data_ p2 m_ (w64 ((w64 ((w64 (k2))+m_))-p2)) c0_ _ B2) [(0,.sl 0),(1,.bp 1 0),(2,.sl 2),(3,.sl 3),(4,.sl 4),(5,.sl 5)] [] Q Q Q Q Q Q Q Q (.inl rfl) rfl (wx (zz1 A2 c0_ [(0,.S 0),(1,.I a_),(3,.I b_),(4,.c (.cl 48 [] [1])),(18,.I (w64 (k2))),(20,.I p2),(24,.I (w64 ((w64 ((w64 (k2))+m_))-p2)))]) J 0 (wn (wU (j17 A2 h))))
   obtain ⟨K,h⟩|⟨K,h⟩:=oc h
   ·exact wy 181 K Q (wx (zz1 data_ c0_ [(0,.S 0),(1,.I a_),(2,.I m_),(3,.I b_),(4,.c (.cl 48 [] [1])),(18,.I (w64 (k2))),(20,.I p2),(24,.I (w64 ((w64 ((w64 (k2))+m_))-p2))),(185,.O (decide (m_ < (w64 ((w64 ((w64 (k2))+m_))-p2)))))]) J 4 (wn (wU (j16 (decide (m_ < (w64 ((w64 ((w64 (k2))+m_))-p2)))) h))))
   exact wy 181 K Q (wx (zz1 data_ c0_ [(0,.S 0),(1,.I a_),(2,.I m_),(3,.I b_),(4,.c (.cl 48 [] [1])),(18,.I (w64 (k2))),(20,.I p2),(24,.I (w64 ((w64 ((w64 (k2))+m_))-p2))),(185,.O false)]) J 4 (wn (wU (j16 false h))))
  refine wo ?_
  refine wI (σ:=Int × Int) (fun st=>(zz1 data_ c0_ [(0,.S 0),(1,.I a_),(2,.I m_),(3,.I b_),(4,.c (.cl 48 [] [1])),(18,.I (w64 (k2))),(19,.I (w64 ((w64 (k2))+m_))),(20,.I st.1),(21,.I st.2),(22,.I (w64 ((w64 ((w64 (k2))+m_))-1)))])) (fun n st=>z147_12_l14 N rc data_ a_ m_ b_ c0_ k2 n st.1 st.2) (r:=r) (fun _=>rfl) ?_ (fun ih=>?_)
  ·intro n10 ih20
   rintro ⟨C2,D2⟩ h
   replace h:z147_12_l14 N rc data_ a_ m_ b_ c0_ k2 (n10+1) C2 D2=some r:=h
   unfold z147_12_l14 at h
   refine wq (wV (zz1 data_ c0_ [(0,.S 0),(1,.I a_),(2,.I m_),(3,.I b_),(4,.c (.cl 48 [] [1])),(18,.I (w64 (k2))),(19,.I (w64 ((w64 (k2))+m_))),(20,.I C2),(21,.I D2),(22,.I (w64 ((w64 ((w64 (k2))+m_))-1))),(151,.O (decide (C2 < D2)))]) J 3 ?_)
   obtain ⟨K,h⟩|⟨K,h⟩:=oc' h
   ·exact wf K Q (wz rfl (wU (j14 C2 h)))
   refine wt K Q (wi (wo (wq (wg (xw [4,5,6] (zz1 data_ c0_ [(0,.S 0),(1,.I a_),(2,.I m_),(3,.I b_),(4,.c (.cl 48 [] [1])),(18,.I (w64 (k2))),(19,.I (w64 ((w64 (k2))+m_))),(20,.I C2),(21,.I D2),(22,.I (w64 ((w64 ((w64 (k2))+m_))-1))),(155,.c (.i .u64 (wk .u64 ((w64 (C2+D2))))))]) J 4 ?_)))))
   obtain ⟨G2,H2,h⟩:=ob h
   refine WPr.bin H2 Q Q Q Q Q Q Q Q (wx (zz1 data_ c0_ [(0,.S 0),(1,.I a_),(2,.I m_),(3,.I b_),(4,.c (.cl 48 [] [1])),(18,.I (w64 (k2))),(19,.I (w64 ((w64 (k2))+m_))),(20,.I C2),(21,.I D2),(22,.I (w64 ((w64 ((w64 (k2))+m_))-1))),(23,.I (w64 (G2)))]) J 2 (wn (wq (wN (fun I2 L2 M2=>?_)))))
   have O2:I2 0 (zz3 [(4,.c (.cl 48 [] [1]))] [(158,.c (.cl 48 [] [1]))]):=L2 _ _ (wL J)
   have R2:I2 1 (zz3 [(0,.S 0)] [(159,.S 0)]):=L2 _ _ (wL J)
   have S2:I2 2 (zz3 [(22,.I (w64 ((w64 ((w64 (k2))+m_))-1)))] [(160,.I (w64 ((w64 ((w64 (k2))+m_))-1)))]):=L2 _ _ (wL J)
   have T2:I2 3 (zz3 [(23,.I (w64 (G2)))] [(161,.I (w64 (G2)))]):=L2 _ _ (wL J)
   have U2:I2 4 (zz3 [(160,.I (w64 ((w64 ((w64 (k2))+m_))-1))),(161,.I (w64 (G2)))] [(162,.I (w64 ((w64 ((w64 ((w64 (k2))+m_))-1))-(w64 (G2)))))]):=L2 _ _ (wL J)
   obtain ⟨V2,X2,h⟩:=ob h
   have Y2:I2 5 (zz51 data_ (((w64 ((w64 ((w64 ((w64 (k2))+m_))-1))-(w64 (G2))))).toNat * ((rI .i64)).sz) [(159,.S 0),(162,.I (w64 ((w64 ((w64 ((w64 (k2))+m_))-1))-(w64 (G2)))))] [(163,.P 6 0)]):=L2 _ _ (wO Q Q Q (fun _ _ _ _ _ _ _ k=>wX J X2 Q Q Q Q Q Q Q Q Q (k)) rfl)
   have Z2:I2 6 (zz52 (((w64 ((w64 ((w64 ((w64 (k2))+m_))-1))-(w64 (G2))))).toNat * ((rI .i64)).sz) data_ [(163,.P 6 0)] [(164,.I V2)]):=L2 _ _ (wO Q Q Q (fun _ _ _ _ _ _ _ k=>wd (oI .i64) J X2 Q Q Q Q Q Q Q Q Q Q (k)) rfl)
   have a3:I2 7 (zz4 [(0,.S 0)] [(165,.S 0)]):=L2 _ _ (wL J)
   have b3:I2 8 (zz4 [(23,.I (w64 (G2)))] [(166,.I (w64 (G2)))]):=L2 _ _ (wL J)
   obtain ⟨c3,d3,h⟩:=ob h
   have e3:I2 9 (zz53 data_ (((w64 (G2))).toNat * ((rI .i64)).sz) [(165,.S 0),(166,.I (w64 (G2)))] [(167,.P 7 0)]):=L2 _ _ (wO Q Q Q (fun _ _ _ _ _ _ _ k=>wX J d3 Q Q Q Q Q Q Q Q Q (k)) rfl)
   have f3:I2 10 (zz54 (((w64 (G2))).toNat * ((rI .i64)).sz) data_ [(167,.P 7 0)] [(168,.I c3)]):=L2 _ _ (wO Q Q Q (fun _ _ _ _ _ _ _ k=>wd (oI .i64) J d3 Q Q Q Q Q Q Q Q Q Q (k)) rfl)
   obtain ⟨g3,i3,h⟩:=ob h
   have k3:I2 11 (zz105 c0_ [(158,.c (.cl 48 [] [1])),(164,.I V2),(168,.I c3)] [(169,.I g3)]):=L2 _ _ (wO Q Q Q (fun _ _ _ _ _ _ _ k=>WPr.callc (z48_8_ct N V2 c3 c0_ _ i3) [(0,.bp 1 0),(1,.sl 2),(2,.sl 3),(3,.sl 4),(4,.sl 5)] [] Q Q Q Q Q Q Q Q Q (.inl rfl) rfl (k)) rfl)
   have l3:I2 12 (zz12 [(169,.I g3)] [(170,.O (decide (g3 < 0)))]):=L2 _ _ (wL J)
   have m3:I2 13 (zz12 [(170,.O (decide (g3 < 0)))] [(171,.O (!(decide (g3 < 0))))]):=L2 _ _ (wL J)
   refine wD (t:=(zz55 data_ c0_ [(0,.S 0),(1,.I a_),(2,.I m_),(3,.I b_),(4,.c (.cl 48 [] [1])),(18,.I (w64 (k2))),(19,.I (w64 ((w64 (k2))+m_))),(20,.I C2),(21,.I D2),(22,.I (w64 ((w64 ((w64 (k2))+m_))-1))),(23,.I (w64 (G2))),(171,.O (!(decide (g3 < 0))))])) [0,0,0,0,12,30,62,0,0,384,896,2047,4095,8191] (.cons (M2 _ _ O2) (.cons (M2 _ _ R2) (.cons (M2 _ _ S2) (.cons (M2 _ _ T2) (.cons (M2 _ _ U2) (.cons (M2 _ _ Y2) (.cons (M2 _ _ Z2) (.cons (M2 _ _ a3) (.cons (M2 _ _ b3) (.cons (M2 _ _ e3) (.cons (M2 _ _ f3) (.cons (M2 _ _ k3) (.cons (M2 _ _ l3) (.cons (M2 _ _ m3) .nil)))))))))))))) (by kernel_rfl) (by kernel_rfl) (by kernel_rfl) (by kernel_rfl) ?_
   obtain ⟨K,h⟩|⟨K,h⟩:=oc h
   ·exact wt K Q (wT (zz55 data_ c0_ [(0,.S 0),(1,.I a_),(2,.I m_),(3,.I b_),(4,.c (.cl 48 [] [1])),(18,.I (w64 (k2))),(19,.I (w64 ((w64 (k2))+m_))),(20,.I (w64 ((w64 (G2))+1))),(21,.I D2),(22,.I (w64 ((w64 ((w64 (k2))+m_))-1)))]) J 3 (wb (wU (ih20 ((w64 ((w64 (G2))+1)),D2) h))))
   exact wf K Q (wS J 2 Q (wb (wU (ih20 (C2,(w64 (G2))) h))))
  exact wU (ih N (m2,o2) h)
 obtain ⟨K,h⟩|⟨K,h⟩:=oc h
 ·exact wt K Q (wV (zz1 data_ c0_ [(0,.S 0),(1,.I a_),(2,.I m_),(3,.I b_),(4,.c (.cl 48 [] [1])),(18,.I (w64 (k2))),(19,.I (w64 ((w64 (k2))+m_))),(20,.I (w64 ((w64 ((w64 (k2))+m_))-b_)))]) J 4 (wS J 2 Q (wU (j13 ((w64 ((w64 ((w64 (k2))+m_))-b_)),(w64 (k2))) h))))
 exact wf K Q (wR J 2 Q (wT (zz1 data_ c0_ [(0,.S 0),(1,.I a_),(2,.I m_),(3,.I b_),(4,.c (.cl 48 [] [1])),(18,.I (w64 (k2))),(19,.I (w64 ((w64 (k2))+m_))),(20,.I a_),(21,.I m_)]) J 2 (wU (j13 (a_,m_) h))))
theorem z147_12_rct:∀ (N:Nat) (data_:(List Int)) (a_:Int) (m_:Int) (b_:Int) (c0_:T4) (r:(List Int)) (h:z147_12_r N data_ a_ m_ b_ c0_=some r),Fn Tryz.prog 147 ⟨6,[.S 0,.I a_,.I m_,.I b_,.c (.cl 48 [] [1])],(vV4 2 3 4 5 c0_ []),[(0,.own (rI .i64) data_ false),(1,.box (cC4 2 3 4 5 c0_) 27)],6,.t [],[],[(0,.own (rI .i64) r false),(1,.box (cC4 2 3 4 5 c0_) 27)]⟩:=by
 intro N
 induction N with
 | zero=>intros;rename_i h;cases h
 | succ N ih=>intro data_ a_ m_ b_ c0_ r h;exact z147_12_b_ct N (z147_12_r N) ih data_ a_ m_ b_ c0_ r h
theorem z147_12_ct (N:Nat) (data_:(List Int)) (a_:Int) (m_:Int) (b_:Int) (c0_:T4) (r:(List Int)) (h:z147_12 N data_ a_ m_ b_ c0_=some r):Fn Tryz.prog 147 ⟨6,[.S 0,.I a_,.I m_,.I b_,.c (.cl 48 [] [1])],(vV4 2 3 4 5 c0_ []),[(0,.own (rI .i64) data_ false),(1,.box (cC4 2 3 4 5 c0_) 27)],6,.t [],[],[(0,.own (rI .i64) r false),(1,.box (cC4 2 3 4 5 c0_) 27)]⟩:=z147_12_rct N data_ a_ m_ b_ c0_ r h
theorem z110_13_ct (N:Nat) (data_:(List Int)) (n_:Int) (c0_:T4) (r:(List Int)) (h:z110_13 N data_ n_ c0_=some r) :
 Fn Tryz.prog 110 ⟨6,[.S 0,.I n_,.c (.cl 48 [] [1])],(vV4 2 3 4 5 c0_ []),[(0,.own (rI .i64) data_ false),(1,.box (cC4 2 3 4 5 c0_) 27)],6,.t [],[],[(0,.own (rI .i64) r false),(1,.box (cC4 2 3 4 5 c0_) 27)]⟩:=by
 refine wF func110 Q Q (fun E F w=>?_)
 unfold z110_13 at h
 refine wR J 1 Q (wV (zz1 data_ c0_ [(0,.S 0),(1,.I n_),(2,.c (.cl 48 [] [1])),(6,.I 20),(7,.I 0),(8,.I 20)]) J 3 (wq ?_))
 refine wC (σ:=(List Int) × Int) (fun st=>(zz1 st.1 c0_ [(0,.S 0),(1,.I n_),(2,.c (.cl 48 [] [1])),(6,.I 20),(7,.I st.2)])) (fun st=>z110_13_k5 N n_ c0_ st.1 st.2=some r) ?_ (fun j1=>?_)
 ·rintro ⟨d,e⟩ h
  replace h:z110_13_k5 N n_ c0_ d e=some r:=h
  unfold z110_13_k5 at h
  refine wq (wg (xw [4] (zz1 d c0_ [(0,.S 0),(1,.I n_),(2,.c (.cl 48 [] [1])),(6,.I 20),(23,.S 0),(24,.I e),(25,.I n_),(26,.c (.cl 48 [] [1]))]) J 4 ?_))
  obtain ⟨x5,f,h⟩:=ob h
  refine wc (z146_9_ct N d e n_ c0_ _ f) [(0,.sl 0),(1,.bp 1 0),(2,.sl 2),(3,.sl 3),(4,.sl 4),(5,.sl 5)] [] Q Q Q Q Q Q Q Q (.inl rfl) rfl (wx (zz1 x5 c0_ [(0,.S 0),(1,.I n_),(2,.c (.cl 48 [] [1])),(6,.I 20)]) J 0 (wn ?_))
  refine wC (σ:=(List Int)) (fun st=>(zz1 st c0_ [])) (fun st=>z110_13_k1 st=some r) ?_ (fun j3=>?_)
  ·intro g h
   replace h:z110_13_k1 g=some r:=h
   unfold z110_13_k1 at h
   cases h
   exact WP.fin J func110 [] Q Q Q Q
  refine wo ?_
  refine wI (σ:=(List Int) × Int) (fun st=>(zz1 st.1 c0_ [(0,.S 0),(1,.I n_),(2,.c (.cl 48 [] [1])),(6,.I st.2)])) (fun n st=>z110_13_l2 N n_ c0_ n st.1 st.2) (r:=r) (fun _=>rfl) ?_ (fun ih=>?_)
  ·intro n13 ih14
   rintro ⟨i,j⟩ h
   replace h:z110_13_l2 N n_ c0_ (n13+1) i j=some r:=h
   unfold z110_13_l2 at h
   refine wq (wV (zz1 i c0_ [(0,.S 0),(1,.I n_),(2,.c (.cl 48 [] [1])),(6,.I j),(30,.O (decide (j < n_)))]) J 3 ?_)
   obtain ⟨K,h⟩|⟨K,h⟩:=oc' h
   ·exact wf K Q (wz rfl (wU (j3 i h)))
   refine wt K Q (wi (wo (wV (zz1 i c0_ [(0,.S 0),(1,.I n_),(2,.c (.cl 48 [] [1])),(6,.I j),(7,.I 0),(8,.I (w64 (2 * j)))]) J 4 (wq ?_))))
   refine wC (σ:=(List Int) × Int) (fun st=>(zz1 st.1 c0_ [(0,.S 0),(1,.I n_),(2,.c (.cl 48 [] [1])),(6,.I j),(7,.I st.2)])) (fun st=>z110_13_k3 N n_ c0_ j (z110_13_l2 N n_ c0_ n13) st.1 st.2=some r) ?_ (fun j21=>?_)
   ·rintro ⟨k,l⟩ h
    replace h:z110_13_k3 N n_ c0_ j (z110_13_l2 N n_ c0_ n13) k l=some r:=h
    unfold z110_13_k3 at h
    refine wq (wV (zz1 k c0_ [(0,.S 0),(1,.I n_),(2,.c (.cl 48 [] [1])),(6,.I j),(7,.I l),(9,.I (w64 (l+j)))]) J 4 (wV (zz1 k c0_ [(0,.S 0),(1,.I n_),(2,.c (.cl 48 [] [1])),(6,.I j),(7,.I l),(9,.I (w64 (l+j))),(54,.O (decide ((w64 (l+j)) < n_)))]) J 3 ?_))
    obtain ⟨K,h⟩|⟨K,h⟩:=oc' h
    ·exact wf K Q (wi (wT (zz1 k c0_ [(0,.S 0),(1,.I n_),(2,.c (.cl 48 [] [1])),(6,.I (w64 (j * 2)))]) J 3 (wb (wU (ih14 (k,(w64 (j * 2))) h)))))
    refine wt K Q (wg (xw [5] (zz1 k c0_ [(0,.S 0),(1,.I n_),(2,.c (.cl 48 [] [1])),(6,.I j),(55,.S 0),(56,.I l),(57,.I (w64 (l+j))),(58,.I n_),(59,.c (.cl 48 [] [1]))]) J 5 ?_))
    obtain ⟨m,o,h⟩:=ob h
    exact wc (z147_12_ct N k l (w64 (l+j)) n_ c0_ _ o) [(0,.sl 0),(1,.bp 1 0),(2,.sl 2),(3,.sl 3),(4,.sl 4),(5,.sl 5)] [] Q Q Q Q Q Q Q Q (.inl rfl) rfl (wx (zz1 m c0_ [(0,.S 0),(1,.I n_),(2,.c (.cl 48 [] [1])),(6,.I j)]) J 0 (wn (wT (zz1 m c0_ [(0,.S 0),(1,.I n_),(2,.c (.cl 48 [] [1])),(6,.I (w64 (j * 2)))]) J 3 (wb (wU (ih14 (m,(w64 (j * 2))) h))))))
   refine wo ?_
   refine wI (σ:=(List Int) × Int × Int) (fun st=>(zz1 st.1 c0_ [(0,.S 0),(1,.I n_),(2,.c (.cl 48 [] [1])),(6,.I j),(7,.I st.2.1),(8,.I st.2.2)])) (fun n st=>z110_13_l4 N n_ c0_ j (z110_13_l2 N n_ c0_ n13) n st.1 st.2.1 st.2.2) (r:=r) (fun _=>rfl) ?_ (fun ih=>?_)
   ·intro n15 ih23
    rintro ⟨p,q,s⟩ h
    replace h:z110_13_l4 N n_ c0_ j (z110_13_l2 N n_ c0_ n13) (n15+1) p q s=some r:=h
    unfold z110_13_l4 at h
    refine wq (wV (zz1 p c0_ [(0,.S 0),(1,.I n_),(2,.c (.cl 48 [] [1])),(6,.I j),(7,.I q),(8,.I s),(35,.O (decide (s≤n_)))]) J 3 ?_)
    obtain ⟨K,h⟩|⟨K,h⟩:=oc' h
    ·exact wf K Q (wz rfl (wU (j21 (p,q) h)))
    refine wt K Q (wi (wo (wq (wg (xw [7] (zz1 p c0_ [(0,.S 0),(1,.I n_),(2,.c (.cl 48 [] [1])),(6,.I j),(8,.I s),(36,.S 0),(37,.I q),(40,.I (w64 (q+j))),(41,.I s),(42,.c (.cl 48 [] [1]))]) J 7 ?_)))))
    obtain ⟨u,v,h⟩:=ob h
    exact wc (z147_12_ct N p q (w64 (q+j)) s c0_ _ v) [(0,.sl 0),(1,.bp 1 0),(2,.sl 2),(3,.sl 3),(4,.sl 4),(5,.sl 5)] [] Q Q Q Q Q Q Q Q (.inl rfl) rfl (wx (zz1 u c0_ [(0,.S 0),(1,.I n_),(2,.c (.cl 48 [] [1])),(6,.I j),(8,.I s)]) J 0 (wn (wR J 2 Q (wT (zz1 u c0_ [(0,.S 0),(1,.I n_),(2,.c (.cl 48 [] [1])),(6,.I j),(7,.I s),(8,.I (w64 (s+(w64 (2 * j)))))]) J 5 (wb (wU (ih23 (u,s,(w64 (s+(w64 (2 * j))))) h)))))))
   exact wU (ih N (i,0,(w64 (2 * j))) h)
  exact wU (ih N (x5,20) h)
 refine wo ?_
 refine wI (σ:=(List Int) × Int × Int) (fun st=>(zz1 st.1 c0_ [(0,.S 0),(1,.I n_),(2,.c (.cl 48 [] [1])),(6,.I 20),(7,.I st.2.1),(8,.I st.2.2)])) (fun n st=>z110_13_l6 N n_ c0_ n st.1 st.2.1 st.2.2) (r:=r) (fun _=>rfl) ?_ (fun ih=>?_)
 ·intro n16 ih24
  rintro ⟨x,y,z⟩ h
  replace h:z110_13_l6 N n_ c0_ (n16+1) x y z=some r:=h
  unfold z110_13_l6 at h
  refine wq (wV (zz1 x c0_ [(0,.S 0),(1,.I n_),(2,.c (.cl 48 [] [1])),(6,.I 20),(7,.I y),(8,.I z),(13,.O (decide (z≤n_)))]) J 3 ?_)
  obtain ⟨K,h⟩|⟨K,h⟩:=oc' h
  ·exact wf K Q (wz rfl (wU (j1 (x,y) h)))
  refine wt K Q (wi (wo (wq (wg (xw [4] (zz1 x c0_ [(0,.S 0),(1,.I n_),(2,.c (.cl 48 [] [1])),(6,.I 20),(8,.I z),(14,.S 0),(15,.I y),(16,.I z),(17,.c (.cl 48 [] [1]))]) J 4 ?_)))))
  obtain ⟨A,C,h⟩:=ob h
  exact wc (z146_9_ct N x y z c0_ _ C) [(0,.sl 0),(1,.bp 1 0),(2,.sl 2),(3,.sl 3),(4,.sl 4),(5,.sl 5)] [] Q Q Q Q Q Q Q Q (.inl rfl) rfl (wx (zz1 A c0_ [(0,.S 0),(1,.I n_),(2,.c (.cl 48 [] [1])),(6,.I 20),(8,.I z)]) J 0 (wn (wR J 2 Q (wT (zz1 A c0_ [(0,.S 0),(1,.I n_),(2,.c (.cl 48 [] [1])),(6,.I 20),(7,.I z),(8,.I (w64 (z+20)))]) J 4 (wb (wU (ih24 (A,z,(w64 (z+20))) h)))))))
 exact wU (ih N (data_,0,20) h)
theorem z47_14_ct (N:Nat) (x_:(List Int)) (c0_:T4) (r:(List Int)) (h:z47_14 N x_ c0_=some r) :
 Fn Tryz.prog 47 ⟨6,[.S 0,.c (.cl 48 [] [1])],(vV4 2 3 4 5 c0_ []),[(0,.own (rI .i64) x_ false),(1,.box (cC4 2 3 4 5 c0_) 27)],6,.t [],[],[(0,.own (rI .i64) r false),(1,.box (cC4 2 3 4 5 c0_) 27)]⟩:=by
 refine wF func47 Q Q (fun E F w=>?_)
 unfold z47_14 at h
 refine wg (xw [4] (zz1 x_ c0_ [(4,.S 0),(6,.I (x_.length:Int)),(7,.c (.cl 48 [] [1]))]) J 4 ?_)
 obtain ⟨x1,d,h⟩:=ob h
 refine wc (z110_13_ct N x_ (x_.length:Int) c0_ _ d) [(0,.sl 0),(1,.bp 1 0),(2,.sl 2),(3,.sl 3),(4,.sl 4),(5,.sl 5)] [] Q Q Q Q Q Q Q Q (.inl rfl) rfl (wx (zz1 x1 c0_ []) J 0 (wn ?_))
 cases h
 exact WP.fin J func47 [] Q Q Q Q
end Gx
end
