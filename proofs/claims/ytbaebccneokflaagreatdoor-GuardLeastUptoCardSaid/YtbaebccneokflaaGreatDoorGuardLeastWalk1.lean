/- Each function of the statement computes what its plain definition says, part 1. -/
import Derived.Test.YtbaebccneokflaaGreatDoorGuardLeastBase
import Derived.Test.YtbaebccneokflaaGreatDoorGuardLeastEvalA
import Derived.Test.YtbaebccneokflaaGreatDoorGuardLeastLib
set_option linter.all false
section
set_option maxRecDepth 10000
set_option maxHeartbeats 4000000
open Go Go.Kx Go.Proofs Tryz
namespace Gx
theorem z11_ct (N:Nat) (r:Bool) (h:z11 N=some r):Fn Tryz.prog 11 ⟨0,[],[],[],0,.O r,[],[]⟩:=by
 cases h
 exact awake_fn
theorem z32_ct (N:Nat) (l_:(List T0)) (r:Bool) (h:z32 N l_=some r) :
 Fn Tryz.prog 32 ⟨1,[.S 0],[(0,.sl rR0 l_)],[],1,.O r,[],[]⟩:=by
 refine wF func32 Q Q (fun E F w=>?_)
 unfold z32 at h
 refine wR J 1 Q (wR J 1 Q (wq (wV (zz13 l_ [(0,.S 0),(2,.O false),(3,.I 0),(4,.I 0)]) J 1 ?_)))
 refine wC (σ:=Int) (fun st=>(zz13 l_ [(0,.S 0),(3,.I st)])) (fun st=>z32_k1 l_ st=some r) ?_ (fun j1=>?_)
 ·intro c h
  replace h:z32_k1 l_ c=some r:=h
  unfold z32_k1 at h
  refine wq (wg (xw [4,5,6,7] (zz13 l_ [(3,.I c),(38,.O (decide ((l_.length:Int)≤60)))]) J 4 ?_))
  obtain ⟨K,h⟩|⟨K,h⟩:=oc h
  ·refine wy 38 K Q (wx (zz13 l_ [(2,.O (decide (c≤100)))]) J 4 (wn ?_))
   cases h
   exact we J func32 [] Q Q Q Q
  refine wy 38 K Q (wx (zz13 l_ [(2,.O false)]) J 4 (wn ?_))
  cases h
  exact we J func32 [] Q Q Q Q
 refine wo ?_
 refine wI (σ:=Int × Int) (fun st=>(zz13 l_ [(0,.S 0),(3,.I st.1),(4,.I st.2)])) (fun n st=>z32_l2 l_ n st.1 st.2) (r:=r) (fun _=>rfl) ?_ (fun ih=>?_)
 ·intro n2 ih3
  rintro ⟨d,e⟩ h
  replace h:z32_l2 l_ (n2+1) d e=some r:=h
  unfold z32_l2 at h
  refine wq (wV (zz13 l_ [(0,.S 0),(3,.I d),(4,.I e),(8,.O (decide (e < (l_.length:Int))))]) J 4 ?_)
  obtain ⟨K,h⟩|⟨K,h⟩:=oc' h
  ·exact wf K Q (wz rfl (wU (j1 d h)))
  refine wt K Q (wi (wq (wo (wQ (by kernel_rfl) (by kernel_rfl) (xq (rg 3 22) (zz13 l_ [(0,.S 0),(4,.I e),(11,.I d),(12,.S 0),(13,.I e)]) J 3 ?_)))))
  obtain ⟨f,g,h⟩:=ob h
  refine WPq.op Q Q (VN.vs (VN.ix oO0 J g Q Q Q Q Q Q Q)) (xq (rg 9 16) ⟨[(0,.S 0),(4,.I e),(11,.I d),(17,.I (f.Fields.length:Int)),(18,.S 0),(19,.I e)],[],[(0,.sl rR0 l_)],5⟩ J 5 ?_)
  obtain ⟨i,j,h⟩:=ob h
  refine WPq.op Q Q (VN.vs (VN.ix oO0 J j Q Q Q Q Q Q Q)) (xq (rg 17 8) ⟨[(0,.S 0),(4,.I e),(11,.I d),(25,.I (w64 ((f.Fields.length:Int)+(i.Guard.Diffs.length:Int)))),(26,.S 0),(27,.I e)],[],[(0,.sl rR0 l_)],9⟩ J 7 ?_)
  obtain ⟨k,l,h⟩:=ob h
  exact WPq.op Q Q (VN.vs (VN.ix oO0 J l Q Q Q Q Q Q Q)) (qx ⟨[(0,.S 0),(3,.I (w64 (d+(w64 ((w64 ((f.Fields.length:Int)+(i.Guard.Diffs.length:Int)))+(k.Guard.Equals.length:Int)))))),(4,.I e)],[],[(0,.sl rR0 l_)],13⟩ J 7 (qn (wb (wT ⟨[(0,.S 0),(3,.I (w64 (d+(w64 ((w64 ((f.Fields.length:Int)+(i.Guard.Diffs.length:Int)))+(k.Guard.Equals.length:Int)))))),(4,.I (w64 (e+1)))],[],[(0,.sl rR0 l_)],13⟩ J 3 (wU (ih3 ((w64 (d+(w64 ((w64 ((f.Fields.length:Int)+(i.Guard.Diffs.length:Int)))+(k.Guard.Equals.length:Int))))),(w64 (e+1))) h))))))
 exact wU (ih N (0,0) h)
theorem z12_ct (N:Nat) (d_:(List T0)) (values_:(List T5)) (known_:(List T5)) (r:Bool) (h:z12 N d_ values_ known_=some r) :
 Fn Tryz.prog 12 ⟨3,[.S 0,.S 1,.S 2],[(0,.sl rR0 d_),(1,.sl rR5 values_),(2,.sl rR5 known_)],[],3,.O r,[],[]⟩:=by
 refine wF func12 Q Q (fun E F w=>?_)
 unfold z12 at h
 refine wR J 1 Q (wq (wg (ws J 1 Q ?_)))
 obtain ⟨x1,c,h⟩:=ob h
 refine wc (z32_ct N d_ _ c) [(0,.sl 0)] [] Q Q Q Q Q Q Q Q (.inl rfl) rfl (xw (rg 3 10) (zz16 d_ values_ known_ [(1,.S 1),(2,.S 2),(9,.O x1)]) J 1 ?_)
 obtain ⟨K,h⟩|⟨K,h⟩:=oc' h
 ·refine wy 9 K Q (wx (zz16 d_ values_ known_ [(6,.O false)]) J 10 (wn ?_))
  cases h
  exact we J func12 [] Q Q Q Q
 refine wy 9 K Q (xw [8,9,10,11,12] (zz16 d_ values_ known_ [(2,.S 2),(14,.O (decide ((values_.length:Int)≤30)))]) J 5 ?_)
 obtain ⟨K,h⟩|⟨K,h⟩:=oc h
 ·refine wy 14 K Q (wx (zz16 d_ values_ known_ [(6,.O (decide ((known_.length:Int)≤60)))]) J 5 (wn ?_))
  cases h
  exact we J func12 [] Q Q Q Q
 refine wy 14 K Q (wx (zz16 d_ values_ known_ [(6,.O false)]) J 5 (wn ?_))
 cases h
 exact we J func12 [] Q Q Q Q
theorem z79_ct (N:Nat) (l_:(List T0)) (r:(List T2)) (h:z79 N l_=some r) :
 Fn Tryz.prog 79 ⟨1,[.S 0],[(0,.sl rR0 l_)],[],2,.S 1,[],[(1,.own rR2 r true)]⟩:=by
 refine wF func79 Q Q (fun E F w=>?_)
 unfold z79 at h
 refine wR J 1 Q (wR J 1 Q (wq (wV (zz13 l_ [(2,.c .nil),(3,.c .nil),(6,.S 0),(7,.I (l_.length:Int)),(8,.I 0)]) J 3 ?_)))
 refine wC (σ:=(List T2)) (fun st=>(zz27 st l_ [(3,.S 1)])) (fun st=>z79_k1 st=some r) ?_ (fun j1=>?_)
 ·intro d h
  replace h:z79_k1 d=some r:=h
  unfold z79_k1 at h
  refine wR J 2 Q ?_
  cases h
  exact we J func79 [(1,.sl 1)] Q Q Q Q
 refine wo ?_
 refine wI (σ:=(List T2) × Int) (fun st=>(zz27 st.1 l_ [(3,.S 1),(6,.S 0),(7,.I (l_.length:Int)),(8,.I st.2)])) (fun n st=>z79_l2 l_ n st.1 st.2) (r:=r) (fun _=>rfl) ?_ (fun ih=>?_)
 ·intro n2 ih3
  rintro ⟨e,f⟩ h
  replace h:z79_l2 l_ (n2+1) e f=some r:=h
  unfold z79_l2 at h
  refine wR J 1 Q (wq ?_)
  obtain ⟨K,h⟩|⟨K,h⟩:=oc' h
  ·exact wf K Q (wz rfl (wU (j1 e h)))
  refine wt K Q (wi (wq (wo (wq (wg ?_)))))
  obtain ⟨g,i,h⟩:=ob h
  refine wj oO0 J i Q Q Q Q Q Q Q Q Q (wx (zz17 e g l_ [(3,.S 1),(5,.B 6 0),(6,.S 0),(7,.I (l_.length:Int)),(8,.I f)]) J 3 (wn (wg (xw [3,4] ⟨[(6,.S 0),(7,.I (l_.length:Int)),(8,.I f),(12,.S 1),(14,.S 3)],[(1,.own rR2 e true)],[(0,.sl rR0 l_),(3,.sl rR2 g.Fields)],7⟩ J 3 ?_))))
  obtain ⟨j,k,h⟩:=ob h
  exact WPr.app J k (by exact (srcI rfl)) Q Q Q Q Q Q Q Q Q Q (wx ⟨[(3,.S 7),(6,.S 0),(7,.I (l_.length:Int)),(8,.I f)],[(7,.own rR2 j true)],[(0,.sl rR0 l_)],8⟩ J 1 (wn (wb (wS J 2 Q (wu [(1,.sl 7)] (ih3 (j,(w64 (f+1))) h) Q Q Q Q)))))
 exact wu [(1,.nil)] (ih N (([]:List T2),0) h) Q Q Q Q
theorem z276_ct (N:Nat) (s_:ByteArray) (r:Int) (h:z276 N s_=some r) :
 Fn Tryz.prog 276 ⟨0,[.c (.s s_)],[],[],0,.I r,[],[]⟩:=by
 refine wF func276 Q Q (fun E F w=>?_)
 unfold z276 at h
 refine wR J 1 Q (wq (wq (wg (ws J 1 Q (WPr.rng J Q Q Q Q Q Q Q Q (fun bk1=>wx (zz14 (itR bk1 s_ (0:Nat)) [(2,.I 0),(4,.c (.v (.pointer (some ⟨bk1,0,none⟩))))]) J 0 (wn ?_)))))))
 refine wC (σ:=Int × Nat) (fun st=>(zz14 (itR bk1 s_ st.2) [(2,.I st.1)])) (fun st=>z276_k1 st.1 st.2=some r) ?_ (fun j1=>?_)
 ·rintro ⟨d,vi0_1⟩ h
  replace h:z276_k1 d vi0_1=some r:=h
  unfold z276_k1 at h
  refine wR J 2 Q ?_
  cases h
  exact we J func276 [] Q Q Q Q
 refine wo ?_
 refine wI (σ:=Int × Nat) (fun st=>(zz14 (itR bk1 s_ st.2) [(2,.I st.1),(4,.c (.v (.pointer (some ⟨bk1,0,none⟩))))])) (fun n st=>z276_l2 s_ n st.1 st.2) (r:=r) (fun _=>rfl) ?_ (fun ih=>?_)
 ·intro n2 ih3
  rintro ⟨e,vi0_3⟩ h
  replace h:z276_l2 s_ (n2+1) e vi0_3=some r:=h
  unfold z276_l2 at h
  refine wq (wg ?_)
  obtain ⟨K,h⟩|⟨K,h⟩:=oc h
  ·exact WPr.nxtT 0 K Q Q Q Q Q Q Q (ws J 1 Q (wn (wq (wt Q Q (wi (wo (wg (wx (zz14 (itR bk1 s_ (vi0_3+(Utf8.decode s_ vi0_3).2)) [(2,.I (w64 (e+1))),(4,.c (.v (.pointer (some ⟨bk1,0,none⟩))))]) J 3 (wn (wb (wU (ih3 ((w64 (e+1)),(vi0_3+(Utf8.decode s_ vi0_3).2)) h))))))))))))
  exact WPr.nxtF 0 K Q Q Q Q Q Q Q (ws J 1 Q (wn (wq (wf Q Q (wz rfl (wU (j1 (e,vi0_3) h)))))))
 exact wU (ih N (0,(0:Nat)) h)
theorem z283_ct (N:Nat) (s_:ByteArray) (r:Int × Int) (h:z283 N s_=some r) :
 Fn Tryz.prog 283 ⟨0,[.c (.s s_)],[],[],0,.t [.inl (.i .i32 r.1),.inl (.I r.2)],[],[]⟩:=by
 refine wF func283 Q Q (fun E F w=>?_)
 unfold z283 at h
 refine wR J 2 Q (wV (zz0 [(0,.c (.s s_)),(2,.c (.i .i32 0)),(3,.I 0),(4,.I (s_.size:Int))]) J 3 (wq (wR J 2 Q ?_)))
 obtain ⟨K,h⟩|⟨K,h⟩:=oc h
 ·refine wt K Q (wV (zz0 [(2,.c (.i .i32 65533)),(3,.I 0)]) J 2 ?_)
  cases h
  exact we J func283 [] Q Q Q Q
 refine wf K Q (wi (wq (wg (xw [1,2] (zz0 [(0,.c (.s s_)),(2,.c (.i .i32 0)),(3,.I 0),(4,.I (s_.size:Int)),(17,.c (.s s_))]) J 1 ?_))))
 obtain ⟨x1,d,h⟩:=ob h
 refine WPr.sx J d Q Q Q Q Q Q Q Q Q (ws J 1 Q (wn (wq (wg (xw [1,2,3] (zz0 [(0,.c (.s s_)),(2,.c (.i .i32 0)),(3,.I 0),(4,.I (s_.size:Int)),(5,.c (.i .u8 x1)),(19,.c (.i .u8 x1))]) J 1 ?_)))))
 cases h
theorem z277_ct (N:Nat) (s_:ByteArray) (r:Int × Int) (h:z277 N s_=some r) :
 Fn Tryz.prog 277 ⟨0,[.c (.s s_)],[],[],0,.t [.inl (.i .i32 r.1),.inl (.I r.2)],[],[]⟩:=by
 refine wF func277 Q Q (fun E F w=>?_)
 unfold z277 at h
 refine wR J 2 Q (wq (wq (wg (xw [3,4,5,6] (zz0 [(0,.c (.s s_)),(2,.c (.i .i32 0)),(3,.I 0),(6,.O (!(s_.toList==(str []).toList)))]) J 3 ?_))))
 obtain ⟨K,h⟩|⟨K,h⟩:=oc' h
 ·refine wy 6 K Q (wx (zz0 [(0,.c (.s s_)),(2,.c (.i .i32 0)),(3,.I 0),(10,.O false)]) J 4 (wn (wf Q Q (wg (ws J 1 Q ?_)))))
  obtain ⟨x4,d,h⟩:=ob h
  refine wc (z283_ct N s_ _ d) [] [] Q Q Q Q Q Q Q Q (.inl rfl) rfl (wx (zz0 [(2,.c (.i .i32 x4.1)),(3,.I x4.2)]) J 5 (wn ?_))
  cases h
  exact we J func277 [] Q Q Q Q
 refine wy 6 K Q (ws J 1 Q ?_)
 obtain ⟨x1,e,h⟩:=ob h
 refine WPr.sx J e Q Q Q Q Q Q Q Q Q (wx (zz0 [(0,.c (.s s_)),(2,.c (.i .i32 0)),(3,.I 0),(10,.O (decide (x1 < 128)))]) J 2 (wn ?_))
 obtain ⟨K,h⟩|⟨K,h⟩:=oc h
 ·refine wt K Q (wq (wg (ws J 1 Q ?_)))
  obtain ⟨x2,f,h⟩:=ob h
  refine WPr.sx J f Q Q Q Q Q Q Q Q Q (wx (zz0 [(2,.c (.i .i32 (wk .i32 (x2)))),(3,.I 1)]) J 3 (wn ?_))
  cases h
  exact we J func277 [] Q Q Q Q
 refine wf K Q (wg (ws J 1 Q ?_))
 obtain ⟨x3,g,h⟩:=ob h
 refine wc (z283_ct N s_ _ g) [] [] Q Q Q Q Q Q Q Q (.inl rfl) rfl (wx (zz0 [(2,.c (.i .i32 x3.1)),(3,.I x3.2)]) J 5 (wn ?_))
 cases h
 exact we J func277 [] Q Q Q Q
theorem z261_ct (N:Nat) (s_:ByteArray) (n_:Int) (r:(List ByteArray)) (h:z261 N s_ n_=some r) :
 Fn Tryz.prog 261 ⟨0,[.c (.s s_),.I n_],[],[],1,.S 0,[],[(0,.own rS r true)]⟩:=by
 refine wF func261 Q Q (fun E F w=>?_)
 unfold z261 at h
 refine wR J 1 Q (wq (wg (ws J 1 Q ?_)))
 obtain ⟨x1,d,h⟩:=ob h
 refine wc (z276_ct N s_ _ d) [] [] Q Q Q Q Q Q Q Q (.inl rfl) rfl (wx (zz0 [(0,.c (.s s_)),(1,.I n_),(4,.c .nil),(5,.I x1)]) J 1 (wn (wq (wq (wg (xw [3,4,5,6] (zz0 [(0,.c (.s s_)),(1,.I n_),(4,.c .nil),(5,.I x1),(14,.O (decide (n_ < 0)))]) J 3 ?_))))))
 refine WP.cutr (σ:=Bool) (fun st=>(zz0 [(0,.c (.s s_)),(1,.I n_),(5,.I x1),(18,.O st)])) (fun st=>z261_k4 N s_ n_ x1 st=some r) ?_ (fun j1=>?_)
 ·intro e h
  replace h:z261_k4 N s_ n_ x1 e=some r:=h
  unfold z261_k4 at h
  refine wC (σ:=Int) (fun st=>(zz0 [(0,.c (.s s_)),(1,.I st)])) (fun st=>z261_k3 N s_ st=some r) ?_ (fun j2=>?_)
  ·intro f h
   replace h:z261_k3 N s_ f=some r:=h
   unfold z261_k3 at h
   refine wq (wg (ws J 1 Q ?_))
   obtain ⟨x2,g,h⟩:=ob h
   refine WPr.mk oS J (str []) g Q Q Q Q Q Q Q Q (by exact an Q Q) rfl (wx (zz5 x2 [(0,.c (.s s_)),(1,.I f),(6,.S 0)]) J 1 (wn (wq (wR J 1 Q ?_))))
   refine wC (σ:=ByteArray × (List ByteArray)) (fun st=>(zz5 st.2 [(0,.c (.s st.1)),(1,.I f),(6,.S 0)])) (fun st=>z261_k1 f st.1 st.2=some r) ?_ (fun j3=>?_)
   ·rintro ⟨i,j⟩ h
    replace h:z261_k1 f i j=some r:=h
    unfold z261_k1 at h
    refine wq (wR J 2 Q ?_)
    obtain ⟨K,h⟩|⟨K,h⟩:=oc' h
    ·refine wf K Q (wi (wV (zz5 j [(4,.S 0)]) J 2 ?_))
     cases h
     exact we J func261 [(0,.sl 0)] Q Q Q Q
    refine wt K Q (wg (xw [4,5] (zz5 j [(6,.S 0),(44,.S 0),(46,.I (w64 (f-1))),(47,.c (.s i))]) J 4 ?_))
    obtain ⟨k,m,h⟩:=ob h
    refine wX J m Q Q Q Q Q Q Q Q Q (WPr.sto oS J i m Q Q Q Q Q Q Q Q Q Q (by exact rfl) rfl (wn (wV (zz18 (setL' j (w64 (f-1)) i) [(4,.S 0)]) J 2 ?_)))
    cases h
    exact we J func261 [(0,.sl 0)] Q Q Q Q
   refine wo ?_
   refine wI (σ:=ByteArray × (List ByteArray) × Int) (fun st=>(zz5 st.2.1 [(0,.c (.s st.1)),(1,.I f),(6,.S 0),(7,.I st.2.2)])) (fun n st=>z261_l2 N f n st.1 st.2.1 st.2.2) (r:=r) (fun _=>rfl) ?_ (fun ih=>?_)
   ·intro n2 ih5
    rintro ⟨o,p,q⟩ h
    replace h:z261_l2 N f (n2+1) o p q=some r:=h
    unfold z261_l2 at h
    refine wq (wV (zz5 p [(0,.c (.s o)),(1,.I f),(6,.S 0),(7,.I q),(25,.O (decide (q < (w64 (f-1)))))]) J 4 ?_)
    obtain ⟨K,h⟩|⟨K,h⟩:=oc' h
    ·exact wf K Q (wz rfl (wU (j3 (o,p) h)))
    refine wt K Q (wi (wq (wo (wq (wg (ws J 1 Q ?_))))))
    obtain ⟨t,u,h⟩:=ob h
    refine wc (z277_ct N o _ u) [] [] Q Q Q Q Q Q Q Q (.inl rfl) rfl (wx (zz5 p [(0,.c (.s o)),(1,.I f),(6,.S 0),(7,.I q),(9,.I t.2)]) J 5 (wn (wq (wg (xw [4,5,6] (zz5 p [(0,.c (.s o)),(1,.I f),(6,.S 0),(7,.I q),(9,.I t.2),(33,.S 0),(34,.I q),(35,.c (.s o)),(36,.I t.2)]) J 4 ?_)))))
    obtain ⟨v,x,h⟩:=ob h
    refine WPr.ssl J (l:=none) (h:=some (.i64,t.2)) x Q Q Q Q Q Q Q Q Q Q ?_
    obtain ⟨y,z,h⟩:=ob h
    refine wX J z Q Q Q Q Q Q Q Q Q (WPr.sto oS J v z Q Q Q Q Q Q Q Q Q Q (by exact rfl) rfl (wx (zz18 (setL' p q v) [(0,.c (.s o)),(1,.I f),(6,.S 0),(7,.I q),(9,.I t.2)]) J 0 (wn (wg (ws J 2 Q ?_)))))
    obtain ⟨A,C,h⟩:=ob h
    exact WPr.ssl J (l:=some (.i64,t.2)) (h:=none) C Q Q Q Q Q Q Q Q Q Q (wx (zz18 (setL' p q v) [(0,.c (.s A)),(1,.I f),(6,.S 0),(7,.I q)]) J 1 (wn (wb (wT (zz18 (setL' p q v) [(0,.c (.s A)),(1,.I f),(6,.S 0),(7,.I (w64 (q+1)))]) J 3 (wU (ih5 (A,(setL' p q v),(w64 (q+1))) h))))))
   exact wU (ih N (s_,x2,0) h)
  obtain ⟨K,h⟩|⟨K,h⟩:=oc h
  ·exact wt K Q (wS J 2 Q (wU (j2 x1 h)))
  exact wf K Q (wi (wU (j2 n_ h)))
 obtain ⟨K,h⟩|⟨K,h⟩:=oc h
 ·exact wy 14 K Q (wx (zz0 [(0,.c (.s s_)),(1,.I n_),(4,.c .nil),(5,.I x1),(18,.O true)]) J 4 (wn (wU (j1 true h))))
 exact wy 14 K Q (wx (zz0 [(0,.c (.s s_)),(1,.I n_),(4,.c .nil),(5,.I x1),(18,.O (decide (n_ > x1)))]) J 4 (wn (wU (j1 (decide (n_ > x1)) h))))
theorem z235_ct (N:Nat) (s_:ByteArray) (c_:Int) (r:Int) (h:z235 N s_ c_=some r) :
 Fn Tryz.prog 235 ⟨0,[.c (.s s_),.c (.i .u8 c_)],[],[],0,.I r,[],[]⟩:=by
 refine wF func235 Q Q (fun E F w=>?_)
 unfold z235 at h
 refine wR J 1 Q (wq (wg (xw [2,3] (zz0 [(5,.c (.s s_)),(6,.c (.i .u8 c_))]) J 2 (WPr.ext (ext_indexByte func266 (by kernel_rfl) (by kernel_rfl) (by kernel_rfl) (by kernel_rfl) s_ c_) (fun _=>trivial) Q Q Q Q Q Q (wx (zz0 [(4,.I (firstB s_ c_))]) J 1 (wn ?_))))))
 cases h
 exact we J func235 [] Q Q Q Q
theorem z267_ct (N:Nat) (s_:ByteArray) (substr_:ByteArray) (r:Int) (h:z267 N s_ substr_=some r) :
 Fn Tryz.prog 267 ⟨0,[.c (.s s_),.c (.s substr_)],[],[],0,.I r,[],[]⟩:=by
 refine wF func267 Q Q (fun E F w=>?_)
 unfold z267 at h
 refine wR J 1 Q (wV (zz0 [(0,.c (.s s_)),(1,.c (.s substr_)),(4,.I 0),(5,.I (substr_.size:Int))]) J 3 (wq (wo (wq (wg (xw [3,4,5,6,7] (zz0 [(0,.c (.s s_)),(1,.c (.s substr_)),(4,.I 0),(5,.I (substr_.size:Int)),(19,.O ((substr_.size:Int)==0))]) J 3 ?_))))))
 obtain ⟨K,h⟩|⟨K,h⟩:=oc h
 ·refine wy 19 K Q (wx (zz0 [(0,.c (.s s_)),(1,.c (.s substr_)),(4,.I 0),(5,.I (substr_.size:Int)),(16,.O true)]) J 5 (wn (wt Q Q (wR J 1 Q ?_))))
  cases h
  exact we J func267 [] Q Q Q Q
 refine wy 19 K Q (wx (zz0 [(0,.c (.s s_)),(1,.c (.s substr_)),(4,.I 0),(5,.I (substr_.size:Int)),(16,.O (substr_.toList==s_.toList))]) J 5 (wn ?_))
 obtain ⟨K,h⟩|⟨K,h⟩:=oc h
 ·refine wt K Q (wR J 1 Q ?_)
  cases h
  exact we J func267 [] Q Q Q Q
 refine wf K Q (wV (zz0 [(0,.c (.s s_)),(1,.c (.s substr_)),(4,.I 0),(5,.I (substr_.size:Int)),(24,.O ((substr_.size:Int)==1))]) J 3 ?_)
 obtain ⟨K,h⟩|⟨K,h⟩:=oc h
 ·refine wt K Q (wq (wg (ws J 2 Q ?_)))
  obtain ⟨x1,d,h⟩:=ob h
  refine WPr.sx J d Q Q Q Q Q Q Q Q Q (xw [3,4] (zz0 [(27,.c (.s s_)),(29,.c (.i .u8 x1))]) J 0 ?_)
  obtain ⟨x2,e,h⟩:=ob h
  refine wc (z235_ct N s_ x1 _ e) [] [] Q Q Q Q Q Q Q Q (.inl rfl) rfl (wx (zz0 [(4,.I x2)]) J 1 (wn ?_))
  cases h
  exact we J func267 [] Q Q Q Q
 refine wf K Q (wV (zz0 [(0,.c (.s s_)),(1,.c (.s substr_)),(4,.I 0),(5,.I (substr_.size:Int)),(31,.O (decide ((substr_.size:Int)≥(s_.size:Int))))]) J 5 ?_)
 obtain ⟨K,h⟩|⟨K,h⟩:=oc h
 ·refine wt K Q (wR J 1 Q ?_)
  cases h
  exact we J func267 [] Q Q Q Q
 refine wf K Q (wq (wg (ws J 1 Q ?_)))
 cases h
theorem z236_ct (N:Nat) (s_:ByteArray) (substr_:ByteArray) (r:Int) (h:z236 N s_ substr_=some r) :
 Fn Tryz.prog 236 ⟨0,[.c (.s s_),.c (.s substr_)],[],[],0,.I r,[],[]⟩:=by
 refine wF func236 Q Q (fun E F w=>?_)
 unfold z236 at h
 refine wR J 1 Q (wq (wg (xw [2,3] (zz0 [(5,.c (.s s_)),(6,.c (.s substr_))]) J 2 ?_)))
 obtain ⟨x1,d,h⟩:=ob h
 refine wc (z267_ct N s_ substr_ _ d) [] [] Q Q Q Q Q Q Q Q (.inl rfl) rfl (wx (zz0 [(4,.I x1)]) J 1 (wn ?_))
 cases h
 exact we J func236 [] Q Q Q Q
theorem z262_ct (N:Nat) (s_:ByteArray) (substr_:ByteArray) (r:Int) (h:z262 N s_ substr_=some r) :
 Fn Tryz.prog 262 ⟨0,[.c (.s s_),.c (.s substr_)],[],[],0,.I r,[],[]⟩:=by
 refine wF func262 Q Q (fun E F w=>?_)
 unfold z262 at h
 refine wR J 1 Q (wq (wV (zz0 [(0,.c (.s s_)),(1,.c (.s substr_)),(4,.I 0),(9,.O ((substr_.size:Int)==0))]) J 3 ?_))
 obtain ⟨K,h⟩|⟨K,h⟩:=oc h
 ·refine wt K Q (wq (wg (ws J 1 Q ?_)))
  obtain ⟨x1,d,h⟩:=ob h
  refine wc (z276_ct N s_ _ d) [] [] Q Q Q Q Q Q Q Q (.inl rfl) rfl (wx (zz0 [(4,.I (w64 (x1+1)))]) J 2 (wn ?_))
  cases h
  exact we J func262 [] Q Q Q Q
 refine wf K Q (wi (wq (wV (zz0 [(0,.c (.s s_)),(1,.c (.s substr_)),(4,.I 0),(15,.O ((substr_.size:Int)==1))]) J 3 ?_)))
 obtain ⟨K,h⟩|⟨K,h⟩:=oc h
 ·refine wt K Q (wq (wg (ws J 2 Q ?_)))
  obtain ⟨x2,e,h⟩:=ob h
  refine WPr.sx J e Q Q Q Q Q Q Q Q Q (xw [3,4] (zz0 [(16,.c (.s s_)),(18,.c (.i .u8 x2))]) J 0 (WPr.ext (ext_countByte func278 (by kernel_rfl) (by kernel_rfl) (by kernel_rfl) (by kernel_rfl) s_ x2) (fun _=>trivial) Q Q Q Q Q Q (wx (zz0 [(4,.I (countB s_ x2))]) J 1 (wn ?_))))
  cases h
  exact we J func262 [] Q Q Q Q
 refine wf K Q (wi (wR J 1 Q (wo ?_)))
 refine wI (σ:=ByteArray × Int) (fun st=>(zz0 [(0,.c (.s st.1)),(1,.c (.s substr_)),(5,.I st.2)])) (fun n st=>z262_l1 N substr_ n st.1 st.2) (r:=r) (fun _=>rfl) ?_ (fun ih=>?_)
 ·intro n1 ih1
  rintro ⟨f,g⟩ h
  replace h:z262_l1 N substr_ (n1+1) f g=some r:=h
  unfold z262_l1 at h
  refine wo (wq (wg (ws J 2 Q ?_)))
  obtain ⟨j,k,h⟩:=ob h
  refine wc (z236_ct N f substr_ _ k) [] [] Q Q Q Q Q Q Q Q (.inl rfl) rfl (wx (zz0 [(0,.c (.s f)),(1,.c (.s substr_)),(5,.I g),(6,.I j)]) J 1 (wn (wq (wR J 2 Q ?_))))
  obtain ⟨K,h⟩|⟨K,h⟩:=oc h
  ·refine wt K Q (wV (zz0 [(4,.I g)]) J 2 ?_)
   cases h
   exact we J func262 [] Q Q Q Q
  refine wf K Q (wi (wV (zz0 [(0,.c (.s f)),(1,.c (.s substr_)),(5,.I (w64 (g+1))),(6,.I j)]) J 3 (wg (xw [5,6] (zz0 [(1,.c (.s substr_)),(5,.I (w64 (g+1))),(28,.c (.s f)),(32,.I (w64 (j+(substr_.size:Int))))]) J 5 ?_))))
  obtain ⟨m,o,h⟩:=ob h
  exact WPr.ssl J (l:=some (.i64,(w64 (j+(substr_.size:Int))))) (h:=none) o Q Q Q Q Q Q Q Q Q Q (ws J 1 Q (wn (wb (wU (ih1 (m,(w64 (g+1))) h)))))
 exact wU (ih N (s_,0) h)
theorem z233_ct (N:Nat) (s_:ByteArray) (sep_:ByteArray) (sepSave_:Int) (n_:Int) (r:(List ByteArray)) (h:z233 N s_ sep_ sepSave_ n_=some r) :
 Fn Tryz.prog 233 ⟨0,[.c (.s s_),.c (.s sep_),.I sepSave_,.I n_],[],[],1,.S 0,[],[(0,.own rS r true)]⟩:=by
 refine wF func233 Q Q (fun E F w=>?_)
 unfold z233 at h
 refine wR J 1 Q (wq (wV (zz0 [(0,.c (.s s_)),(1,.c (.s sep_)),(2,.I sepSave_),(3,.I n_),(8,.c .nil),(13,.O (n_==0))]) J 2 ?_))
 obtain ⟨K,h⟩|⟨K,h⟩:=oc h
 ·refine wt K Q (wR J 1 Q ?_)
  cases h
  exact we J func233 [(0,.nil)] Q Q Q Q
 refine wf K Q (wi (wq (wR J 2 Q ?_)))
 obtain ⟨K,h⟩|⟨K,h⟩:=oc h
 ·refine wt K Q (wq (wg (xw [2,3] (zz0 [(16,.c (.s s_)),(17,.I n_)]) J 2 ?_)))
  obtain ⟨x1,d,h⟩:=ob h
  refine wc (z261_ct N s_ n_ _ d) [] [] Q Q Q Q Q Q Q Q (.inl rfl) rfl (wx (zz5 x1 [(8,.S 0)]) J 1 (wn ?_))
  cases h
  exact we J func233 [(0,.sl 0)] Q Q Q Q
 refine wf K Q (wi (wq (wV (zz0 [(0,.c (.s s_)),(1,.c (.s sep_)),(2,.I sepSave_),(3,.I n_),(8,.c .nil),(20,.O (decide (n_ < 0)))]) J 2 ?_)))
 refine wC (σ:=Int) (fun st=>(zz0 [(0,.c (.s s_)),(1,.c (.s sep_)),(2,.I sepSave_),(3,.I st)])) (fun st=>z233_k3 N s_ sep_ sepSave_ st=some r) ?_ (fun j1=>?_)
 ·intro e h
  replace h:z233_k3 N s_ sep_ sepSave_ e=some r:=h
  unfold z233_k3 at h
  refine wV (zz0 [(0,.c (.s s_)),(1,.c (.s sep_)),(2,.I sepSave_),(3,.I (minI e (w64 ((s_.size:Int)+1))))]) J 6 (wq (wg (ws J 1 Q ?_)))
  obtain ⟨x3,f,h⟩:=ob h
  refine WPr.mk oS J (str []) f Q Q Q Q Q Q Q Q (by exact an Q Q) rfl (wx (zz5 x3 [(0,.c (.s s_)),(1,.c (.s sep_)),(2,.I sepSave_),(3,.I (minI e (w64 ((s_.size:Int)+1)))),(9,.S 0)]) J 1 (wn (wV (zz5 x3 [(0,.c (.s s_)),(1,.c (.s sep_)),(2,.I sepSave_),(3,.I (w64 ((minI e (w64 ((s_.size:Int)+1)))-1))),(9,.S 0)]) J 3 (wR J 1 Q (wq ?_)))))
  refine wC (σ:=ByteArray × (List ByteArray) × Int) (fun st=>(zz5 st.2.1 [(0,.c (.s st.1)),(9,.S 0),(10,.I st.2.2)])) (fun st=>z233_k1 st.1 st.2.1 st.2.2=some r) ?_ (fun j2=>?_)
  ·rintro ⟨g,i,j⟩ h
   replace h:z233_k1 g i j=some r:=h
   unfold z233_k1 at h
   refine wq (wg (xw [3,4] (zz5 i [(9,.S 0),(10,.I j),(58,.S 0),(59,.I j),(60,.c (.s g))]) J 3 ?_))
   obtain ⟨k,m,h⟩:=ob h
   refine wX J m Q Q Q Q Q Q Q Q Q (WPr.sto oS J g m Q Q Q Q Q Q Q Q Q Q (by exact rfl) rfl (wn (wq (wg (xw [3,4] (zz18 (setL' i j g) [(62,.S 0),(64,.I (w64 (j+1)))]) J 3 ?_)))))
   obtain ⟨o,p,h⟩:=ob h
   refine WPr.vw J (l:=none) (h:=some (.i64,(w64 (j+1)))) p Q Q Q Q Q Q Q Q Q Q (ws J 1 Q (wn (WP.stl 2 p Q Q Q ?_)))
   cases h
   exact we J func233 [(0,.sl 2)] Q Q Q Q
  refine wo ?_
  refine wI (σ:=ByteArray × (List ByteArray) × Int) (fun st=>(zz5 st.2.1 [(0,.c (.s st.1)),(1,.c (.s sep_)),(2,.I sepSave_),(3,.I (w64 ((minI e (w64 ((s_.size:Int)+1)))-1))),(9,.S 0),(10,.I st.2.2)])) (fun n st=>z233_l2 N s_ sep_ sepSave_ e n st.1 st.2.1 st.2.2) (r:=r) (fun _=>rfl) ?_ (fun ih=>?_)
  ·intro n2 ih4
   rintro ⟨q,t,u⟩ h
   replace h:z233_l2 N s_ sep_ sepSave_ e (n2+1) q t u=some r:=h
   unfold z233_l2 at h
   refine wq (wV (zz5 t [(0,.c (.s q)),(1,.c (.s sep_)),(2,.I sepSave_),(3,.I (w64 ((minI e (w64 ((s_.size:Int)+1)))-1))),(9,.S 0),(10,.I u),(36,.O (decide (u < (w64 ((minI e (w64 ((s_.size:Int)+1)))-1)))))]) J 3 ?_)
   obtain ⟨K,h⟩|⟨K,h⟩:=oc' h
   ·exact wf K Q (wz rfl (wU (j2 (q,t,u) h)))
   refine wt K Q (wi (wo (wq (wg (ws J 2 Q ?_)))))
   obtain ⟨v,x,h⟩:=ob h
   refine wc (z236_ct N q sep_ _ x) [] [] Q Q Q Q Q Q Q Q (.inl rfl) rfl (wx (zz5 t [(0,.c (.s q)),(1,.c (.s sep_)),(2,.I sepSave_),(3,.I (w64 ((minI e (w64 ((s_.size:Int)+1)))-1))),(9,.S 0),(10,.I u),(11,.I v)]) J 1 (wn (wq (wR J 2 Q ?_))))
   obtain ⟨K,h⟩|⟨K,h⟩:=oc h
   ·exact wt K Q (wz rfl (wU (j2 (q,t,u) h)))
   refine wf K Q (wi (wq (wg (xw [6,7,8] (zz5 t [(0,.c (.s q)),(1,.c (.s sep_)),(2,.I sepSave_),(3,.I (w64 ((minI e (w64 ((s_.size:Int)+1)))-1))),(9,.S 0),(10,.I u),(11,.I v),(42,.S 0),(43,.I u),(44,.c (.s q)),(47,.I (w64 (v+sepSave_)))]) J 6 ?_))))
   obtain ⟨y,z,h⟩:=ob h
   refine WPr.ssl J (l:=none) (h:=some (.i64,(w64 (v+sepSave_)))) z Q Q Q Q Q Q Q Q Q Q ?_
   obtain ⟨A,C,h⟩:=ob h
   refine wX J C Q Q Q Q Q Q Q Q Q (WPr.sto oS J y C Q Q Q Q Q Q Q Q Q Q (by exact rfl) rfl (wx (zz18 (setL' t u y) [(0,.c (.s q)),(1,.c (.s sep_)),(2,.I sepSave_),(3,.I (w64 ((minI e (w64 ((s_.size:Int)+1)))-1))),(9,.S 0),(10,.I u),(11,.I v)]) J 0 (wn (wq (wg (xw [5,6] (zz18 (setL' t u y) [(1,.c (.s sep_)),(2,.I sepSave_),(3,.I (w64 ((minI e (w64 ((s_.size:Int)+1)))-1))),(9,.S 0),(10,.I u),(50,.c (.s q)),(54,.I (w64 (v+(sep_.size:Int))))]) J 5 ?_))))))
   obtain ⟨D,G,h⟩:=ob h
   exact WPr.ssl J (l:=some (.i64,(w64 (v+(sep_.size:Int))))) (h:=none) G Q Q Q Q Q Q Q Q Q Q (ws J 1 Q (wn (wT (zz18 (setL' t u y) [(0,.c (.s D)),(1,.c (.s sep_)),(2,.I sepSave_),(3,.I (w64 ((minI e (w64 ((s_.size:Int)+1)))-1))),(9,.S 0),(10,.I (w64 (u+1)))]) J 3 (wb (wU (ih4 (D,(setL' t u y),(w64 (u+1))) h))))))
  exact wU (ih N (s_,x3,0) h)
 obtain ⟨K,h⟩|⟨K,h⟩:=oc' h
 ·exact wf K Q (wi (wU (j1 n_ h)))
 refine wt K Q (wg (ws J 2 Q ?_))
 obtain ⟨H,R,h⟩:=ob h
 exact wc (z262_ct N s_ sep_ _ R) [] [] Q Q Q Q Q Q Q Q (.inl rfl) rfl (wx (zz0 [(0,.c (.s s_)),(1,.c (.s sep_)),(2,.I sepSave_),(3,.I (w64 (H+1))),(8,.c .nil)]) J 2 (wn (wU (j1 (w64 (H+1)) h))))
theorem z190_ct (N:Nat) (s_:ByteArray) (sep_:ByteArray) (r:(List ByteArray)) (h:z190 N s_ sep_=some r) :
 Fn Tryz.prog 190 ⟨0,[.c (.s s_),.c (.s sep_)],[],[],1,.S 0,[],[(0,.own rS r true)]⟩:=by
 refine wF func190 Q Q (fun E F w=>?_)
 unfold z190 at h
 refine wR J 1 Q (wq (wg (xw [2,3] (zz0 [(5,.c (.s s_)),(6,.c (.s sep_))]) J 2 ?_)))
 obtain ⟨x1,d,h⟩:=ob h
 refine wc (z233_ct N s_ sep_ 0 (-1) _ d) [] [] Q Q Q Q Q Q Q Q (.inl rfl) rfl (wx (zz5 x1 [(4,.S 0)]) J 1 (wn ?_))
 cases h
 exact we J func190 [(0,.sl 0)] Q Q Q Q
theorem z129_ct (N:Nat) (c_:Int) (r:Bool) (h:z129 N c_=some r) :
 Fn Tryz.prog 129 ⟨0,[.c (.i .u8 c_)],[],[],0,.O r,[],[]⟩:=by
 refine wF func129 Q Q (fun E F w=>?_)
 unfold z129 at h
 refine wR J 1 Q (wq (wg (xw (rg 3 12) (zz0 [(0,.c (.i .u8 c_)),(5,.O (decide (97≤c_)))]) J 3 ?_)))
 obtain ⟨K,h⟩|⟨K,h⟩:=oc' h
 ·refine wy 5 K Q (xw [10,11,12,13,14] (zz0 [(0,.c (.i .u8 c_)),(9,.O false),(12,.O (decide (65≤c_)))]) J 7 ?_)
  obtain ⟨K,h⟩|⟨K,h⟩:=oc h
  ·refine wy 12 K Q (wx (zz0 [(2,.O (decide (c_≤90)))]) J 5 (wn ?_))
   cases h
   exact we J func129 [] Q Q Q Q
  refine wy 12 K Q (wx (zz0 [(2,.O false)]) J 5 (wn ?_))
  cases h
  exact we J func129 [] Q Q Q Q
 refine wy 5 K Q (xw (rg 7 8) (zz0 [(0,.c (.i .u8 c_)),(9,.O (decide (c_≤122)))]) J 4 ?_)
 obtain ⟨K,h⟩|⟨K,h⟩:=oc h
 ·refine wy 9 K Q (wx (zz0 [(2,.O true)]) J 8 (wn ?_))
  cases h
  exact we J func129 [] Q Q Q Q
 refine wy 9 K Q (xw [10,11,12,13,14] (zz0 [(0,.c (.i .u8 c_)),(9,.O false),(12,.O (decide (65≤c_)))]) J 3 ?_)
 obtain ⟨K,h⟩|⟨K,h⟩:=oc h
 ·refine wy 12 K Q (wx (zz0 [(2,.O (decide (c_≤90)))]) J 5 (wn ?_))
  cases h
  exact we J func129 [] Q Q Q Q
 refine wy 12 K Q (wx (zz0 [(2,.O false)]) J 5 (wn ?_))
 cases h
 exact we J func129 [] Q Q Q Q
theorem z131_ct (N:Nat) (c_:Int) (r:Bool) (h:z131 N c_=some r) :
 Fn Tryz.prog 131 ⟨0,[.c (.i .u8 c_)],[],[],0,.O r,[],[]⟩:=by
 refine wF func131 Q Q (fun E F w=>?_)
 unfold z131 at h
 refine wR J 1 Q (wq (wg (xw [3,4,5,6] (zz0 [(0,.c (.i .u8 c_)),(5,.O (decide (48≤c_)))]) J 3 ?_)))
 obtain ⟨K,h⟩|⟨K,h⟩:=oc h
 ·refine wy 5 K Q (wx (zz0 [(2,.O (decide (c_≤57)))]) J 4 (wn ?_))
  cases h
  exact we J func131 [] Q Q Q Q
 refine wy 5 K Q (wx (zz0 [(2,.O false)]) J 4 (wn ?_))
 cases h
 exact we J func131 [] Q Q Q Q
theorem z197_ct (N:Nat) (c_:Int) (r:Bool) (h:z197 N c_=some r) :
 Fn Tryz.prog 197 ⟨0,[.c (.i .u8 c_)],[],[],0,.O r,[],[]⟩:=by
 refine wF func197 Q Q (fun E F w=>?_)
 unfold z197 at h
 refine wR J 1 Q (wq (wg (ws J 1 Q ?_)))
 obtain ⟨x1,d,h⟩:=ob h
 refine wc (z129_ct N c_ _ d) [] [] Q Q Q Q Q Q Q Q (.inl rfl) rfl (xw (rg 3 8) (zz0 [(0,.c (.i .u8 c_)),(5,.O x1)]) J 1 ?_)
 obtain ⟨K,h⟩|⟨K,h⟩:=oc h
 ·refine wy 5 K Q (wx (zz0 [(2,.O true)]) J 8 (wn ?_))
  cases h
  exact we J func197 [] Q Q Q Q
 refine wy 5 K Q (ws J 1 Q ?_)
 obtain ⟨x2,e,h⟩:=ob h
 refine wc (z131_ct N c_ _ e) [] [] Q Q Q Q Q Q Q Q (.inl rfl) rfl (xw [7,8,9,10] (zz0 [(0,.c (.i .u8 c_)),(9,.O x2)]) J 2 ?_)
 obtain ⟨K,h⟩|⟨K,h⟩:=oc h
 ·refine wy 9 K Q (wx (zz0 [(2,.O true)]) J 4 (wn ?_))
  cases h
  exact we J func197 [] Q Q Q Q
 refine wy 9 K Q (wx (zz0 [(2,.O (c_==95))]) J 4 (wn ?_))
 cases h
 exact we J func197 [] Q Q Q Q
theorem z192_ct (N:Nat) (s_:ByteArray) (r:Bool) (h:z192 N s_=some r) :
 Fn Tryz.prog 192 ⟨0,[.c (.s s_)],[],[],0,.O r,[],[]⟩:=by
 refine wF func192 Q Q (fun E F w=>?_)
 unfold z192 at h
 refine wR J 1 Q (wq (wq (wg (xw (rg 3 10) (zz0 [(0,.c (.s s_)),(2,.O false),(6,.O (s_.toList==(str []).toList))]) J 3 ?_))))
 obtain ⟨K,h⟩|⟨K,h⟩:=oc h
 ·refine wy 6 K Q (wx (zz0 [(0,.c (.s s_)),(2,.O false),(16,.O true)]) J 10 (wn (wt Q Q (wR J 1 Q ?_))))
  cases h
  exact we J func192 [] Q Q Q Q
 refine wy 6 K Q (xw [8,9,10,11,12] (zz0 [(0,.c (.s s_)),(2,.O false),(11,.O (decide ((s_.size:Int) > 16)))]) J 5 ?_)
 obtain ⟨K,h⟩|⟨K,h⟩:=oc h
 ·refine wy 11 K Q (wx (zz0 [(0,.c (.s s_)),(2,.O false),(16,.O true)]) J 5 (wn (wt Q Q (wR J 1 Q ?_))))
  cases h
  exact we J func192 [] Q Q Q Q
 refine wy 11 K Q (ws J 1 Q ?_)
 obtain ⟨x1,d,h⟩:=ob h
 refine WPr.sx J d Q Q Q Q Q Q Q Q Q ?_
 obtain ⟨x2,e,h⟩:=ob h
 refine wc (z129_ct N x1 _ e) [] [] Q Q Q Q Q Q Q Q (.inl rfl) rfl (wx (zz0 [(0,.c (.s s_)),(2,.O false),(16,.O (!x2))]) J 2 (wn ?_))
 obtain ⟨K,h⟩|⟨K,h⟩:=oc h
 ·refine wt K Q (wR J 1 Q ?_)
  cases h
  exact we J func192 [] Q Q Q Q
 refine wf K Q (wi (wq (wV (zz0 [(0,.c (.s s_)),(2,.O false),(18,.I (s_.size:Int)),(19,.I 0)]) J 3 ?_)))
 refine wC (σ:=Unit) (fun st=>(zz0 [])) (fun st=>z192_k1=some r) ?_ (fun j1=>?_)
 ·intro _ h
  replace h:z192_k1=some r:=h
  unfold z192_k1 at h
  refine wR J 1 Q ?_
  cases h
  exact we J func192 [] Q Q Q Q
 refine wo ?_
 refine wI (σ:=Int) (fun st=>(zz0 [(0,.c (.s s_)),(18,.I (s_.size:Int)),(19,.I st)])) (fun n st=>z192_l2 N s_ n st) (r:=r) (fun _=>rfl) ?_ (fun ih=>?_)
 ·intro n2 ih3
  intro f h
  replace h:z192_l2 N s_ (n2+1) f=some r:=h
  unfold z192_l2 at h
  refine wR J 1 Q (wq ?_)
  obtain ⟨K,h⟩|⟨K,h⟩:=oc' h
  ·exact wf K Q (wz rfl (wU (j1 () h)))
  refine wt K Q (wi (wq (wo (wV (zz0 [(0,.c (.s s_)),(3,.I f),(18,.I (s_.size:Int)),(19,.I f)]) J 2 (wq (wg (ws J 2 Q ?_)))))))
  obtain ⟨g,j,h⟩:=ob h
  refine WPr.sx J j Q Q Q Q Q Q Q Q Q (xw [3,4] (zz0 [(0,.c (.s s_)),(18,.I (s_.size:Int)),(19,.I f),(24,.c (.i .u8 g))]) J 0 ?_)
  obtain ⟨k,l,h⟩:=ob h
  refine wc (z197_ct N g _ l) [] [] Q Q Q Q Q Q Q Q (.inl rfl) rfl (wx (zz0 [(0,.c (.s s_)),(18,.I (s_.size:Int)),(19,.I f),(26,.O (!k))]) J 1 (wn ?_))
  obtain ⟨K,h⟩|⟨K,h⟩:=oc h
  ·refine wt K Q (wR J 1 Q ?_)
   cases h
   exact we J func192 [] Q Q Q Q
  exact wf K Q (wi (wb (wS J 2 Q (wU (ih3 (w64 (f+1)) h)))))
 exact wU (ih N 0 h)
theorem z217_ct (N:Nat) (s_:(List ByteArray)) (v_:ByteArray) (r:Int) (h:z217 N s_ v_=some r) :
 Fn Tryz.prog 217 ⟨1,[.S 0,.c (.s v_)],[(0,.sl rS s_)],[],1,.I r,[],[]⟩:=by
 refine wF func217 Q Q (fun E F w=>?_)
 unfold z217 at h
 refine wR J 1 Q (wq (wV (zz8 s_ [(0,.S 0),(1,.c (.s v_)),(4,.I 0),(7,.I (s_.length:Int)),(8,.I 0)]) J 3 ?_))
 refine wC (σ:=Unit) (fun st=>(zz8 s_ [])) (fun st=>z217_k1=some r) ?_ (fun j1=>?_)
 ·intro _ h
  replace h:z217_k1=some r:=h
  unfold z217_k1 at h
  refine wR J 1 Q ?_
  cases h
  exact we J func217 [] Q Q Q Q
 refine wo ?_
 refine wI (σ:=Int) (fun st=>(zz8 s_ [(0,.S 0),(1,.c (.s v_)),(7,.I (s_.length:Int)),(8,.I st)])) (fun n st=>z217_l2 s_ v_ n st) (r:=r) (fun _=>rfl) ?_ (fun ih=>?_)
 ·intro n2 ih3
  intro d h
  replace h:z217_l2 s_ v_ (n2+1) d=some r:=h
  unfold z217_l2 at h
  refine wR J 1 Q (wq ?_)
  obtain ⟨K,h⟩|⟨K,h⟩:=oc' h
  ·exact wf K Q (wz rfl (wU (j1 () h)))
  refine wt K Q (wi (wq (wo (wV (zz8 s_ [(0,.S 0),(1,.c (.s v_)),(5,.I d),(7,.I (s_.length:Int)),(8,.I d)]) J 2 (wq (wg (xw [3,4,5] (zz8 s_ [(0,.S 0),(1,.c (.s v_)),(5,.I d),(7,.I (s_.length:Int)),(8,.I d),(11,.c (.s v_)),(12,.S 0),(13,.I d)]) J 3 ?_)))))))
  obtain ⟨x9,e,h⟩:=ob h
  refine wj oS J e Q Q Q Q Q Q Q Q Q (wx ⟨[(0,.S 0),(1,.c (.s v_)),(5,.I d),(7,.I (s_.length:Int)),(8,.I d),(16,.O (v_.toList==x9.toList))],[],[(0,.sl rS s_)],2⟩ J 2 (wn ?_))
  obtain ⟨K,h⟩|⟨K,h⟩:=oc h
  ·refine wt K Q (wR J 2 Q ?_)
   cases h
   exact we J func217 [] Q Q Q Q
  exact wf K Q (wi (wb (wS J 2 Q (wU (ih3 (w64 (d+1)) h)))))
 exact wU (ih N 0 h)
theorem z157_ct (N:Nat) (s_:(List ByteArray)) (v_:ByteArray) (r:Bool) (h:z157 N s_ v_=some r) :
 Fn Tryz.prog 157 ⟨1,[.S 0,.c (.s v_)],[(0,.sl rS s_)],[],1,.O r,[],[]⟩:=by
 refine wF func157 Q Q (fun E F w=>?_)
 unfold z157 at h
 refine wR J 1 Q (wq (wg (xw [2,3,4] (zz8 s_ [(5,.S 0),(6,.c (.s v_))]) J 2 ?_)))
 obtain ⟨x1,d,h⟩:=ob h
 refine wc (z217_ct N s_ v_ _ d) [(0,.sl 0)] [] Q Q Q Q Q Q Q Q (.inl rfl) rfl (wx (zz8 s_ [(4,.O (decide (x1≥0)))]) J 2 (wn ?_))
 cases h
 exact we J func157 [] Q Q Q Q
theorem z122_ct (N:Nat) (s_:ByteArray) (r:Bool) (h:z122 N s_=some r) :
 Fn Tryz.prog 122 ⟨0,[.c (.s s_)],[],[],0,.O r,[],[]⟩:=by
 refine wF func122 Q Q (fun E F w=>?_)
 unfold z122 at h
 refine wR J 1 Q (wV (zz65 [(0,.c (.s s_)),(2,.O false),(3,.B 0 0)]) J 3 (wq (wg (ws J 1 Q ?_))))
 obtain ⟨x1,d,h⟩:=ob h
 refine wc (z192_ct N s_ _ d) [] [] Q Q Q Q Q Q Q Q (.inl rfl) rfl (xw (rg 3 6) (zz65 [(0,.c (.s s_)),(3,.B 0 0),(7,.O x1)]) J 1 ?_)
 obtain ⟨K,h⟩|⟨K,h⟩:=oc' h
 ·refine wy 7 K Q (wx (zz9 [(2,.O false)]) J 6 (wn ?_))
  cases h
  exact we J func122 [] Q Q Q Q
 refine wy 7 K Q (WPr.slb (len:=28) (el:=9) oS ([(str [97,103,97,105,110]),(str [97,110,100]),(str [97,115]),(str [97,116]),(str [99,97,108,108]),(str [99,104,111,105,99,101]),(str [101,108,115,101]),(str [102,114,111,109]),(str [105,102]),(str [105,110,116]),(str [108,101,110]),(str [108,111,111,112]),(str [109,101,115,115,97,103,101]),(str [111,102]),(str [111,102,102,101,114]),(str [111,110]),(str [111,114]),(str [112,97,114]),(str [112,108,97,121,115]),(str [112,114,111,116,111,99,111,108]),(str [115,101,114,118,105,99,101]),(str [116,101,120,116]),(str [116,105,109,101,115]),(str [116,111]),(str [118,97,114]),(str [119,104,101,114,101]),(str [119,104,105,108,101]),(str [119,105,116,104,105,110])]:List ByteArray) (by exact (an rfl (an rfl (an rfl (an rfl (an rfl (an rfl (an rfl (an rfl (an rfl (an rfl (an rfl (an rfl (an rfl (an rfl (an rfl (an rfl (an rfl (an rfl (an rfl (an rfl (an rfl (an rfl (an rfl (an rfl (an rfl (an rfl (an rfl (an Q Q))))))))))))))))))))))))))))) Q Q Q Q (by kernel_rfl) (by kernel_rfl) Q Q Q (ws J 1 Q ?_))
 obtain ⟨x2,e,h⟩:=ob h
 refine wc (z157_ct N ([(str [97,103,97,105,110]),(str [97,110,100]),(str [97,115]),(str [97,116]),(str [99,97,108,108]),(str [99,104,111,105,99,101]),(str [101,108,115,101]),(str [102,114,111,109]),(str [105,102]),(str [105,110,116]),(str [108,101,110]),(str [108,111,111,112]),(str [109,101,115,115,97,103,101]),(str [111,102]),(str [111,102,102,101,114]),(str [111,110]),(str [111,114]),(str [112,97,114]),(str [112,108,97,121,115]),(str [112,114,111,116,111,99,111,108]),(str [115,101,114,118,105,99,101]),(str [116,101,120,116]),(str [116,105,109,101,115]),(str [116,111]),(str [118,97,114]),(str [119,104,101,114,101]),(str [119,104,105,108,101]),(str [119,105,116,104,105,110])]:List ByteArray) s_ _ e) [(0,.sl 1)] [1] Q Q Q Q Q Q Q Q (.inr ⟨rfl,trivial⟩) rfl (wx ⟨[(2,.O (!x2))],[],[],2⟩ J 3 (wn ?_))
 cases h
 exact we J func122 [] Q Q Q Q
theorem z191_ct (N:Nat) (w_:ByteArray) (r:Bool) (h:z191 N w_=some r) :
 Fn Tryz.prog 191 ⟨0,[.c (.s w_)],[],[],0,.O r,[],[]⟩:=by
 refine wF func191 Q Q (fun E F w=>?_)
 unfold z191 at h
 refine wR J 1 Q (wq (wg (ws J 1 Q ?_)))
 obtain ⟨x1,d,h⟩:=ob h
 refine wc (z122_ct N w_ _ d) [] [] Q Q Q Q Q Q Q Q (.inl rfl) rfl (wx (zz0 [(2,.O (!x1))]) J 2 (wn ?_))
 cases h
 exact we J func191 [] Q Q Q Q
theorem z225_0_ct (N:Nat) (s_:(List ByteArray)) (r:Int) (h:z225_0 N s_=some r) :
 Fn Tryz.prog 225 ⟨1,[.S 0,.c (.cl 191 [] [])],[(0,.sl rS s_)],[],1,.I r,[],[]⟩:=by
 refine wF func225 Q Q (fun E F w=>?_)
 unfold z225_0 at h
 refine wR J 1 Q (wq (wV (zz8 s_ [(0,.S 0),(1,.c (.cl 191 [] [])),(4,.I 0),(7,.I (s_.length:Int)),(8,.I 0)]) J 3 ?_))
 refine wC (σ:=Unit) (fun st=>(zz8 s_ [])) (fun st=>z225_0_k1=some r) ?_ (fun j1=>?_)
 ·intro _ h
  replace h:z225_0_k1=some r:=h
  unfold z225_0_k1 at h
  refine wR J 1 Q ?_
  cases h
  exact we J func225 [] Q Q Q Q
 refine wo ?_
 refine wI (σ:=Int) (fun st=>(zz8 s_ [(0,.S 0),(1,.c (.cl 191 [] [])),(7,.I (s_.length:Int)),(8,.I st)])) (fun n st=>z225_0_l2 N s_ n st) (r:=r) (fun _=>rfl) ?_ (fun ih=>?_)
 ·intro n2 ih3
  intro d h
  replace h:z225_0_l2 N s_ (n2+1) d=some r:=h
  unfold z225_0_l2 at h
  refine wR J 1 Q (wq ?_)
  obtain ⟨K,h⟩|⟨K,h⟩:=oc' h
  ·exact wf K Q (wz rfl (wU (j1 () h)))
  refine wt K Q (wi (wq (wo (wV (zz8 s_ [(0,.S 0),(1,.c (.cl 191 [] [])),(5,.I d),(7,.I (s_.length:Int)),(8,.I d)]) J 2 (wq (wg (xw [3,4,5] (zz8 s_ [(0,.S 0),(1,.c (.cl 191 [] [])),(5,.I d),(7,.I (s_.length:Int)),(8,.I d),(11,.c (.cl 191 [] [])),(12,.S 0),(13,.I d)]) J 3 ?_)))))))
  obtain ⟨e,f,h⟩:=ob h
  refine wj oS J f Q Q Q Q Q Q Q Q Q (ws J 1 Q ?_)
  obtain ⟨g,i,h⟩:=ob h
  refine WPr.callc (z191_ct N e _ i) [] [] Q Q Q Q Q Q Q Q Q (.inl rfl) rfl (wx ⟨[(0,.S 0),(1,.c (.cl 191 [] [])),(5,.I d),(7,.I (s_.length:Int)),(8,.I d),(16,.O g)],[],[(0,.sl rS s_)],2⟩ J 0 (wn ?_))
  obtain ⟨K,h⟩|⟨K,h⟩:=oc h
  ·refine wt K Q (wR J 2 Q ?_)
   cases h
   exact we J func225 [] Q Q Q Q
  exact wf K Q (wi (wb (wS J 2 Q (wU (ih3 (w64 (d+1)) h)))))
 exact wU (ih N 0 h)
theorem z189_1_ct (N:Nat) (s_:(List ByteArray)) (r:Bool) (h:z189_1 N s_=some r) :
 Fn Tryz.prog 189 ⟨1,[.S 0,.c (.cl 191 [] [])],[(0,.sl rS s_)],[],1,.O r,[],[]⟩:=by
 refine wF func189 Q Q (fun E F w=>?_)
 unfold z189_1 at h
 refine wR J 1 Q (wq (wg (xw [2,3,4] (zz8 s_ [(5,.S 0),(6,.c (.cl 191 [] []))]) J 2 ?_)))
 obtain ⟨x1,d,h⟩:=ob h
 refine wc (z225_0_ct N s_ _ d) [(0,.sl 0)] [] Q Q Q Q Q Q Q Q (.inl rfl) rfl (wx (zz8 s_ [(4,.O (decide (x1≥0)))]) J 2 (wn ?_))
 cases h
 exact we J func189 [] Q Q Q Q
theorem z119_ct (N:Nat) (s_:ByteArray) (r:Bool) (h:z119 N s_=some r) :
 Fn Tryz.prog 119 ⟨0,[.c (.s s_)],[],[],0,.O r,[],[]⟩:=by
 refine wF func119 Q Q (fun E F w=>?_)
 unfold z119 at h
 refine wR J 1 Q (wq (wg (xw (rg 4 6) (zz0 [(0,.c (.s s_)),(6,.O (decide ((s_.size:Int)≤50)))]) J 4 ?_)))
 obtain ⟨K,h⟩|⟨K,h⟩:=oc' h
 ·refine wy 6 K Q (wx (zz0 [(2,.O false)]) J 6 (wn ?_))
  cases h
  exact we J func119 [] Q Q Q Q
 refine wy 6 K Q (ws J 1 Q ?_)
 obtain ⟨x1,d,h⟩:=ob h
 refine wc (z190_ct N s_ (str [46]) _ d) [] [] Q Q Q Q Q Q Q Q (.inl rfl) rfl (xw [6,7,8,9] (zz5 x1 [(6,.O true),(8,.S 0)]) J 0 ?_)
 obtain ⟨x2,e,h⟩:=ob h
 refine wc (z189_1_ct N x1 _ e) [(0,.sl 0)] [0] Q Q Q Q Q Q Q Q (.inr ⟨rfl,trivial⟩) rfl (wx (zz9 [(2,.O (!x2))]) J 3 (wn ?_))
 cases h
 exact we J func119 [] Q Q Q Q
theorem z121_2_ct (N:Nat) (x_:T0) (c0_:T0) (r:Bool) (h:z121_2 N x_ c0_=some r) :
 Fn Tryz.prog 121 ⟨7,[.a (cC0 0 1 2 x_),.B 3 0],(vV0 0 1 2 x_ (vV0 4 5 6 c0_ [])),[(3,.box (cC0 4 5 6 c0_) 44)],7,.O r,[],[(3,.box (cC0 4 5 6 c0_) 44)]⟩:=by
 refine wF func121 Q Q (fun E F w=>?_)
 unfold z121_2 at h
 refine wR J 2 Q (wV ⟨[(3,.O (x_.Name.toList==c0_.Name.toList))],[(3,.box (cC0 4 5 6 c0_) 44)],(vV0 0 1 2 x_ (vV0 4 5 6 c0_ [])),8⟩ J 6 ?_)
 cases h
 exact we J func121 [] Q Q Q Q
theorem z66_3_ct (N:Nat) (s_:(List T0)) (c0_:T0) (r:Int) (h:z66_3 N s_ c0_=some r) :
 Fn Tryz.prog 66 ⟨5,[.S 0,.c (.cl 121 [] [1])],((0,.sl rR0 s_)::vV0 2 3 4 c0_ []),[(1,.box (cC0 2 3 4 c0_) 44)],5,.I r,[],[(1,.box (cC0 2 3 4 c0_) 44)]⟩:=by
 refine wF func66 Q Q (fun E F w=>?_)
 unfold z66_3 at h
 refine wR J 1 Q (wq (wV (zz21 c0_ s_ [(0,.S 0),(1,.c (.cl 121 [] [1])),(4,.I 0),(7,.I (s_.length:Int)),(8,.I 0)]) J 3 ?_))
 refine wC (σ:=Unit) (fun st=>(zz21 c0_ s_ [])) (fun st=>z66_3_k1=some r) ?_ (fun j1=>?_)
 ·intro _ h
  replace h:z66_3_k1=some r:=h
  unfold z66_3_k1 at h
  refine wR J 1 Q ?_
  cases h
  exact we J func66 [] Q Q Q Q
 refine wo ?_
 refine wI (σ:=Int) (fun st=>(zz21 c0_ s_ [(0,.S 0),(1,.c (.cl 121 [] [1])),(7,.I (s_.length:Int)),(8,.I st)])) (fun n st=>z66_3_l2 N s_ c0_ n st) (r:=r) (fun _=>rfl) ?_ (fun ih=>?_)
 ·intro n2 ih3
  intro d h
  replace h:z66_3_l2 N s_ c0_ (n2+1) d=some r:=h
  unfold z66_3_l2 at h
  refine wR J 1 Q (wq ?_)
  obtain ⟨K,h⟩|⟨K,h⟩:=oc' h
  ·exact wf K Q (wz rfl (wU (j1 () h)))
  refine wt K Q (wi (wq (wo (wV (zz21 c0_ s_ [(0,.S 0),(1,.c (.cl 121 [] [1])),(5,.I d),(7,.I (s_.length:Int)),(8,.I d)]) J 2 (wq (wg (xw [3,4,5] (zz21 c0_ s_ [(0,.S 0),(1,.c (.cl 121 [] [1])),(5,.I d),(7,.I (s_.length:Int)),(8,.I d),(11,.c (.cl 121 [] [1])),(12,.S 0),(13,.I d)]) J 3 ?_)))))))
  obtain ⟨e,f,h⟩:=ob h
  refine wj oO0 J f Q Q Q Q Q Q Q Q Q (ws J 1 Q ?_)
  obtain ⟨g,i,h⟩:=ob h
  refine WPr.callc (z121_2_ct N e c0_ _ i) [(0,.sl 6),(1,.sl 7),(2,.sl 8),(3,.bp 1 0),(4,.sl 2),(5,.sl 3),(6,.sl 4)] [] Q Q Q Q Q Q Q Q Q (.inl rfl) rfl (wx ⟨[(0,.S 0),(1,.c (.cl 121 [] [1])),(5,.I d),(7,.I (s_.length:Int)),(8,.I d),(16,.O g)],[(1,.box (cC0 2 3 4 c0_) 44)],((0,.sl rR0 s_)::vV0 2 3 4 c0_ []),9⟩ J 0 (wn ?_))
  obtain ⟨K,h⟩|⟨K,h⟩:=oc h
  ·refine wt K Q (wR J 2 Q ?_)
   cases h
   exact we J func66 [] Q Q Q Q
  exact wf K Q (wi (wb (wS J 2 Q (wU (ih3 (w64 (d+1)) h)))))
 exact wU (ih N 0 h)
theorem z120_4_ct (N:Nat) (s_:(List T0)) (c0_:T0) (r:Bool) (h:z120_4 N s_ c0_=some r) :
 Fn Tryz.prog 120 ⟨5,[.S 0,.c (.cl 121 [] [1])],((0,.sl rR0 s_)::vV0 2 3 4 c0_ []),[(1,.box (cC0 2 3 4 c0_) 44)],5,.O r,[],[(1,.box (cC0 2 3 4 c0_) 44)]⟩:=by
 refine wF func120 Q Q (fun E F w=>?_)
 unfold z120_4 at h
 refine wR J 1 Q (wq (wg (xw [2,3,4] (zz21 c0_ s_ [(5,.S 0),(6,.c (.cl 121 [] [1]))]) J 2 ?_)))
 obtain ⟨x1,d,h⟩:=ob h
 refine wc (z66_3_ct N s_ c0_ _ d) [(0,.sl 0),(1,.bp 1 0),(2,.sl 2),(3,.sl 3),(4,.sl 4)] [] Q Q Q Q Q Q Q Q (.inl rfl) rfl (wx (zz21 c0_ s_ [(4,.O (decide (x1≥0)))]) J 2 (wn ?_))
 cases h
 exact we J func120 [] Q Q Q Q
theorem z123_ct (N:Nat) (s_:T4) (r:Bool) (h:z123 N s_=some r) :
 Fn Tryz.prog 123 ⟨0,[.a (cC4 s_)],[],[],0,.O r,[],[]⟩:=by
 refine wF func123 Q Q (fun E F w=>?_)
 unfold z123 at h
 refine wR J 2 Q (wq (wV (zz28 s_ [(1,.B 0 0),(2,.O false),(4,.I s_.Kind)]) J 2 (wo (wR J 2 Q ?_))))
 obtain ⟨K,h⟩|⟨K,h⟩:=oc h
 ·refine wt K Q (wq (wg (xw (rg 4 12) (zz28 s_ [(1,.B 0 0),(10,.O (decide (s_.Lo≥(-1000))))]) J 4 ?_)))
  obtain ⟨K,h⟩|⟨K,h⟩:=oc' h
  ·refine wy 10 K Q (wx (zz9 [(2,.O false)]) J 12 (wn ?_))
   cases h
   exact we J func123 [] Q Q Q Q
  refine wy 10 K Q (xw [11,12,13,14,15] (zz28 s_ [(1,.B 0 0),(17,.O (decide (s_.Lo≤s_.Hi)))]) J 7 ?_)
  obtain ⟨K,h⟩|⟨K,h⟩:=oc h
  ·refine wy 17 K Q (wx (zz9 [(2,.O (decide (s_.Hi≤1000)))]) J 5 (wn ?_))
   cases h
   exact we J func123 [] Q Q Q Q
  refine wy 17 K Q (wx (zz9 [(2,.O false)]) J 5 (wn ?_))
  cases h
  exact we J func123 [] Q Q Q Q
 refine wf K Q (wV (zz28 s_ [(1,.B 0 0),(2,.O false),(22,.O (s_.Kind==2))]) J 2 ?_)
 obtain ⟨K,h⟩|⟨K,h⟩:=oc' h
 ·refine wf K Q (wi (wb (wR J 1 Q ?_)))
  cases h
  exact we J func123 [] Q Q Q Q
 refine wt K Q (wq (wg (xw (rg 4 12) (zz28 s_ [(1,.B 0 0),(27,.O (decide (s_.Lo≥0)))]) J 4 ?_)))
 obtain ⟨K,h⟩|⟨K,h⟩:=oc' h
 ·refine wy 27 K Q (wx (zz9 [(2,.O false)]) J 12 (wn ?_))
  cases h
  exact we J func123 [] Q Q Q Q
 refine wy 27 K Q (xw [11,12,13,14,15] (zz28 s_ [(1,.B 0 0),(34,.O (decide (s_.Lo≤s_.Hi)))]) J 7 ?_)
 obtain ⟨K,h⟩|⟨K,h⟩:=oc h
 ·refine wy 34 K Q (wx (zz9 [(2,.O (decide (s_.Hi≤40)))]) J 5 (wn ?_))
  cases h
  exact we J func123 [] Q Q Q Q
 refine wy 34 K Q (wx (zz9 [(2,.O false)]) J 5 (wn ?_))
 cases h
 exact we J func123 [] Q Q Q Q
theorem z125_5_ct (N:Nat) (x_:T2) (c0_:T2) (r:Bool) (h:z125_5 N x_ c0_=some r) :
 Fn Tryz.prog 125 ⟨1,[.a (cC2 x_),.B 0 0],[],[(0,.box (cC2 c0_) 89)],1,.O r,[],[(0,.box (cC2 c0_) 89)]⟩:=by
 refine wF func125 Q Q (fun E F w=>?_)
 unfold z125_5 at h
 refine wR J 2 Q (wV ⟨[(3,.O (x_.Name.toList==c0_.Name.toList))],[(0,.box (cC2 c0_) 89)],[],2⟩ J 6 ?_)
 cases h
 exact we J func125 [] Q Q Q Q
theorem z68_6_ct (N:Nat) (s_:(List T2)) (c0_:T2) (r:Int) (h:z68_6 N s_ c0_=some r) :
 Fn Tryz.prog 68 ⟨2,[.S 0,.c (.cl 125 [] [1])],[(0,.sl rR2 s_)],[(1,.box (cC2 c0_) 89)],2,.I r,[],[(1,.box (cC2 c0_) 89)]⟩:=by
 refine wF func68 Q Q (fun E F w=>?_)
 unfold z68_6 at h
 refine wR J 1 Q (wq (wV (zz22 c0_ s_ [(0,.S 0),(1,.c (.cl 125 [] [1])),(4,.I 0),(7,.I (s_.length:Int)),(8,.I 0)]) J 3 ?_))
 refine wC (σ:=Unit) (fun st=>(zz22 c0_ s_ [])) (fun st=>z68_6_k1=some r) ?_ (fun j1=>?_)
 ·intro _ h
  replace h:z68_6_k1=some r:=h
  unfold z68_6_k1 at h
  refine wR J 1 Q ?_
  cases h
  exact we J func68 [] Q Q Q Q
 refine wo ?_
 refine wI (σ:=Int) (fun st=>(zz22 c0_ s_ [(0,.S 0),(1,.c (.cl 125 [] [1])),(7,.I (s_.length:Int)),(8,.I st)])) (fun n st=>z68_6_l2 N s_ c0_ n st) (r:=r) (fun _=>rfl) ?_ (fun ih=>?_)
 ·intro n2 ih3
  intro d h
  replace h:z68_6_l2 N s_ c0_ (n2+1) d=some r:=h
  unfold z68_6_l2 at h
  refine wR J 1 Q (wq ?_)
  obtain ⟨K,h⟩|⟨K,h⟩:=oc' h
  ·exact wf K Q (wz rfl (wU (j1 () h)))
  refine wt K Q (wi (wq (wo (wV (zz22 c0_ s_ [(0,.S 0),(1,.c (.cl 125 [] [1])),(5,.I d),(7,.I (s_.length:Int)),(8,.I d)]) J 2 (wq (wg (xw [3,4,5] (zz22 c0_ s_ [(0,.S 0),(1,.c (.cl 125 [] [1])),(5,.I d),(7,.I (s_.length:Int)),(8,.I d),(11,.c (.cl 125 [] [1])),(12,.S 0),(13,.I d)]) J 3 ?_)))))))
  obtain ⟨e,f,h⟩:=ob h
  refine wj oO2 J f Q Q Q Q Q Q Q Q Q (ws J 1 Q ?_)
  obtain ⟨g,i,h⟩:=ob h
  refine WPr.callc (z125_5_ct N e c0_ _ i) [(0,.bp 1 0)] [] Q Q Q Q Q Q Q Q Q (.inl rfl) rfl (wx ⟨[(0,.S 0),(1,.c (.cl 125 [] [1])),(5,.I d),(7,.I (s_.length:Int)),(8,.I d),(16,.O g)],[(1,.box (cC2 c0_) 89)],[(0,.sl rR2 s_)],3⟩ J 0 (wn ?_))
  obtain ⟨K,h⟩|⟨K,h⟩:=oc h
  ·refine wt K Q (wR J 2 Q ?_)
   cases h
   exact we J func68 [] Q Q Q Q
  exact wf K Q (wi (wb (wS J 2 Q (wU (ih3 (w64 (d+1)) h)))))
 exact wU (ih N 0 h)
theorem z124_7_ct (N:Nat) (s_:(List T2)) (c0_:T2) (r:Bool) (h:z124_7 N s_ c0_=some r) :
 Fn Tryz.prog 124 ⟨2,[.S 0,.c (.cl 125 [] [1])],[(0,.sl rR2 s_)],[(1,.box (cC2 c0_) 89)],2,.O r,[],[(1,.box (cC2 c0_) 89)]⟩:=by
 refine wF func124 Q Q (fun E F w=>?_)
 unfold z124_7 at h
 refine wR J 1 Q (wq (wg (xw [2,3,4] (zz22 c0_ s_ [(5,.S 0),(6,.c (.cl 125 [] [1]))]) J 2 ?_)))
 obtain ⟨x1,d,h⟩:=ob h
 refine wc (z68_6_ct N s_ c0_ _ d) [(0,.sl 0),(1,.bp 1 0)] [] Q Q Q Q Q Q Q Q (.inl rfl) rfl (wx (zz22 c0_ s_ [(4,.O (decide (x1≥0)))]) J 2 (wn ?_))
 cases h
 exact we J func124 [] Q Q Q Q
theorem z126_ct (N:Nat) (g_:T3) (all_:(List T2)) (r:Bool) (h:z126 N g_ all_=some r) :
 Fn Tryz.prog 126 ⟨3,[.a [.sl 0,.sl 1],.S 2],[(0,.sl rR1 g_.Diffs),(1,.sl (rP (rI .i64) (rI .i64)) g_.Equals),(2,.sl rR2 all_)],[],3,.O r,[],[]⟩:=by
 refine wF func126 Q Q (fun E F w=>?_)
 unfold z126 at h
 refine wR J 2 Q (wq (wq (wg (xw [5,6,7,8,9] (zz29 g_.Diffs g_.Equals all_ [(1,.S 2),(2,.B 3 0),(4,.O false),(15,.O (decide ((g_.Diffs.length:Int) > 20)))]) J 5 ?_))))
 obtain ⟨K,h⟩|⟨K,h⟩:=oc h
 ·refine wy 15 K Q (wx (zz29 g_.Diffs g_.Equals all_ [(1,.S 2),(2,.B 3 0),(4,.O false),(20,.O true)]) J 5 (wn (wt Q Q (wR J 1 Q ?_))))
  cases h
  exact we J func126 [] Q Q Q Q
 refine wy 15 K Q (wx (zz29 g_.Diffs g_.Equals all_ [(1,.S 2),(2,.B 3 0),(4,.O false),(20,.O (decide ((g_.Equals.length:Int) > 20)))]) J 5 (wn ?_))
 obtain ⟨K,h⟩|⟨K,h⟩:=oc h
 ·refine wt K Q (wR J 1 Q ?_)
  cases h
  exact we J func126 [] Q Q Q Q
 refine wf K Q (wi (wq (wV (zz29 g_.Diffs g_.Equals all_ [(1,.S 2),(2,.B 3 0),(4,.O false),(22,.S 0),(23,.I (g_.Diffs.length:Int)),(24,.I 0)]) J 4 ?_)))
 refine wC (σ:=Unit) (fun st=>(zz29 g_.Diffs g_.Equals all_ [(1,.S 2),(2,.B 3 0)])) (fun st=>z126_k5 N g_ all_=some r) ?_ (fun j1=>?_)
 ·intro _ h
  replace h:z126_k5 N g_ all_=some r:=h
  unfold z126_k5 at h
  refine wq (wV (zz50 g_.Diffs g_.Equals all_ [(1,.S 2),(56,.S 1),(57,.I (g_.Equals.length:Int)),(58,.I 0)]) J 4 ?_)
  refine wC (σ:=Unit) (fun st=>(zz50 g_.Diffs g_.Equals all_ [])) (fun st=>z126_k1=some r) ?_ (fun j3=>?_)
  ·intro _ h
   replace h:z126_k1=some r:=h
   unfold z126_k1 at h
   refine wR J 1 Q ?_
   cases h
   exact we J func126 [] Q Q Q Q
  refine wo ?_
  refine wI (σ:=Int) (fun st=>(zz50 g_.Diffs g_.Equals all_ [(1,.S 2),(56,.S 1),(57,.I (g_.Equals.length:Int)),(58,.I st)])) (fun n st=>z126_l2 N g_ all_ n st) (r:=r) (fun _=>rfl) ?_ (fun ih=>?_)
  ·intro n13 ih14
   intro c h
   replace h:z126_l2 N g_ all_ (n13+1) c=some r:=h
   unfold z126_l2 at h
   refine wR J 1 Q (wq ?_)
   obtain ⟨K,h⟩|⟨K,h⟩:=oc' h
   ·exact wf K Q (wz rfl (wU (j3 () h)))
   refine wt K Q (wi (wq (wo (wq (wg ?_)))))
   obtain ⟨d,e,h⟩:=ob h
   refine wj (oP (oI .i64) (oI .i64)) J e Q Q Q Q Q Q Q Q Q (wx ⟨[(1,.S 2),(8,.B 5 0),(56,.S 1),(57,.I (g_.Equals.length:Int)),(58,.I c)],[(5,.box [.I d.1,.I d.2] 49)],[(0,.sl rR1 g_.Diffs),(1,.sl (rP (rI .i64) (rI .i64)) g_.Equals),(2,.sl rR2 all_)],6⟩ J 3 (wn (wR J 2 Q ?_)))
   refine wC (σ:=Unit) (fun st=>(zz23 g_.Diffs g_.Equals all_ [(1,.S 2),(56,.S 1),(57,.I (g_.Equals.length:Int)),(58,.I c)])) (fun st=>z126_k3 c (z126_l2 N g_ all_ n13)=some r) ?_ (fun j21=>?_)
   ·intro _ h
    replace h:z126_k3 c (z126_l2 N g_ all_ n13)=some r:=h
    unfold z126_k3 at h
    exact wb (wS J 2 Q (wU (ih14 (w64 (c+1)) h)))
   refine wo ?_
   refine wI (σ:=Int) (fun st=>(zz23 g_.Diffs g_.Equals all_ [(1,.S 2),(56,.S 1),(57,.I (g_.Equals.length:Int)),(58,.I c),(62,.a [.I d.1,.I d.2]),(63,.I st)])) (fun n st=>z126_l4 all_ c (z126_l2 N g_ all_ n13) d n st) (r:=r) (fun _=>rfl) ?_ (fun ih=>?_)
   ·intro n15 ih23
    intro f h
    replace h:z126_l4 all_ c (z126_l2 N g_ all_ n13) d (n15+1) f=some r:=h
    unfold z126_l4 at h
    refine wR J 1 Q (wq ?_)
    obtain ⟨K,h⟩|⟨K,h⟩:=oc' h
    ·exact wf K Q (wz rfl (wU (j21 () h)))
    refine wt K Q (wi (wq (wo (wq (wg ?_)))))
    obtain ⟨g,j,h⟩:=ob h
    refine WPr.ax (len:=2) (el:=3) (SC.i .i64) ([d.1,d.2]:List Int) j Q Q Q Q (by kernel_rfl) (by kernel_rfl) (by kernel_rfl) (by kernel_rfl) Q Q Q Q (wx (zz23 g_.Diffs g_.Equals all_ [(1,.S 2),(10,.I g),(56,.S 1),(57,.I (g_.Equals.length:Int)),(58,.I c),(62,.a [.I d.1,.I d.2]),(63,.I f)]) J 1 (wn (wq (wg (xw (rg 3 14) (zz23 g_.Diffs g_.Equals all_ [(1,.S 2),(10,.I g),(56,.S 1),(57,.I (g_.Equals.length:Int)),(58,.I c),(62,.a [.I d.1,.I d.2]),(63,.I f),(68,.O (decide (g < 0)))]) J 3 ?_)))))
    obtain ⟨K,h⟩|⟨K,h⟩:=oc h
    ·refine wy 68 K Q (wx (zz23 g_.Diffs g_.Equals all_ [(1,.S 2),(56,.S 1),(57,.I (g_.Equals.length:Int)),(58,.I c),(62,.a [.I d.1,.I d.2]),(63,.I f),(82,.O true)]) J 14 (wn (wt Q Q (wR J 1 Q ?_))))
     cases h
     exact we J func126 [] Q Q Q Q
    refine wy 68 K Q (xw (rg 9 8) (zz23 g_.Diffs g_.Equals all_ [(1,.S 2),(10,.I g),(56,.S 1),(57,.I (g_.Equals.length:Int)),(58,.I c),(62,.a [.I d.1,.I d.2]),(63,.I f),(74,.O (decide (g≥(all_.length:Int))))]) J 6 ?_)
    obtain ⟨K,h⟩|⟨K,h⟩:=oc h
    ·refine wy 74 K Q (wx (zz23 g_.Diffs g_.Equals all_ [(1,.S 2),(56,.S 1),(57,.I (g_.Equals.length:Int)),(58,.I c),(62,.a [.I d.1,.I d.2]),(63,.I f),(82,.O true)]) J 8 (wn (wt Q Q (wR J 1 Q ?_))))
     cases h
     exact we J func126 [] Q Q Q Q
    refine wy 74 K Q (ws J 2 Q ?_)
    obtain ⟨k,l,h⟩:=ob h
    refine wj oO2 J l Q Q Q Q Q Q Q Q Q (wx ⟨[(1,.S 2),(56,.S 1),(57,.I (g_.Equals.length:Int)),(58,.I c),(62,.a [.I d.1,.I d.2]),(63,.I f),(82,.O (k.Sort'.Kind != 2))],[],[(0,.sl rR1 g_.Diffs),(1,.sl (rP (rI .i64) (rI .i64)) g_.Equals),(2,.sl rR2 all_)],7⟩ J 5 (wn ?_))
    obtain ⟨K,h⟩|⟨K,h⟩:=oc h
    ·refine wt K Q (wR J 1 Q ?_)
     cases h
     exact we J func126 [] Q Q Q Q
    exact wf K Q (wi (wb (wS J 2 Q (wU (ih23 (w64 (f+1)) h)))))
   exact wU (ih N 0 h)
  exact wU (ih N 0 h)
 refine wo ?_
 refine wI (σ:=Int) (fun st=>(zz29 g_.Diffs g_.Equals all_ [(1,.S 2),(2,.B 3 0),(22,.S 0),(23,.I (g_.Diffs.length:Int)),(24,.I st)])) (fun n st=>z126_l6 N g_ all_ n st) (r:=r) (fun _=>rfl) ?_ (fun ih=>?_)
 ·intro n16 ih24
  intro m h
  replace h:z126_l6 N g_ all_ (n16+1) m=some r:=h
  unfold z126_l6 at h
  refine wR J 1 Q (wq ?_)
  obtain ⟨K,h⟩|⟨K,h⟩:=oc' h
  ·exact wf K Q (wz rfl (wU (j1 () h)))
  refine wt K Q (wi (wq (wo (wq (wg ?_)))))
  obtain ⟨o,p,h⟩:=ob h
  refine wj oO1 J p Q Q Q Q Q Q Q Q Q (wx (zz41 o g_.Diffs g_.Equals all_ [(1,.S 2),(2,.B 3 0),(6,.B 5 0),(22,.S 0),(23,.I (g_.Diffs.length:Int)),(24,.I m)]) J 3 (wn (wq (wg (xw (rg 7 19) (zz41 o g_.Diffs g_.Equals all_ [(1,.S 2),(2,.B 3 0),(6,.B 5 0),(22,.S 0),(23,.I (g_.Diffs.length:Int)),(24,.I m),(34,.O (decide ((minI o.X o.Y) < (-1))))]) J 7 ?_)))))
  obtain ⟨K,h⟩|⟨K,h⟩:=oc h
  ·refine wy 34 K Q (wx (zz42 g_.Diffs g_.Equals all_ [(1,.S 2),(2,.B 3 0),(22,.S 0),(23,.I (g_.Diffs.length:Int)),(24,.I m),(53,.O true)]) J 19 (wn (wt Q Q (wR J 1 Q ?_))))
   cases h
   exact we J func126 [] Q Q Q Q
  refine wy 34 K Q (xw (rg 17 9) (zz41 o g_.Diffs g_.Equals all_ [(1,.S 2),(2,.B 3 0),(6,.B 5 0),(22,.S 0),(23,.I (g_.Diffs.length:Int)),(24,.I m),(44,.O (decide ((maxI o.X o.Y)≥(all_.length:Int))))]) J 10 ?_)
  obtain ⟨K,h⟩|⟨K,h⟩:=oc h
  ·refine wy 44 K Q (wx (zz42 g_.Diffs g_.Equals all_ [(1,.S 2),(2,.B 3 0),(22,.S 0),(23,.I (g_.Diffs.length:Int)),(24,.I m),(53,.O true)]) J 9 (wn (wt Q Q (wR J 1 Q ?_))))
   cases h
   exact we J func126 [] Q Q Q Q
  refine wy 44 K Q (xw [22,23,24,25] (zz41 o g_.Diffs g_.Equals all_ [(1,.S 2),(2,.B 3 0),(6,.B 5 0),(22,.S 0),(23,.I (g_.Diffs.length:Int)),(24,.I m),(49,.O (decide (o.C < (-20000))))]) J 5 ?_)
  obtain ⟨K,h⟩|⟨K,h⟩:=oc h
  ·refine wy 49 K Q (wx (zz42 g_.Diffs g_.Equals all_ [(1,.S 2),(2,.B 3 0),(22,.S 0),(23,.I (g_.Diffs.length:Int)),(24,.I m),(53,.O true)]) J 4 (wn (wt Q Q (wR J 1 Q ?_))))
   cases h
   exact we J func126 [] Q Q Q Q
  refine wy 49 K Q (wx (zz42 g_.Diffs g_.Equals all_ [(1,.S 2),(2,.B 3 0),(22,.S 0),(23,.I (g_.Diffs.length:Int)),(24,.I m),(53,.O (decide (o.C > 20000)))]) J 4 (wn ?_))
  obtain ⟨K,h⟩|⟨K,h⟩:=oc h
  ·refine wt K Q (wR J 1 Q ?_)
   cases h
   exact we J func126 [] Q Q Q Q
  exact wf K Q (wi (wb (wS J 2 Q (wU (ih24 (w64 (m+1)) h)))))
 exact wU (ih N 0 h)
theorem z74_ct (N:Nat) (l_:(List T0)) (r:Bool) (h:z74 N l_=some r) :
 Fn Tryz.prog 74 ⟨1,[.S 0],[(0,.sl rR0 l_)],[],1,.O r,[],[]⟩:=by
 refine wF func74 Q Q (fun E F w=>?_)
 unfold z74 at h
 refine wR J 1 Q (wq (wV (zz13 l_ [(0,.S 0),(2,.O false),(11,.O (decide ((l_.length:Int) > 40)))]) J 3 ?_))
 obtain ⟨K,h⟩|⟨K,h⟩:=oc h
 ·refine wt K Q (wR J 1 Q ?_)
  cases h
  exact we J func74 [] Q Q Q Q
 refine wf K Q (wi (wq (wg (ws J 1 Q ?_))))
 obtain ⟨x1,d,h⟩:=ob h
 refine wc (z79_ct N l_ _ d) [(0,.sl 0)] [] Q Q Q Q Q Q Q Q (.inl rfl) rfl (wx (zz27 x1 l_ [(0,.S 0),(2,.O false),(3,.S 1)]) J 1 (wn (wq (wV (zz27 x1 l_ [(0,.S 0),(2,.O false),(3,.S 1),(16,.O (decide ((x1.length:Int) > 24)))]) J 3 ?_))))
 obtain ⟨K,h⟩|⟨K,h⟩:=oc h
 ·refine wt K Q (wR J 1 Q ?_)
  cases h
  exact we J func74 [] Q Q Q Q
 refine wf K Q (wi (wR J 1 Q (wq (wV (zz27 x1 l_ [(0,.S 0),(2,.O false),(3,.S 1),(4,.I 0),(17,.S 0),(18,.I (l_.length:Int)),(19,.I 0)]) J 3 ?_))))
 refine wC (σ:=Unit) (fun st=>⟨[],[],[(0,.sl rR0 l_)],2⟩) (fun st=>z74_k1=some r) ?_ (fun j1=>?_)
 ·intro _ h
  replace h:z74_k1=some r:=h
  unfold z74_k1 at h
  refine wR J 1 Q ?_
  cases h
  exact we J func74 [] Q Q Q Q
 refine wo ?_
 refine wI (σ:=Int × Int) (fun st=>(zz27 x1 l_ [(0,.S 0),(3,.S 1),(4,.I st.1),(17,.S 0),(18,.I (l_.length:Int)),(19,.I st.2)])) (fun n st=>z74_l2 N l_ x1 n st.1 st.2) (r:=r) (fun _=>rfl) ?_ (fun ih=>?_)
 ·intro n12 ih12
  rintro ⟨e,f⟩ h
  replace h:z74_l2 N l_ x1 (n12+1) e f=some r:=h
  unfold z74_l2 at h
  refine wR J 1 Q (wq ?_)
  obtain ⟨K,h⟩|⟨K,h⟩:=oc' h
  ·exact wf K Q (wz rfl (wU (j1 () h)))
  refine wt K Q (wi (wq (wo (wq (wg (ws J 1 Q ?_))))))
  obtain ⟨g,i,h⟩:=ob h
  refine wj oO0 J i Q Q Q Q Q Q Q Q Q (wx (zz17 x1 g l_ [(0,.S 0),(3,.S 1),(4,.I e),(5,.I f),(6,.B 6 0),(17,.S 0),(18,.I (l_.length:Int)),(19,.I f)]) J 4 (wn (wq (wq (wg (ws J 2 Q ?_))))))
  obtain ⟨j,k,h⟩:=ob h
  refine wc (z119_ct N g.Name _ k) [] [] Q Q Q Q Q Q Q Q (.inl rfl) rfl (xw (rg 5 18) (zz17 x1 g l_ [(0,.S 0),(3,.S 1),(4,.I e),(5,.I f),(6,.B 6 0),(17,.S 0),(18,.I (l_.length:Int)),(19,.I f),(28,.O (!j))]) J 2 ?_)
  obtain ⟨K,h⟩|⟨K,h⟩:=oc h
  ·refine wy 28 K Q (wx (zz17 x1 g l_ [(0,.S 0),(3,.S 1),(4,.I e),(6,.B 6 0),(17,.S 0),(18,.I (l_.length:Int)),(19,.I f),(46,.O true)]) J 18 (wn (wt Q Q (wR J 1 Q ?_))))
   cases h
   exact we J func74 [] Q Q Q Q
  refine wy 28 K Q (xw (rg 11 12) (zz17 x1 g l_ [(0,.S 0),(3,.S 1),(4,.I e),(5,.I f),(6,.B 6 0),(17,.S 0),(18,.I (l_.length:Int)),(19,.I f),(34,.O (decide ((g.Fields.length:Int) > 4)))]) J 6 ?_)
  obtain ⟨K,h⟩|⟨K,h⟩:=oc h
  ·refine wy 34 K Q (wx (zz17 x1 g l_ [(0,.S 0),(3,.S 1),(4,.I e),(6,.B 6 0),(17,.S 0),(18,.I (l_.length:Int)),(19,.I f),(46,.O true)]) J 12 (wn (wt Q Q (wR J 1 Q ?_))))
   cases h
   exact we J func74 [] Q Q Q Q
  refine wy 34 K Q (xw (rg 17 6) (zz17 x1 g l_ [(0,.S 0),(3,.S 1),(4,.I e),(5,.I f),(6,.B 6 0),(17,.S 0),(18,.I (l_.length:Int)),(19,.I f),(40,.O (g.First != e))]) J 6 ?_)
  obtain ⟨K,h⟩|⟨K,h⟩:=oc h
  ·refine wy 40 K Q (wx (zz17 x1 g l_ [(0,.S 0),(3,.S 1),(4,.I e),(6,.B 6 0),(17,.S 0),(18,.I (l_.length:Int)),(19,.I f),(46,.O true)]) J 6 (wn (wt Q Q (wR J 1 Q ?_))))
   cases h
   exact we J func74 [] Q Q Q Q
  refine wy 40 K Q (ws J 2 Q ?_)
  obtain ⟨m,o,h⟩:=ob h
  refine WPr.isl J (l:=none) (h:=some (.i64,f)) o Q Q Q Q Q Q Q Q Q Q (xw [21,22] ⟨[(0,.S 0),(3,.S 1),(4,.I e),(6,.B 6 0),(17,.S 0),(18,.I (l_.length:Int)),(19,.I f),(40,.O false),(43,.S 7),(44,.c (.cl 121 [] [6]))],[(1,.own rR2 x1 true),(6,.box (cC0 3 4 5 g) 44)],((0,.sl rR0 l_)::vV0 3 4 5 g [(7,.sl rR0 m)]),8⟩ J 1 ?_)
  obtain ⟨p,q,h⟩:=ob h
  refine wc (z120_4_ct N m g _ q) [(0,.sl 7),(1,.bp 6 0),(2,.sl 3),(3,.sl 4),(4,.sl 5)] [] Q Q Q Q Q Q Q Q (.inl rfl) rfl (wx (zz36 x1 g l_ [(0,.S 0),(3,.S 1),(4,.I e),(6,.B 6 0),(17,.S 0),(18,.I (l_.length:Int)),(19,.I f),(46,.O p)]) J 1 (wn ?_))
  obtain ⟨K,h⟩|⟨K,h⟩:=oc h
  ·refine wt K Q (wR J 1 Q ?_)
   cases h
   exact we J func74 [] Q Q Q Q
  refine wf K Q (wi (wV (zz36 x1 g l_ [(0,.S 0),(3,.S 1),(4,.I (w64 (e+(g.Fields.length:Int)))),(6,.B 6 0),(17,.S 0),(18,.I (l_.length:Int)),(19,.I f)]) J 6 (wq (wV (zz36 x1 g l_ [(0,.S 0),(3,.S 1),(4,.I (w64 (e+(g.Fields.length:Int)))),(6,.B 6 0),(17,.S 0),(18,.I (l_.length:Int)),(19,.I f),(53,.S 3),(54,.I (g.Fields.length:Int)),(55,.I 0)]) J 4 ?_))))
  refine wC (σ:=Unit) (fun st=>(zz36 x1 g l_ [(0,.S 0),(3,.S 1),(4,.I (w64 (e+(g.Fields.length:Int)))),(6,.B 6 0),(17,.S 0),(18,.I (l_.length:Int)),(19,.I f)])) (fun st=>z74_k3 N x1 e f (z74_l2 N l_ x1 n12) g=some r) ?_ (fun j19=>?_)
  ·intro _ h
   replace h:z74_k3 N x1 e f (z74_l2 N l_ x1 n12) g=some r:=h
   unfold z74_k3 at h
   refine wq (wg (xw [3,4] ⟨[(0,.S 0),(3,.S 1),(4,.I (w64 (e+(g.Fields.length:Int)))),(17,.S 0),(18,.I (l_.length:Int)),(19,.I f),(80,.a [.sl 4,.sl 5]),(81,.S 1)],[(1,.own rR2 x1 true)],[(0,.sl rR0 l_),(4,.sl rR1 g.Guard.Diffs),(5,.sl (rP (rI .i64) (rI .i64)) g.Guard.Equals)],8⟩ J 3 ?_))
   obtain ⟨s,t,h⟩:=ob h
   refine wc (z126_ct N g.Guard x1 _ t) [(0,.sl 4),(1,.sl 5),(2,.sl 1)] [1] Q Q Q Q Q Q Q Q (.inr ⟨rfl,trivial⟩) rfl (wx ⟨[(0,.S 0),(3,.S 1),(4,.I (w64 (e+(g.Fields.length:Int)))),(17,.S 0),(18,.I (l_.length:Int)),(19,.I f),(83,.O (!s))],[(1,.own rR2 x1 true)],[(0,.sl rR0 l_)],8⟩ J 1 (wn ?_))
   obtain ⟨K,h⟩|⟨K,h⟩:=oc h
   ·refine wt K Q (wR J 1 Q ?_)
    cases h
    exact we J func74 [] Q Q Q Q
   exact wf K Q (wi (wb (wS J 2 Q (wU (ih12 ((w64 (e+(g.Fields.length:Int))),(w64 (f+1))) h)))))
  refine wo ?_
  refine wI (σ:=Int) (fun st=>(zz36 x1 g l_ [(0,.S 0),(3,.S 1),(4,.I (w64 (e+(g.Fields.length:Int)))),(6,.B 6 0),(17,.S 0),(18,.I (l_.length:Int)),(19,.I f),(53,.S 3),(54,.I (g.Fields.length:Int)),(55,.I st)])) (fun n st=>z74_l4 N x1 e f (z74_l2 N l_ x1 n12) g n st) (r:=r) (fun _=>rfl) ?_ (fun ih=>?_)
  ·intro n14 ih21
   intro u h
   replace h:z74_l4 N x1 e f (z74_l2 N l_ x1 n12) g (n14+1) u=some r:=h
   unfold z74_l4 at h
   refine wR J 1 Q (wq ?_)
   obtain ⟨K,h⟩|⟨K,h⟩:=oc' h
   ·exact wf K Q (wz rfl (wU (j19 () h)))
   refine wt K Q (wi (wq (wo (wq (wg (ws J 1 Q ?_))))))
   obtain ⟨v,x,h⟩:=ob h
   refine wj oO2 J x Q Q Q Q Q Q Q Q Q (wx (zz43 x1 g v l_ [(0,.S 0),(3,.S 1),(4,.I (w64 (e+(g.Fields.length:Int)))),(6,.B 6 0),(7,.I u),(8,.B 9 0),(17,.S 0),(18,.I (l_.length:Int)),(19,.I f),(53,.S 3),(54,.I (g.Fields.length:Int)),(55,.I u)]) J 4 (wn (wq (wg (ws J 2 Q ?_)))))
   obtain ⟨y,z,h⟩:=ob h
   refine wc (z122_ct N v.Name _ z) [] [] Q Q Q Q Q Q Q Q (.inl rfl) rfl (xw (rg 5 13) (zz43 x1 g v l_ [(0,.S 0),(3,.S 1),(4,.I (w64 (e+(g.Fields.length:Int)))),(6,.B 6 0),(7,.I u),(8,.B 9 0),(17,.S 0),(18,.I (l_.length:Int)),(19,.I f),(53,.S 3),(54,.I (g.Fields.length:Int)),(55,.I u),(64,.O (!y))]) J 2 ?_)
   obtain ⟨K,h⟩|⟨K,h⟩:=oc h
   ·refine wy 64 K Q (wx (zz66 x1 g l_ [(0,.S 0),(3,.S 1),(4,.I (w64 (e+(g.Fields.length:Int)))),(6,.B 6 0),(17,.S 0),(18,.I (l_.length:Int)),(19,.I f),(53,.S 3),(54,.I (g.Fields.length:Int)),(55,.I u),(77,.O true)]) J 13 (wn (wt Q Q (wR J 1 Q ?_))))
    cases h
    exact we J func74 [] Q Q Q Q
   refine wy 64 K Q (ws J 2 Q ?_)
   obtain ⟨A,C,h⟩:=ob h
   refine wc (z123_ct N v.Sort' _ C) [] [] Q Q Q Q Q Q Q Q (.inl rfl) rfl (xw (rg 11 7) (zz43 x1 g v l_ [(0,.S 0),(3,.S 1),(4,.I (w64 (e+(g.Fields.length:Int)))),(6,.B 6 0),(7,.I u),(8,.B 9 0),(17,.S 0),(18,.I (l_.length:Int)),(19,.I f),(53,.S 3),(54,.I (g.Fields.length:Int)),(55,.I u),(70,.O (!A))]) J 3 ?_)
   obtain ⟨K,h⟩|⟨K,h⟩:=oc h
   ·refine wy 70 K Q (wx (zz66 x1 g l_ [(0,.S 0),(3,.S 1),(4,.I (w64 (e+(g.Fields.length:Int)))),(6,.B 6 0),(17,.S 0),(18,.I (l_.length:Int)),(19,.I f),(53,.S 3),(54,.I (g.Fields.length:Int)),(55,.I u),(77,.O true)]) J 7 (wn (wt Q Q (wR J 1 Q ?_))))
    cases h
    exact we J func74 [] Q Q Q Q
   refine wy 70 K Q (xw [14,15,16,17] (zz43 x1 g v l_ [(0,.S 0),(3,.S 1),(4,.I (w64 (e+(g.Fields.length:Int)))),(6,.B 6 0),(8,.B 9 0),(17,.S 0),(18,.I (l_.length:Int)),(19,.I f),(53,.S 3),(54,.I (g.Fields.length:Int)),(55,.I u),(70,.O false),(72,.S 3),(73,.I u)]) J 3 ?_)
   obtain ⟨D,G,h⟩:=ob h
   refine WPr.isl J (l:=none) (h:=some (.i64,u)) G Q Q Q Q Q Q Q Q Q Q (ws J 1 Q ?_)
   obtain ⟨H,R,h⟩:=ob h
   refine wc (z124_7_ct N D v _ R) [(0,.sl 10),(1,.bp 9 0)] [] Q Q Q Q Q Q Q Q (.inl rfl) rfl (wx ⟨[(0,.S 0),(3,.S 1),(4,.I (w64 (e+(g.Fields.length:Int)))),(6,.B 6 0),(17,.S 0),(18,.I (l_.length:Int)),(19,.I f),(53,.S 3),(54,.I (g.Fields.length:Int)),(55,.I u),(77,.O H)],[(1,.own rR2 x1 true),(6,.box (cC0 3 4 5 g) 44)],((0,.sl rR0 l_)::vV0 3 4 5 g []),11⟩ J 1 (wn ?_))
   obtain ⟨K,h⟩|⟨K,h⟩:=oc h
   ·refine wt K Q (wR J 1 Q ?_)
    cases h
    exact we J func74 [] Q Q Q Q
   exact wf K Q (wi (wb (wS J 2 Q (wU (ih21 (w64 (u+1)) h)))))
  exact wU (ih N 0 h)
 exact wU (ih N (0,0) h)
theorem z36_ct (N:Nat) (v_:T5) (r:Int) (h:z36 N v_=some r) :
 Fn Tryz.prog 36 ⟨0,[.a (cC5 v_)],[],[],0,.I r,[],[]⟩:=by
 refine wF func36 Q Q (fun E F w=>?_)
 unfold z36 at h
 refine wR J 2 Q (wq (wV ⟨[(1,.B 0 0),(2,.I 0),(5,.O (v_.Kind==2))],[(0,.box (cC5 v_) 46)],[],1⟩ J 3 ?_))
 obtain ⟨K,h⟩|⟨K,h⟩:=oc h
 ·refine wt K Q (wV (zz9 [(2,.I (v_.S.size:Int))]) J 4 ?_)
  cases h
  exact we J func36 [] Q Q Q Q
 refine wf K Q (wi (wV (zz9 [(2,.I v_.N)]) J 3 ?_))
 cases h
 exact we J func36 [] Q Q Q Q
theorem z145_ct (N:Nat) (r_:Int) (r:Bool) (h:z145 N r_=some r) :
 Fn Tryz.prog 145 ⟨0,[.c (.i .i32 r_)],[],[],0,.O r,[],[]⟩:=by
 refine wF func145 Q Q (fun E F w=>?_)
 unfold z145 at h
 refine wR J 1 Q (wq (wg (xw [3,4,5,6] (zz0 [(0,.c (.i .i32 r_)),(5,.O (decide (r_ < 32)))]) J 3 ?_)))
 obtain ⟨K,h⟩|⟨K,h⟩:=oc h
 ·refine wy 5 K Q (wx (zz0 [(2,.O true)]) J 4 (wn ?_))
  cases h
  exact we J func145 [] Q Q Q Q
 refine wy 5 K Q (wx (zz0 [(2,.O (decide (r_ > 126)))]) J 4 (wn ?_))
 cases h
 exact we J func145 [] Q Q Q Q
theorem z246_8_ct (N:Nat) (s_:ByteArray) (truth_:Bool) (r:Int) (h:z246_8 N s_ truth_=some r) :
 Fn Tryz.prog 246 ⟨0,[.c (.s s_),.c (.cl 145 [] []),.O truth_],[],[],0,.I r,[],[]⟩:=by
 refine wF func246 Q Q (fun E F w=>?_)
 unfold z246_8 at h
 refine wR J 1 Q (wq (wq (wg (ws J 1 Q (WPr.rng J Q Q Q Q Q Q Q Q (fun bk1=>wx (zz14 (itR bk1 s_ (0:Nat)) [(1,.c (.cl 145 [] [])),(2,.O truth_),(6,.I 0),(10,.c (.v (.pointer (some ⟨bk1,0,none⟩))))]) J 0 (wn ?_)))))))
 refine wC (σ:=Nat) (fun st=>(zz14 (itR bk1 s_ st) [])) (fun st=>z246_8_k1 st=some r) ?_ (fun j1=>?_)
 ·intro vi0_1 h
  replace h:z246_8_k1 vi0_1=some r:=h
  unfold z246_8_k1 at h
  refine wR J 1 Q ?_
  cases h
  exact we J func246 [] Q Q Q Q
 refine wo ?_
 refine wI (σ:=Nat) (fun st=>(zz14 (itR bk1 s_ st) [(1,.c (.cl 145 [] [])),(2,.O truth_),(10,.c (.v (.pointer (some ⟨bk1,0,none⟩))))])) (fun n st=>z246_8_l2 N s_ truth_ n st) (r:=r) (fun _=>rfl) ?_ (fun ih=>?_)
 ·intro n2 ih3
  intro vi0_3 h
  replace h:z246_8_l2 N s_ truth_ (n2+1) vi0_3=some r:=h
  unfold z246_8_l2 at h
  refine wq (wg ?_)
  obtain ⟨K,h⟩|⟨K,h⟩:=oc' h
  ·exact WPr.nxtF 0 K Q Q Q Q Q Q Q (ws J 1 Q (wn (wq (wf Q Q (wz rfl (wU (j1 vi0_3 h)))))))
  refine WPr.nxtT 0 K Q Q Q Q Q Q Q (ws J 1 Q (wn (wq (wt Q Q (wi (wo (wq (wg (wx (zz14 (itR bk1 s_ (vi0_3+(Utf8.decode s_ vi0_3).2)) [(1,.c (.cl 145 [] [])),(2,.O truth_),(7,.I ((vi0_3:Nat):Int)),(8,.c (.i .i32 ((Utf8.decode s_ vi0_3).1:Int))),(10,.c (.v (.pointer (some ⟨bk1,0,none⟩))))]) J 4 (wn (wq (wg (ws J 2 Q ?_)))))))))))))
  obtain ⟨d,e,h⟩:=ob h
  refine WPr.callc (z145_ct N ((Utf8.decode s_ vi0_3).1:Int) _ e) [] [] Q Q Q Q Q Q Q Q Q (.inl rfl) rfl (wx (zz14 (itR bk1 s_ (vi0_3+(Utf8.decode s_ vi0_3).2)) [(1,.c (.cl 145 [] [])),(2,.O truth_),(7,.I ((vi0_3:Nat):Int)),(10,.c (.v (.pointer (some ⟨bk1,0,none⟩)))),(19,.O (d==truth_))]) J 2 (wn ?_))
  obtain ⟨K,h⟩|⟨K,h⟩:=oc h
  ·refine wt K Q (wR J 2 Q ?_)
   cases h
   exact we J func246 [] Q Q Q Q
  exact wf K Q (wi (wb (wU (ih3 (vi0_3+(Utf8.decode s_ vi0_3).2) h))))
 exact wU (ih N (0:Nat) h)
theorem z213_9_ct (N:Nat) (s_:ByteArray) (r:Int) (h:z213_9 N s_=some r) :
 Fn Tryz.prog 213 ⟨0,[.c (.s s_),.c (.cl 145 [] [])],[],[],0,.I r,[],[]⟩:=by
 refine wF func213 Q Q (fun E F w=>?_)
 unfold z213_9 at h
 refine wR J 1 Q (wq (wg (xw [2,3] (zz0 [(5,.c (.s s_)),(6,.c (.cl 145 [] []))]) J 2 ?_)))
 obtain ⟨x1,d,h⟩:=ob h
 refine wc (z246_8_ct N s_ true _ d) [] [] Q Q Q Q Q Q Q Q (.inl rfl) rfl (wx (zz0 [(4,.I x1)]) J 1 (wn ?_))
 cases h
 exact we J func213 [] Q Q Q Q
theorem z144_10_ct (N:Nat) (s_:ByteArray) (r:Bool) (h:z144_10 N s_=some r) :
 Fn Tryz.prog 144 ⟨0,[.c (.s s_),.c (.cl 145 [] [])],[],[],0,.O r,[],[]⟩:=by
 refine wF func144 Q Q (fun E F w=>?_)
 unfold z144_10 at h
 refine wR J 1 Q (wq (wg (xw [2,3,4] (zz0 [(5,.c (.s s_)),(6,.c (.cl 145 [] []))]) J 2 ?_)))
 obtain ⟨x1,d,h⟩:=ob h
 refine wc (z213_9_ct N s_ _ d) [] [] Q Q Q Q Q Q Q Q (.inl rfl) rfl (wx (zz0 [(4,.O (decide (x1≥0)))]) J 2 (wn ?_))
 cases h
 exact we J func144 [] Q Q Q Q
theorem z80_ct (N:Nat) (s_:T4) (v_:T5) (r:Bool) (h:z80 N s_ v_=some r) :
 Fn Tryz.prog 80 ⟨0,[.a (cC4 s_),.a (cC5 v_)],[],[],0,.O r,[],[]⟩:=by
 refine wF func80 Q Q (fun E F w=>?_)
 unfold z80 at h
 refine wV (zz51 s_ v_ [(2,.B 0 0),(3,.B 1 0),(4,.O false)]) J 3 (wq (wq (wQ (by kernel_rfl) (by kernel_rfl) (xq (rg 6 13) (zz51 s_ v_ [(2,.B 0 0),(3,.B 1 0),(4,.O false),(10,.O (v_.Kind != s_.Kind))]) J 6 ?_))))
 obtain ⟨K,h⟩|⟨K,h⟩:=oc h
 ·refine qy 10 K Q (qx (zz37 v_ [(3,.B 1 0),(4,.O false),(23,.O true)]) J 13 (qn (wt Q Q (wR J 1 Q ?_))))
  cases h
  exact we J func80 [] Q Q Q Q
 refine qy 10 K Q (WPq.sil J 1 rfl ?_)
 obtain ⟨x3,c,h⟩:=ob h
 refine qc (z36_ct N v_ _ c) [] [] Q Q Q Q Q Q Q Q Q Q Q Q (xq (rg 13 6) (zz51 s_ v_ [(2,.B 0 0),(3,.B 1 0),(4,.O false),(17,.O (decide (x3 < s_.Lo)))]) J 5 ?_)
 obtain ⟨K,h⟩|⟨K,h⟩:=oc h
 ·refine qy 17 K Q (qx (zz37 v_ [(3,.B 1 0),(4,.O false),(23,.O true)]) J 6 (qn (wt Q Q (wR J 1 Q ?_))))
  cases h
  exact we J func80 [] Q Q Q Q
 refine qy 17 K Q (WPq.sil J 1 rfl ?_)
 obtain ⟨x4,d,h⟩:=ob h
 refine qc (z36_ct N v_ _ d) [] [] Q Q Q Q Q Q Q Q Q Q Q Q (qx (zz37 v_ [(3,.B 1 0),(4,.O false),(23,.O (decide (x4 > s_.Hi)))]) J 4 (qn ?_))
 obtain ⟨K,h⟩|⟨K,h⟩:=oc h
 ·refine wt K Q (wR J 1 Q ?_)
  cases h
  exact we J func80 [] Q Q Q Q
 refine wf K Q (wi (wq (wV (zz37 v_ [(3,.B 1 0),(4,.O false),(26,.O (v_.Kind==1))]) J 3 ?_)))
 obtain ⟨K,h⟩|⟨K,h⟩:=oc h
 ·refine wt K Q (wV ⟨[(4,.O (v_.S.toList==(str []).toList))],[],[],2⟩ J 4 ?_)
  cases h
  exact we J func80 [] Q Q Q Q
 refine wf K Q (wi (wq (wg (xw (rg 4 6) (zz37 v_ [(3,.B 1 0),(33,.O (v_.N==0))]) J 4 ?_))))
 obtain ⟨K,h⟩|⟨K,h⟩:=oc' h
 ·refine wy 33 K Q (wx ⟨[(4,.O false)],[],[],2⟩ J 6 (wn ?_))
  cases h
  exact we J func80 [] Q Q Q Q
 refine wy 33 K Q (ws J 2 Q ?_)
 obtain ⟨x5,e,h⟩:=ob h
 refine wc (z144_10_ct N v_.S _ e) [] [] Q Q Q Q Q Q Q Q (.inl rfl) rfl (wx ⟨[(4,.O (!x5))],[],[],2⟩ J 3 (wn ?_))
 cases h
 exact we J func80 [] Q Q Q Q
theorem z33_ct (N:Nat) (l_:(List T0)) (label_:Int) (known_:(List T5)) (r:Bool) (h:z33 N l_ label_ known_=some r) :
 Fn Tryz.prog 33 ⟨2,[.S 0,.I label_,.S 1],[(0,.sl rR0 l_),(1,.sl rR5 known_)],[],2,.O r,[],[]⟩:=by
 refine wF func33 Q Q (fun E F w=>?_)
 unfold z33 at h
 refine wR J 1 Q (wq (wq (wg (xw (rg 3 10) (zz24 l_ known_ [(0,.S 0),(1,.I label_),(2,.S 1),(6,.O false),(12,.O (decide (label_ < 0)))]) J 3 ?_))))
 obtain ⟨K,h⟩|⟨K,h⟩:=oc h
 ·refine wy 12 K Q (wx (zz24 l_ known_ [(0,.S 0),(2,.S 1),(6,.O false),(22,.O true)]) J 10 (wn (wt Q Q (wR J 1 Q ?_))))
  cases h
  exact we J func33 [] Q Q Q Q
 refine wy 12 K Q (xw [9,10,11,12] (zz24 l_ known_ [(0,.S 0),(2,.S 1),(6,.O false),(18,.O (decide (label_≥(l_.length:Int))))]) J 6 ?_)
 obtain ⟨K,h⟩|⟨K,h⟩:=oc h
 ·refine wy 18 K Q (wx (zz24 l_ known_ [(0,.S 0),(2,.S 1),(6,.O false),(22,.O true)]) J 4 (wn (wt Q Q (wR J 1 Q ?_))))
  cases h
  exact we J func33 [] Q Q Q Q
 refine wy 18 K Q (ws J 1 Q ?_)
 obtain ⟨x1,c,h⟩:=ob h
 refine wc (z74_ct N l_ _ c) [(0,.sl 0)] [] Q Q Q Q Q Q Q Q (.inl rfl) rfl (wx (zz24 l_ known_ [(0,.S 0),(2,.S 1),(6,.O false),(22,.O (!x1))]) J 2 (wn ?_))
 obtain ⟨K,h⟩|⟨K,h⟩:=oc h
 ·refine wt K Q (wR J 1 Q ?_)
  cases h
  exact we J func33 [] Q Q Q Q
 refine wf K Q (wi (wq (wg (ws J 1 Q ?_))))
 obtain ⟨x2,d,h⟩:=ob h
 refine wc (z79_ct N l_ _ d) [(0,.sl 0)] [] Q Q Q Q Q Q Q Q (.inl rfl) rfl (wx (zz44 x2 l_ known_ [(2,.S 1),(6,.O false),(7,.S 2)]) J 1 (wn (wq (wV (zz44 x2 l_ known_ [(2,.S 1),(6,.O false),(7,.S 2),(29,.O ((x2.length:Int) != (known_.length:Int)))]) J 5 ?_))))
 obtain ⟨K,h⟩|⟨K,h⟩:=oc h
 ·refine wt K Q (wR J 1 Q ?_)
  cases h
  exact we J func33 [] Q Q Q Q
 refine wf K Q (wi (wq (wV (zz44 x2 l_ known_ [(6,.O false),(7,.S 2),(30,.S 1),(31,.I (known_.length:Int)),(32,.I 0)]) J 3 ?_)))
 refine wC (σ:=Unit) (fun st=>⟨[],[],[(0,.sl rR0 l_),(1,.sl rR5 known_)],3⟩) (fun st=>z33_k1=some r) ?_ (fun j1=>?_)
 ·intro _ h
  replace h:z33_k1=some r:=h
  unfold z33_k1 at h
  refine wR J 1 Q ?_
  cases h
  exact we J func33 [] Q Q Q Q
 refine wo ?_
 refine wI (σ:=Int) (fun st=>(zz44 x2 l_ known_ [(7,.S 2),(30,.S 1),(31,.I (known_.length:Int)),(32,.I st)])) (fun n st=>z33_l2 N known_ x2 n st) (r:=r) (fun _=>rfl) ?_ (fun ih=>?_)
 ·intro n2 ih3
  intro e h
  replace h:z33_l2 N known_ x2 (n2+1) e=some r:=h
  unfold z33_l2 at h
  refine wR J 1 Q (wq ?_)
  obtain ⟨K,h⟩|⟨K,h⟩:=oc' h
  ·exact wf K Q (wz rfl (wU (j1 () h)))
  refine wt K Q (wi (wq (wo (wq (wg (ws J 1 Q ?_))))))
  obtain ⟨f,g,h⟩:=ob h
  refine wj oO5 J g Q Q Q Q Q Q Q Q Q (wx ⟨[(7,.S 2),(8,.I e),(9,.B 4 0),(30,.S 1),(31,.I (known_.length:Int)),(32,.I e)],[(2,.own rR2 x2 true),(4,.box (cC5 f) 46)],[(0,.sl rR0 l_),(1,.sl rR5 known_)],5⟩ J 4 (wn (wq (wN (fun A9 i j=>?_)))))
  have l:A9 0 ⟨[(9,.B 4 0)],[],[],[(4,.box (cC5 f) 46)],5,[(37,.a (cC5 f))],[],[],5⟩:=i _ _ (wL J)
  have m:A9 1 (zz2 [] [(38,.a [.I 0,.I 0,.s (str [])])]):=i _ _ (wL J)
  have o:A9 2 (zz2 [(37,.a (cC5 f)),(38,.a [.I 0,.I 0,.s (str [])])] [(39,.O (!((f.Kind==0) && ((f.N==0) && ((f.S.toList==(str []).toList) && true)))))]):=i _ _ (wO Q Q Q (fun _ _ _ _ _ _ _ k=>WPr.eqa (neg:=true) (equal_run (b:=((f.Kind==0) && ((f.N==0) && ((f.S.toList==(str []).toList) && true)))) (by kernel_rfl) (by kernel_rfl)) (by kernel_rfl) Q Q Q Q Q Q Q (k)) rfl)
  have p:A9 3 (zz2 [(39,.O (!((f.Kind==0) && ((f.N==0) && ((f.S.toList==(str []).toList) && true)))))] [(40,.O (!((f.Kind==0) && ((f.N==0) && ((f.S.toList==(str []).toList) && true)))))]):=i _ _ (wL J)
  obtain ⟨K,h⟩|⟨K,h⟩:=oc' h
  ·have q:=i _ _ (LS.kb K Q (j _ _ p))
   have v:A9 4 (zz2 [(40,.O false)] [(41,.u)]):=i _ _ (LS.skip Q Q Q (.inr ⟨_,rfl,rfl⟩) Q Q)
   have x:A9 5 (zz2 [(40,.O false)] [(42,.u)]):=i _ _ (LS.skip Q Q Q (.inr ⟨_,rfl,rfl⟩) Q Q)
   have y:A9 6 (zz2 [(40,.O false)] [(43,.u)]):=i _ _ (LS.skip Q Q Q (.inr ⟨_,rfl,rfl⟩) Q Q)
   have z:A9 7 (zz2 [(40,.O false)] [(44,.u)]):=i _ _ (LS.skip Q Q Q (.inr ⟨_,rfl,rfl⟩) Q Q)
   have A:A9 8 (zz2 [(40,.O false)] [(45,.u)]):=i _ _ (LS.skip Q Q Q (.inr ⟨_,rfl,rfl⟩) Q Q)
   have C:A9 9 (zz2 [(40,.O false)] [(46,.u)]):=i _ _ (LS.skip Q Q Q (.inr ⟨_,rfl,rfl⟩) Q Q)
   have D:A9 10 (zz2 [(40,.O false)] [(47,.u)]):=i _ _ (LS.skip Q Q Q (.inr ⟨_,rfl,rfl⟩) Q Q)
   have G:A9 11 (zz2 [(40,.O false)] [(48,.u)]):=i _ _ (LS.skip Q Q Q (.inr ⟨_,rfl,rfl⟩) Q Q)
   have H:A9 12 (zz2 [(40,.O false),(48,.u)] [(49,.O false)]):=i _ _ (wL J)
   exact wD (t:=⟨[(7,.S 2),(30,.S 1),(31,.I (known_.length:Int)),(32,.I e),(49,.O false)],[(2,.own rR2 x2 true)],[(0,.sl rR0 l_),(1,.sl rR5 known_)],5⟩) [0,0,3,7,15,15,63,127,255,15,1023,2047,4095] (.cons (j _ _ l) (.cons (j _ _ m) (.cons (j _ _ o) (.cons (j _ _ q) (.cons (j _ _ v) (.cons (j _ _ x) (.cons (j _ _ y) (.cons (j _ _ z) (.cons (j _ _ A) (.cons (j _ _ C) (.cons (j _ _ D) (.cons (j _ _ G) (.cons (j _ _ H) .nil))))))))))))) (by kernel_rfl) (by kernel_rfl) (by kernel_rfl) (by kernel_rfl) (wf Q Q (wi (wb (wS J 2 Q (wU (ih3 (w64 (e+1)) h))))))
  have R:=i _ _ (LS.kb K Q (j _ _ p))
  have T:A9 4 (zz2 [(7,.S 2),(40,.O true)] [(41,.S 2)]):=i _ _ (wL J)
  have U:A9 5 (zz2 [(8,.I e),(40,.O true)] [(42,.I e)]):=i _ _ (wL J)
  obtain ⟨X,Y,h⟩:=ob h
  have Z:A9 6 ⟨[(40,.O true),(41,.S 2),(42,.I e)],[],[],[(2,.own rR2 x2 true)],5,[(43,.P 5 0)],[(5,.el 2 ((e).toNat * (rR2).sz))],[],6⟩:=i _ _ (wO Q Q Q (fun _ _ _ _ _ _ _ k=>wX J Y Q Q Q Q Q Q Q Q Q (k)) rfl)
  have a0:A9 7 ⟨[(40,.O true),(43,.P 5 0)],[(5,.el 2 ((e).toNat * (rR2).sz))],[],[],6,[(44,.P 5 1)],[],[],6⟩:=i _ _ (wL J)
  have b0:A9 8 ⟨[(40,.O true),(44,.P 5 1)],[(5,.el 2 ((e).toNat * (rR2).sz))],[],[(2,.own rR2 x2 true)],6,[(45,.a (cC4 X.Sort'))],[],[],6⟩:=i _ _ (wO Q Q Q (fun _ _ _ _ _ _ _ k=>wd oO2 J Y Q Q Q Q Q Q Q Q Q Q (k)) rfl)
  have c0:A9 9 ⟨[(9,.B 4 0),(40,.O true)],[],[],[(4,.box (cC5 f) 46)],6,[(46,.a (cC5 f))],[],[],6⟩:=i _ _ (wL J)
  obtain ⟨d0,e0,h⟩:=ob h
  have f0:A9 10 (zz6 [(40,.O true),(45,.a (cC4 X.Sort')),(46,.a (cC5 f))] [(47,.O d0)]):=i _ _ (wO Q Q Q (fun _ _ _ _ _ _ _ k=>wc (z80_ct N X.Sort' f _ e0) [] [] Q Q Q Q Q Q Q Q (.inl rfl) rfl (k)) rfl)
  have g0:A9 11 (zz6 [(40,.O true),(47,.O d0)] [(48,.O (!d0))]):=i _ _ (wL J)
  have i0:A9 12 (zz6 [(40,.O true),(48,.O (!d0))] [(49,.O (!d0))]):=i _ _ (wL J)
  refine wD (t:=⟨[(7,.S 2),(30,.S 1),(31,.I (known_.length:Int)),(32,.I e),(49,.O (!d0))],[(2,.own rR2 x2 true)],[(0,.sl rR0 l_),(1,.sl rR5 known_)],6⟩) [0,0,3,7,15,15,63,127,255,15,1023,2047,4095] (.cons (j _ _ l) (.cons (j _ _ m) (.cons (j _ _ o) (.cons (j _ _ R) (.cons (j _ _ T) (.cons (j _ _ U) (.cons (j _ _ Z) (.cons (j _ _ a0) (.cons (j _ _ b0) (.cons (j _ _ c0) (.cons (j _ _ f0) (.cons (j _ _ g0) (.cons (j _ _ i0) .nil))))))))))))) (by kernel_rfl) (by kernel_rfl) (by kernel_rfl) (by kernel_rfl) ?_
  obtain ⟨K,h⟩|⟨K,h⟩:=oc h
  ·refine wt K Q (wR J 1 Q ?_)
   cases h
   exact we J func33 [] Q Q Q Q
  exact wf K Q (wi (wb (wS J 2 Q (wU (ih3 (w64 (e+1)) h)))))
 exact wU (ih N 0 h)
theorem z146_ct (N:Nat) (i_:Int) (j_:Int) (r:Int) (h:z146 N i_ j_=some r) :
 Fn Tryz.prog 146 ⟨0,[.I i_,.I j_],[],[],0,.I r,[],[]⟩:=by
 refine wF func146 Q Q (fun E F w=>?_)
 unfold z146 at h
 refine wR J 1 Q (wq (wo (wV (zz0 [(0,.I i_),(1,.I j_),(4,.I 0),(5,.O (i_==j_))]) J 4 ?_)))
 obtain ⟨K,h⟩|⟨K,h⟩:=oc h
 ·refine wt K Q (wR J 1 Q ?_)
  cases h
  exact we J func146 [] Q Q Q Q
 refine wf K Q (wq (wg (xw [3,4,5,6] (zz0 [(1,.I j_),(4,.I 0),(12,.O (i_==0))]) J 3 ?_)))
 obtain ⟨K,h⟩|⟨K,h⟩:=oc h
 ·refine wy 12 K Q (wx (zz0 [(4,.I 0),(9,.O true)]) J 4 (wn (wt Q Q (wR J 1 Q ?_))))
  cases h
  exact we J func146 [] Q Q Q Q
 refine wy 12 K Q (wx (zz0 [(4,.I 0),(9,.O (j_==0))]) J 4 (wn ?_))
 obtain ⟨K,h⟩|⟨K,h⟩:=oc h
 ·refine wt K Q (wR J 1 Q ?_)
  cases h
  exact we J func146 [] Q Q Q Q
 refine wf K Q (wi (wb (wR J 1 Q ?_)))
 cases h
 exact we J func146 [] Q Q Q Q
theorem z81_ct (N:Nat) (n_:Int) (r:T8) (h:z81 N n_=some r) :
 Fn Tryz.prog 81 ⟨0,[.I n_],[],[],1,.a [.I r.N,.sl 0],[(0,.sl (rI .i64) r.B)],[]⟩:=by
 refine wF func81 Q Q (fun E F w=>?_)
 unfold z81 at h
 refine wR J 1 Q (wq (wg (xw [6,7,8,9] (zz30 [(0,.I n_),(2,.B 0 0),(6,.I n_),(11,.I (w64 ((w64 (n_+1)) * (w64 (n_+1)))))]) J 6 ?_)))
 obtain ⟨x1,c,h⟩:=ob h
 refine WPr.mk (oI .i64) J 0 c Q Q Q Q Q Q Q Q (by exact an Q Q) rfl (wx (zz15 x1 n_ [(0,.I n_),(2,.B 0 0),(3,.B 2 0)]) J 3 (wn (wq (wV (zz15 x1 n_ [(0,.I n_),(2,.B 0 0),(3,.B 2 0),(15,.I (w64 (n_+1))),(16,.I 0)]) J 3 ?_))))
 refine wC (σ:=(List Int)) (fun st=>(zz15 st n_ [(2,.B 0 0),(3,.B 2 0)])) (fun st=>z81_k1 n_ st=some r) ?_ (fun j1=>?_)
 ·intro d h
  replace h:z81_k1 n_ d=some r:=h
  unfold z81_k1 at h
  refine wR J 2 Q (WP.frz 1 rfl ?_)
  cases h
  exact we J func81 [(0,.sl 1)] Q Q Q Q
 refine wo ?_
 refine wI (σ:=(List Int) × Int) (fun st=>(zz15 st.1 n_ [(0,.I n_),(2,.B 0 0),(3,.B 2 0),(15,.I (w64 (n_+1))),(16,.I st.2)])) (fun n st=>z81_l2 N n_ n st.1 st.2) (r:=r) (fun _=>rfl) ?_ (fun ih=>?_)
 ·intro n12 ih12
  rintro ⟨e,f⟩ h
  replace h:z81_l2 N n_ (n12+1) e f=some r:=h
  unfold z81_l2 at h
  refine wR J 1 Q (wq ?_)
  obtain ⟨K,h⟩|⟨K,h⟩:=oc' h
  ·exact wf K Q (wz rfl (wU (j1 e h)))
  refine wt K Q (wi (wq (wo (wV (zz15 e n_ [(0,.I n_),(2,.B 0 0),(3,.B 2 0),(4,.I f),(15,.I (w64 (n_+1))),(16,.I f)]) J 2 (wV (zz15 e n_ [(0,.I n_),(2,.B 0 0),(3,.B 2 0),(4,.I f),(15,.I (w64 (n_+1))),(16,.I f),(20,.I (w64 (n_+1))),(21,.I 0)]) J 3 ?_)))))
  refine wC (σ:=(List Int)) (fun st=>(zz15 st n_ [(0,.I n_),(2,.B 0 0),(3,.B 2 0),(15,.I (w64 (n_+1))),(16,.I f)])) (fun st=>z81_k3 f (z81_l2 N n_ n12) st=some r) ?_ (fun j19=>?_)
  ·intro g h
   replace h:z81_k3 f (z81_l2 N n_ n12) g=some r:=h
   unfold z81_k3 at h
   exact wb (wS J 2 Q (wU (ih12 (g,(w64 (f+1))) h)))
  refine wo ?_
  refine wI (σ:=(List Int) × Int) (fun st=>(zz15 st.1 n_ [(0,.I n_),(2,.B 0 0),(3,.B 2 0),(4,.I f),(15,.I (w64 (n_+1))),(16,.I f),(20,.I (w64 (n_+1))),(21,.I st.2)])) (fun n st=>z81_l4 N n_ f (z81_l2 N n_ n12) n st.1 st.2) (r:=r) (fun _=>rfl) ?_ (fun ih=>?_)
  ·intro n14 ih21
   rintro ⟨i,j⟩ h
   replace h:z81_l4 N n_ f (z81_l2 N n_ n12) (n14+1) i j=some r:=h
   unfold z81_l4 at h
   refine wR J 1 Q (wq ?_)
   obtain ⟨K,h⟩|⟨K,h⟩:=oc' h
   ·exact wf K Q (wz rfl (wU (j19 i h)))
   refine wt K Q (wi (wq (wo (wV (zz15 i n_ [(0,.I n_),(2,.B 0 0),(3,.B 2 0),(4,.I f),(5,.I j),(15,.I (w64 (n_+1))),(16,.I f),(20,.I (w64 (n_+1))),(21,.I j)]) J 2 (wN (fun l m o=>?_))))))
   have p:l 0 (zz10 [(3,.B 2 0)] [(24,.B 2 1)]):=m _ _ (wL J)
   have q:l 1 ⟨[(24,.B 2 1)],[],[],[(2,.box [.I n_,.sl 1] 78)],3,[(25,.S 1)],[],[],3⟩:=m _ _ (wL J)
   have s:l 2 (zz10 [(4,.I f)] [(26,.I f)]):=m _ _ (wL J)
   have u:l 3 (zz10 [(0,.I n_)] [(27,.I n_)]):=m _ _ (wL J)
   have v:l 4 (zz10 [(27,.I n_)] [(28,.I (w64 (n_+1)))]):=m _ _ (wL J)
   have x:l 5 (zz10 [(26,.I f),(28,.I (w64 (n_+1)))] [(29,.I (w64 (f * (w64 (n_+1)))))]):=m _ _ (wL J)
   have y:l 6 (zz10 [(5,.I j)] [(30,.I j)]):=m _ _ (wL J)
   have z:l 7 (zz10 [(29,.I (w64 (f * (w64 (n_+1))))),(30,.I j)] [(31,.I (w64 ((w64 (f * (w64 (n_+1))))+j)))]):=m _ _ (wL J)
   have A:l 8 (zz10 [(4,.I f)] [(32,.I f)]):=m _ _ (wL J)
   have C:l 9 (zz10 [(5,.I j)] [(33,.I j)]):=m _ _ (wL J)
   obtain ⟨D,G,h⟩:=ob h
   have H:l 10 (zz10 [(32,.I f),(33,.I j)] [(34,.I D)]):=m _ _ (wO Q Q Q (fun _ _ _ _ _ _ _ k=>wc (z146_ct N f j _ G) [] [] Q Q Q Q Q Q Q Q (.inl rfl) rfl (k)) rfl)
   obtain ⟨R,T,h⟩:=ob h
   have U:l 11 ⟨[(25,.S 1),(31,.I (w64 ((w64 (f * (w64 (n_+1))))+j)))],[],[],[(1,.own (rI .i64) i true)],3,[(35,.P 3 0)],[(3,.el 1 (((w64 ((w64 (f * (w64 (n_+1))))+j))).toNat * ((rI .i64)).sz))],[],4⟩:=m _ _ (wO Q Q Q (fun _ _ _ _ _ _ _ k=>wX J T Q Q Q Q Q Q Q Q Q (k)) rfl)
   have X:l 12 ⟨[(34,.I D),(35,.P 3 0)],[(3,.el 1 (((w64 ((w64 (f * (w64 (n_+1))))+j))).toNat * ((rI .i64)).sz))],[(1,.own (rI .i64) i true)],[],4,[],[],[(1,.own (rI .i64) (setL' i (w64 ((w64 (f * (w64 (n_+1))))+j)) D) true)],4⟩:=m _ _ (wO Q Q Q (fun _ _ _ _ _ _ _ k=>WPr.sto (oI .i64) J D T Q Q Q Q Q Q Q Q Q Q (by exact rfl) rfl (k)) rfl)
   exact wD (t:=⟨[(0,.I n_),(2,.B 0 0),(3,.B 2 0),(4,.I f),(15,.I (w64 (n_+1))),(16,.I f),(20,.I (w64 (n_+1))),(21,.I j)],[(0,.box [.I 0,.nil] 78),(1,.own (rI .i64) (setL' i (w64 ((w64 (f * (w64 (n_+1))))+j)) D) true),(2,.box [.I n_,.sl 1] 78)],[],4⟩) [0,1,0,0,8,28,0,124,0,0,768,2047,4095] (.cons (o _ _ p) (.cons (o _ _ q) (.cons (o _ _ s) (.cons (o _ _ u) (.cons (o _ _ v) (.cons (o _ _ x) (.cons (o _ _ y) (.cons (o _ _ z) (.cons (o _ _ A) (.cons (o _ _ C) (.cons (o _ _ H) (.cons (o _ _ U) (.cons (o _ _ X) .nil))))))))))))) (by kernel_rfl) (by kernel_rfl) (by kernel_rfl) (by kernel_rfl) (wb (wS J 2 Q (wU (ih21 ((setL' i (w64 ((w64 (f * (w64 (n_+1))))+j)) D),(w64 (j+1))) h))))
  exact wU (ih N (e,0) h)
 exact wU (ih N (x1,0) h)
theorem z34_ct (N:Nat) (n_:Int) (r:T8 × Int) (h:z34 N n_=some r) :
 Fn Tryz.prog 34 ⟨0,[.I n_],[],[],1,.t [.inr [.I r.1.N,.sl 0],.inl (.I r.2)],[(0,.sl (rI .i64) r.1.B)],[]⟩:=by
 refine wF func34 Q Q (fun E F w=>?_)
 unfold z34 at h
 refine wR J 2 Q (wq (wq (wg (xw [3,4,5] (zz30 [(0,.I n_),(2,.B 0 0),(3,.I 0),(6,.O (decide (n_ < 0)))]) J 3 ?_))))
 obtain ⟨K,h⟩|⟨K,h⟩:=oc h
 ·refine wy 6 K Q (wx (zz30 [(0,.I n_),(2,.B 0 0),(3,.I 0),(9,.O true)]) J 3 (wn (wt Q Q (wV (zz30 [(2,.B 0 0),(3,.I 2)]) J 3 ?_))))
  cases h
  exact we J func34 [(0,.nil)] Q Q Q Q
 refine wy 6 K Q (wx (zz30 [(0,.I n_),(2,.B 0 0),(3,.I 0),(9,.O (decide (n_ > 24)))]) J 3 (wn ?_))
 obtain ⟨K,h⟩|⟨K,h⟩:=oc h
 ·refine wt K Q (wV (zz30 [(2,.B 0 0),(3,.I 2)]) J 3 ?_)
  cases h
  exact we J func34 [(0,.nil)] Q Q Q Q
 refine wf K Q (wi (wq (wg (ws J 1 Q ?_))))
 obtain ⟨x1,c,h⟩:=ob h
 refine wc (z81_ct N n_ _ c) [] [] Q Q Q Q Q Q Q Q (.inl rfl) rfl (wx ⟨[(2,.B 0 0),(3,.I 0)],[(0,.box [.I x1.N,.sl 1] 78)],[(1,.sl (rI .i64) x1.B)],2⟩ J 2 (wn ?_))
 cases h
 exact we J func34 [(0,.sl 1)] Q Q Q Q
theorem z35_ct (N:Nat) (d_:T0) (r:(List T1)) (h:z35 N d_=some r) :
 Fn Tryz.prog 35 ⟨3,[.a (cC0 0 1 2 d_)],(vV0 0 1 2 d_ []),[],4,.S 3,[],[(3,.own rR1 r true)]⟩:=by
 refine wF func35 Q Q (fun E F w=>?_)
 unfold z35 at h
 refine wR J 2 Q (wV ⟨[(1,.B 3 0),(2,.c .nil),(3,.c .nil)],[(3,.box (cC0 0 1 2 d_) 44)],(vV0 0 1 2 d_ []),4⟩ J 1 (wq (wV ⟨[(1,.B 3 0),(2,.c .nil),(3,.c .nil),(9,.S 0),(10,.I (d_.Fields.length:Int)),(11,.I 0)],[(3,.box (cC0 0 1 2 d_) 44)],(vV0 0 1 2 d_ []),4⟩ J 4 ?_)))
 refine wC (σ:=(List T1)) (fun st=>(zz52 d_ st [(1,.B 3 0),(3,.S 4)])) (fun st=>z35_k3 N d_ st=some r) ?_ (fun j1=>?_)
 ·intro d h
  replace h:z35_k3 N d_ d=some r:=h
  unfold z35_k3 at h
  refine wq (wg (xw [4,5] (zz52 d_ d [(1,.B 3 0),(37,.S 4),(40,.S 1)]) J 4 ?_))
  obtain ⟨x9,e,h⟩:=ob h
  refine WPr.app J e (by exact (srcI rfl)) Q Q Q Q Q Q Q Q Q Q (wx ⟨[(1,.B 3 0),(3,.S 5)],[(3,.box (cC0 0 1 2 d_) 44),(5,.own rR1 x9 true)],(vV0 0 1 2 d_ []),6⟩ J 1 (wn (wq (wV ⟨[(3,.S 5),(44,.S 2),(45,.I (d_.Guard.Equals.length:Int)),(46,.I 0)],[(5,.own rR1 x9 true)],(vV0 0 1 2 d_ []),6⟩ J 5 ?_))))
  refine wC (σ:=(List T1)) (fun st=>⟨[(3,.S 6)],[(6,.own rR1 st true)],(vV0 0 1 2 d_ []),7⟩) (fun st=>z35_k1 st=some r) ?_ (fun j3=>?_)
  ·intro f h
   replace h:z35_k1 f=some r:=h
   unfold z35_k1 at h
   refine wR J 2 Q ?_
   cases h
   exact we J func35 [(3,.sl 6)] Q Q Q Q
  refine wo ?_
  refine wI (σ:=(List T1) × Int) (fun st=>⟨[(3,.S 6),(44,.S 2),(45,.I (d_.Guard.Equals.length:Int)),(46,.I st.2)],[(6,.own rR1 st.1 true)],(vV0 0 1 2 d_ []),7⟩) (fun n st=>z35_l2 d_ n st.1 st.2) (r:=r) (fun _=>rfl) ?_ (fun ih=>?_)
  ·intro n3 ih5
   rintro ⟨g,i⟩ h
   replace h:z35_l2 d_ (n3+1) g i=some r:=h
   unfold z35_l2 at h
   refine wR J 1 Q (wq ?_)
   obtain ⟨K,h⟩|⟨K,h⟩:=oc' h
   ·exact wf K Q (wz rfl (wU (j3 g h)))
   refine wt K Q (wi (wq (wo (wq (wg ?_)))))
   obtain ⟨j,k,h⟩:=ob h
   refine wj (oP (oI .i64) (oI .i64)) J k Q Q Q Q Q Q Q Q Q (wx (zz53 g j.1 j.2 d_ [(3,.S 6),(7,.B 8 0),(44,.S 2),(45,.I (d_.Guard.Equals.length:Int)),(46,.I i)]) J 3 (wn (wg (ws J 1 Q (WPr.axb (len:=2) (el:=3) (es:=1) 0 Q Q Q Q Q (by kernel_rfl) (by kernel_rfl) Q Q Q Q (xw (rg 3 11) (zz53 g j.1 j.2 d_ [(7,.B 8 0),(44,.S 2),(45,.I (d_.Guard.Equals.length:Int)),(46,.I i),(50,.S 6),(52,.I j.1)]) J 1 (WPr.axb (len:=2) (el:=3) (es:=1) 1 Q Q Q Q Q (by kernel_rfl) (by kernel_rfl) Q Q Q Q (xw (rg 6 8) (zz53 g j.1 j.2 d_ [(7,.B 8 0),(44,.S 2),(45,.I (d_.Guard.Equals.length:Int)),(46,.I i),(50,.S 6),(55,.a [.I j.1,.I j.2,.I 0])]) J 2 (WPr.axb (len:=2) (el:=3) (es:=1) 1 Q Q Q Q Q (by kernel_rfl) (by kernel_rfl) Q Q Q Q (ws J 1 Q (WPr.axb (len:=2) (el:=3) (es:=1) 0 Q Q Q Q Q (by kernel_rfl) (by kernel_rfl) Q Q Q Q (xw [11,12,13] ⟨[(44,.S 2),(45,.I (d_.Guard.Equals.length:Int)),(46,.I i),(50,.S 6),(55,.a [.I j.1,.I j.2,.I 0]),(60,.a [.I j.2,.I j.1,.I 0])],[(6,.own rR1 g true)],(vV0 0 1 2 d_ []),9⟩ J 2 (WPr.bs (cs:=[.I j.1,.I j.2,.I 0,.I j.2,.I j.1,.I 0]) oO1 J ([(⟨j.1,j.2,0⟩:T1),(⟨j.2,j.1,0⟩:T1)]:List T1) Q Q Q Q Q Q (by kernel_rfl) (by exact (an (an rfl (an Q Q)) (an (an rfl (an Q Q)) rfl))) rfl ?_)))))))))))))
   obtain ⟨l,m,h⟩:=ob h
   exact WPr.app J m (by exact (srcO rfl)) Q Q Q Q Q Q Q Q Q Q (wx ⟨[(3,.S 10),(44,.S 2),(45,.I (d_.Guard.Equals.length:Int)),(46,.I i)],[(10,.own rR1 l true)],(vV0 0 1 2 d_ []),11⟩ J 1 (wn (wb (wS J 2 Q (wu [(6,.sl 10)] (ih5 (l,(w64 (i+1))) h) Q Q Q Q)))))
  exact wu [(6,.sl 5)] (ih N (x9,0) h) Q Q Q Q
 refine wo ?_
 refine wI (σ:=(List T1) × Int) (fun st=>(zz52 d_ st.1 [(1,.B 3 0),(3,.S 4),(9,.S 0),(10,.I (d_.Fields.length:Int)),(11,.I st.2)])) (fun n st=>z35_l4 N d_ n st.1 st.2) (r:=r) (fun _=>rfl) ?_ (fun ih=>?_)
 ·intro n4 ih6
  rintro ⟨o,p⟩ h
  replace h:z35_l4 N d_ (n4+1) o p=some r:=h
  unfold z35_l4 at h
  refine wR J 1 Q (wq ?_)
  obtain ⟨K,h⟩|⟨K,h⟩:=oc' h
  ·exact wf K Q (wz rfl (wU (j1 o h)))
  refine wt K Q (wi (wq (wo (wq (wg (ws J 1 Q ?_))))))
  obtain ⟨q,s,h⟩:=ob h
  refine wj oO2 J s Q Q Q Q Q Q Q Q Q (wx ⟨[(1,.B 3 0),(3,.S 4),(4,.I p),(5,.B 6 0),(9,.S 0),(10,.I (d_.Fields.length:Int)),(11,.I p)],[(3,.box (cC0 0 1 2 d_) 44),(4,.own rR1 o true),(6,.box (cC2 q) 89)],(vV0 0 1 2 d_ []),7⟩ J 4 (wn (wg (xw [18,19,20] ⟨[(1,.B 3 0),(9,.S 0),(10,.I (d_.Fields.length:Int)),(11,.I p),(16,.S 4),(24,.a [.I (w64 (d_.First+p)),.I (-1),.I q.Sort'.Hi]),(33,.a [.I (-1),.I (w64 (d_.First+p)),.I (w64 (0-q.Sort'.Lo))])],[(3,.box (cC0 0 1 2 d_) 44),(4,.own rR1 o true)],(vV0 0 1 2 d_ []),7⟩ J 18 (WPr.bs (cs:=[.I (w64 (d_.First+p)),.I (-1),.I q.Sort'.Hi,.I (-1),.I (w64 (d_.First+p)),.I (w64 (0-q.Sort'.Lo))]) oO1 J ([(⟨(w64 (d_.First+p)),(-1),q.Sort'.Hi⟩:T1),(⟨(-1),(w64 (d_.First+p)),(w64 (0-q.Sort'.Lo))⟩:T1)]:List T1) Q Q Q Q Q Q (by kernel_rfl) (by exact (an (an rfl (an Q Q)) (an (an rfl (an Q Q)) rfl))) rfl ?_)))))
  obtain ⟨t,u,h⟩:=ob h
  exact WPr.app J u (by exact (srcO rfl)) Q Q Q Q Q Q Q Q Q Q (wx ⟨[(1,.B 3 0),(3,.S 8),(9,.S 0),(10,.I (d_.Fields.length:Int)),(11,.I p)],[(3,.box (cC0 0 1 2 d_) 44),(8,.own rR1 t true)],(vV0 0 1 2 d_ []),9⟩ J 1 (wn (wb (wS J 2 Q (wu [(4,.sl 8)] (ih6 (t,(w64 (p+1))) h) Q Q Q Q)))))
 exact wu [(4,.nil)] (ih N (([]:List T1),0) h) Q Q Q Q
theorem z147_ct (N:Nat) (x_:(List Int)) (r:Int) (h:z147 N x_=some r) :
 Fn Tryz.prog 147 ⟨1,[.S 0],[(0,.sl (rI .i64) x_)],[],1,.I r,[],[]⟩:=by
 refine wF func147 Q Q (fun E F w=>?_)
 unfold z147 at h
 refine wR J 1 Q (wq (wV ⟨[(0,.S 0),(2,.I 0),(7,.O (decide ((x_.length:Int) < 1)))],[],[(0,.sl (rI .i64) x_)],1⟩ J 3 ?_))
 obtain ⟨K,h⟩|⟨K,h⟩:=oc h
 ·refine wt K Q (wg ?_)
  cases h
 refine wf K Q (wi (wq (wg (ws J 1 Q ?_))))
 obtain ⟨x1,c,h⟩:=ob h
 refine wj (oI .i64) J c Q Q Q Q Q Q Q Q Q (wx (zz7 x_ [(0,.S 0),(2,.I 0),(3,.I x1)]) J 2 (wn (wq (wR J 1 Q ?_))))
 refine wC (σ:=Int) (fun st=>(zz7 x_ [(3,.I st)])) (fun st=>z147_k1 st=some r) ?_ (fun j2=>?_)
 ·intro d h
  replace h:z147_k1 d=some r:=h
  unfold z147_k1 at h
  refine wR J 2 Q ?_
  cases h
  exact we J func147 [] Q Q Q Q
 refine wo ?_
 refine wI (σ:=Int × Int) (fun st=>(zz7 x_ [(0,.S 0),(3,.I st.1),(4,.I st.2)])) (fun n st=>z147_l2 x_ n st.1 st.2) (r:=r) (fun _=>rfl) ?_ (fun ih=>?_)
 ·intro n2 ih4
  rintro ⟨e,f⟩ h
  replace h:z147_l2 x_ (n2+1) e f=some r:=h
  unfold z147_l2 at h
  refine wq (wV (zz7 x_ [(0,.S 0),(3,.I e),(4,.I f),(15,.O (decide (f < (x_.length:Int))))]) J 4 ?_)
  obtain ⟨K,h⟩|⟨K,h⟩:=oc' h
  ·exact wf K Q (wz rfl (wU (j2 e h)))
  refine wt K Q (wi (wq (wo (wg (xw [3,4,5,6] (zz7 x_ [(0,.S 0),(4,.I f),(18,.I e),(19,.S 0),(20,.I f)]) J 3 ?_)))))
  obtain ⟨g,i,h⟩:=ob h
  exact wj (oI .i64) J i Q Q Q Q Q Q Q Q Q (wx (zz38 x_ [(0,.S 0),(3,.I (minI e g)),(4,.I f)]) J 3 (wn (wb (wT (zz38 x_ [(0,.S 0),(3,.I (minI e g)),(4,.I (w64 (f+1)))]) J 3 (wU (ih4 ((minI e g),(w64 (f+1))) h))))))
 exact wU (ih N (x1,1) h)
theorem z148_ct (N:Nat) (x_:(List Int)) (r:Int) (h:z148 N x_=some r) :
 Fn Tryz.prog 148 ⟨1,[.S 0],[(0,.sl (rI .i64) x_)],[],1,.I r,[],[]⟩:=by
 refine wF func148 Q Q (fun E F w=>?_)
 unfold z148 at h
 refine wR J 1 Q (wq (wV ⟨[(0,.S 0),(2,.I 0),(7,.O (decide ((x_.length:Int) < 1)))],[],[(0,.sl (rI .i64) x_)],1⟩ J 3 ?_))
 obtain ⟨K,h⟩|⟨K,h⟩:=oc h
 ·refine wt K Q (wg ?_)
  cases h
 refine wf K Q (wi (wq (wg (ws J 1 Q ?_))))
 obtain ⟨x1,c,h⟩:=ob h
 refine wj (oI .i64) J c Q Q Q Q Q Q Q Q Q (wx (zz7 x_ [(0,.S 0),(2,.I 0),(3,.I x1)]) J 2 (wn (wq (wR J 1 Q ?_))))
 refine wC (σ:=Int) (fun st=>(zz7 x_ [(3,.I st)])) (fun st=>z148_k1 st=some r) ?_ (fun j2=>?_)
 ·intro d h
  replace h:z148_k1 d=some r:=h
  unfold z148_k1 at h
  refine wR J 2 Q ?_
  cases h
  exact we J func148 [] Q Q Q Q
 refine wo ?_
 refine wI (σ:=Int × Int) (fun st=>(zz7 x_ [(0,.S 0),(3,.I st.1),(4,.I st.2)])) (fun n st=>z148_l2 x_ n st.1 st.2) (r:=r) (fun _=>rfl) ?_ (fun ih=>?_)
 ·intro n2 ih4
  rintro ⟨e,f⟩ h
  replace h:z148_l2 x_ (n2+1) e f=some r:=h
  unfold z148_l2 at h
  refine wq (wV (zz7 x_ [(0,.S 0),(3,.I e),(4,.I f),(15,.O (decide (f < (x_.length:Int))))]) J 4 ?_)
  obtain ⟨K,h⟩|⟨K,h⟩:=oc' h
  ·exact wf K Q (wz rfl (wU (j2 e h)))
  refine wt K Q (wi (wq (wo (wg (xw [3,4,5,6] (zz7 x_ [(0,.S 0),(4,.I f),(18,.I e),(19,.S 0),(20,.I f)]) J 3 ?_)))))
  obtain ⟨g,i,h⟩:=ob h
  exact wj (oI .i64) J i Q Q Q Q Q Q Q Q Q (wx (zz38 x_ [(0,.S 0),(3,.I (maxI e g)),(4,.I f)]) J 3 (wn (wb (wT (zz38 x_ [(0,.S 0),(3,.I (maxI e g)),(4,.I (w64 (f+1)))]) J 3 (wU (ih4 ((maxI e g),(w64 (f+1))) h))))))
 exact wU (ih N (x1,1) h)
theorem z82_ct (N:Nat) (z_:T8) (r:Bool) (h:z82 N z_=some r) :
 Fn Tryz.prog 82 ⟨1,[.a [.I z_.N,.sl 0]],[(0,.sl (rI .i64) z_.B)],[],1,.O r,[],[]⟩:=by
 refine wF func82 Q Q (fun E F w=>?_)
 unfold z82 at h
 refine wR J 2 Q (wq (wg (xw (rg 4 30) (zz31 z_.N z_.B [(1,.B 1 0),(6,.O (decide (z_.N≥0)))]) J 4 ?_)))
 obtain ⟨K,h⟩|⟨K,h⟩:=oc' h
 ·refine wy 6 K Q (wx (zz7 z_.B [(2,.O false)]) J 30 (wn ?_))
  cases h
  exact we J func82 [] Q Q Q Q
 refine wy 6 K Q (xw (rg 9 25) (zz31 z_.N z_.B [(1,.B 1 0),(11,.O (decide (z_.N≤24)))]) J 5 ?_)
 obtain ⟨K,h⟩|⟨K,h⟩:=oc' h
 ·refine wy 11 K Q (wx (zz7 z_.B [(2,.O false)]) J 25 (wn ?_))
  cases h
  exact we J func82 [] Q Q Q Q
 refine wy 11 K Q (xw (rg 22 12) (zz31 z_.N z_.B [(1,.B 1 0),(24,.O ((z_.B.length:Int)==(w64 ((w64 (z_.N+1)) * (w64 (z_.N+1))))))]) J 13 ?_)
 obtain ⟨K,h⟩|⟨K,h⟩:=oc' h
 ·refine wy 24 K Q (wx (zz7 z_.B [(2,.O false)]) J 12 (wn ?_))
  cases h
  exact we J func82 [] Q Q Q Q
 refine wy 24 K Q (ws J 2 Q ?_)
 obtain ⟨x1,c,h⟩:=ob h
 refine wc (z147_ct N z_.B _ c) [(0,.sl 0)] [] Q Q Q Q Q Q Q Q (.inl rfl) rfl (xw (rg 28 6) (zz31 z_.N z_.B [(1,.B 1 0),(30,.O (decide (x1≥(-20001))))]) J 3 ?_)
 obtain ⟨K,h⟩|⟨K,h⟩:=oc' h
 ·refine wy 30 K Q (wx (zz7 z_.B [(2,.O false)]) J 6 (wn ?_))
  cases h
  exact we J func82 [] Q Q Q Q
 refine wy 30 K Q (ws J 2 Q ?_)
 obtain ⟨x2,d,h⟩:=ob h
 refine wc (z148_ct N z_.B _ d) [(0,.sl 0)] [] Q Q Q Q Q Q Q Q (.inl rfl) rfl (wx (zz7 z_.B [(2,.O (decide (x2≤20000)))]) J 3 (wn ?_))
 cases h
 exact we J func82 [] Q Q Q Q
theorem z83_ct (N:Nat) (z_:T8) (x_:Int) (r:Bool) (h:z83 N z_ x_=some r) :
 Fn Tryz.prog 83 ⟨1,[.a [.I z_.N,.sl 0],.I x_],[(0,.sl (rI .i64) z_.B)],[],1,.O r,[],[]⟩:=by
 refine wF func83 Q Q (fun E F w=>?_)
 unfold z83 at h
 refine wR J 2 Q (wq (wg (xw (rg 3 6) (zz31 z_.N z_.B [(1,.I x_),(2,.B 1 0),(7,.O (decide (x_≥(-1))))]) J 3 ?_)))
 obtain ⟨K,h⟩|⟨K,h⟩:=oc h
 ·refine wy 7 K Q (wx (zz7 z_.B [(4,.O (decide (x_ < z_.N)))]) J 6 (wn ?_))
  cases h
  exact we J func83 [] Q Q Q Q
 refine wy 7 K Q (wx (zz7 z_.B [(4,.O false)]) J 6 (wn ?_))
 cases h
 exact we J func83 [] Q Q Q Q
theorem z84_ct (N:Nat) (s_:(List Int)) (r:(List Int)) (h:z84 N s_=some r) :
 Fn Tryz.prog 84 ⟨1,[.S 0],[(0,.sl (rI .i64) s_)],[],2,.S 1,[],[(1,.own (rI .i64) r true)]⟩:=by
 refine wF func84 Q Q (fun E F w=>?_)
 unfold z84 at h
 refine wR J 1 Q (wq (wq (wg (ws J 1 Q (WPr.nilc (el:=3) false (Or.inl rfl) Q Q Q Q (by kernel_rfl) Q Q Q ?_)))))
 intro nb hnb
 cases nb
 ·refine wx ⟨[(0,.S 0),(2,.c .nil),(4,.O false)],[],[(0,.sl (rI .i64) s_)],1⟩ J 0 (wn (wf Q Q (wi (wq (wg (WPr.bs (cs:=[]) (oI .i64) J ([]:List Int) Q Q Q Q Q Q (by kernel_rfl) (by exact rfl) rfl (ws J 1 Q ?_)))))))
  obtain ⟨x1,d,h⟩:=ob h
  refine WPr.app J d (by exact (srcI rfl)) Q Q Q Q Q Q Q Q Q Q (wx ⟨[(2,.S 2)],[(2,.own (rI .i64) x1 true)],[(0,.sl (rI .i64) s_)],3⟩ J 1 (wn ?_))
  cases h
  exact we J func84 [(1,.sl 2)] Q Q Q Q
 ·obtain rfl:=hnb rfl
  replace h:(some ([]:List Int):Option (List Int))=some r:=h
  refine wx ⟨[(0,.S 0),(2,.c .nil),(4,.O true)],[],[(0,.sl (rI .i64) ([]:List Int))],1⟩ J 0 (wn (wt Q Q (wR J 1 Q ?_)))
  cases h
  exact we J func84 [(1,.nil)] Q Q Q Q
theorem z37_ct (N:Nat) (z_:T8) (d_:T1) (r:T8 × Int) (h:z37 N z_ d_=some r) :
 Fn Tryz.prog 37 ⟨1,[.a [.I z_.N,.sl 0],.a (cC1 d_)],[(0,.sl (rI .i64) z_.B)],[],2,.t [.inr [.I r.1.N,.sl 1],.inl (.I r.2)],[(1,.sl (rI .i64) r.1.B)],[]⟩:=by
 refine wF func37 Q Q (fun E F w=>?_)
 unfold z37 at h
 refine wV (zz25 z_.N d_ z_.B [(2,.B 1 0),(3,.B 2 0),(4,.B 3 0),(5,.I 0)]) J 4 (wq (wq (wg (ws J 1 Q ?_))))
 obtain ⟨x1,c,h⟩:=ob h
 refine wc (z82_ct N z_ _ c) [(0,.sl 0)] [] Q Q Q Q Q Q Q Q (.inl rfl) rfl (wx (zz25 z_.N d_ z_.B [(2,.B 1 0),(3,.B 2 0),(4,.B 3 0),(5,.I 0),(10,.O (!x1))]) J 1 (wn ?_))
 obtain ⟨K,h⟩|⟨K,h⟩:=oc h
 ·refine wt K Q (wV (zz54 z_.B [(4,.B 3 0),(5,.I 1)]) J 3 ?_)
  cases h
  exact we J func37 [(1,.nil)] Q Q Q Q
 refine wf K Q (wi (wq (wq (wg (xw (rg 3 9) (zz25 z_.N d_ z_.B [(2,.B 1 0),(3,.B 2 0),(4,.B 3 0),(5,.I 0),(12,.a [.I z_.N,.sl 0]),(14,.I d_.X)]) J 3 ?_)))))
 obtain ⟨x2,d,h⟩:=ob h
 refine wc (z83_ct N z_ d_.X _ d) [(0,.sl 0)] [] Q Q Q Q Q Q Q Q (.inl rfl) rfl (xw (rg 6 6) (zz25 z_.N d_ z_.B [(2,.B 1 0),(3,.B 2 0),(4,.B 3 0),(5,.I 0),(17,.O (!x2))]) J 2 ?_)
 obtain ⟨K,h⟩|⟨K,h⟩:=oc h
 ·refine wy 17 K Q (wx (zz25 z_.N d_ z_.B [(2,.B 1 0),(3,.B 2 0),(4,.B 3 0),(5,.I 0),(23,.O true)]) J 6 (wn (wt Q Q (wV (zz54 z_.B [(4,.B 3 0),(5,.I 2)]) J 3 ?_))))
  cases h
  exact we J func37 [(1,.nil)] Q Q Q Q
 refine wy 17 K Q (xw [9,10,11] (zz25 z_.N d_ z_.B [(2,.B 1 0),(3,.B 2 0),(4,.B 3 0),(5,.I 0),(17,.O false),(18,.a [.I z_.N,.sl 0]),(20,.I d_.Y)]) J 3 ?_)
 obtain ⟨x3,e,h⟩:=ob h
 refine wc (z83_ct N z_ d_.Y _ e) [(0,.sl 0)] [] Q Q Q Q Q Q Q Q (.inl rfl) rfl (wx (zz25 z_.N d_ z_.B [(2,.B 1 0),(3,.B 2 0),(4,.B 3 0),(5,.I 0),(23,.O (!x3))]) J 2 (wn ?_))
 obtain ⟨K,h⟩|⟨K,h⟩:=oc h
 ·refine wt K Q (wV (zz54 z_.B [(4,.B 3 0),(5,.I 2)]) J 3 ?_)
  cases h
  exact we J func37 [(1,.nil)] Q Q Q Q
 refine wf K Q (wi (wq (wN (fun A1 f g=>?_))))
 have i:A1 0 ⟨[(2,.B 1 0)],[],[],[],4,[(25,.B 1 0)],[],[],4⟩:=f _ _ (wL J)
 have j:A1 1 ⟨[(25,.B 1 0)],[(0,.sl (rI .i64) z_.B)],[],[(1,.box [.I z_.N,.sl 0] 78)],4,[(26,.I z_.N)],[],[],4⟩:=f _ _ (wL J)
 have l:A1 2 ⟨[(2,.B 1 0)],[],[],[],4,[(27,.B 1 1)],[],[],4⟩:=f _ _ (wL J)
 have m:A1 3 ⟨[(27,.B 1 1)],[(0,.sl (rI .i64) z_.B)],[],[(1,.box [.I z_.N,.sl 0] 78)],4,[(28,.S 0)],[],[],4⟩:=f _ _ (wL J)
 obtain ⟨x8,o,h⟩:=ob h
 have p:A1 4 ⟨[(28,.S 0)],[(0,.sl (rI .i64) z_.B)],[],[],4,[(29,.S 4)],[],[(4,.own (rI .i64) x8 true)],5⟩:=f _ _ (wO Q Q Q (fun _ _ _ _ _ _ _ k=>wc (z84_ct N z_.B _ o) [(0,.sl 0)] [] Q Q Q Q Q Q Q Q (.inl rfl) rfl (k)) rfl)
 have q:A1 5 (zz2 [(26,.I z_.N),(29,.S 4)] [(30,.a [.I z_.N,.sl 4])]):=f _ _ (wL J)
 have s:A1 6 ⟨[],[],[],[],5,[(6,.B 5 0)],[],[(5,.box [.I 0,.nil] 78)],6⟩:=f _ _ (wL J)
 have u:A1 7 ⟨[(6,.B 5 0),(30,.a [.I z_.N,.sl 4])],[],[(5,.box [.I 0,.nil] 78)],[(4,.own (rI .i64) x8 true)],6,[],[],[(5,.box [.I z_.N,.sl 4] 78)],6⟩:=f _ _ (wL J)
 refine wD (t:=⟨[(2,.B 1 0),(3,.B 2 0),(4,.B 3 0),(5,.I 0),(6,.B 5 0)],[(1,.box [.I z_.N,.sl 0] 78),(2,.box (cC1 d_) 48),(3,.box [.I 0,.nil] 78),(4,.own (rI .i64) x8 true),(5,.box [.I z_.N,.sl 4] 78)],[(0,.sl (rI .i64) z_.B)],6⟩) [0,1,0,4,12,31,0,127] (.cons (g _ _ i) (.cons (g _ _ j) (.cons (g _ _ l) (.cons (g _ _ m) (.cons (g _ _ p) (.cons (g _ _ q) (.cons (g _ _ s) (.cons (g _ _ u) .nil)))))))) (by kernel_rfl) (by kernel_rfl) (by kernel_rfl) (by kernel_rfl) (wV ⟨[(3,.B 2 0),(4,.B 3 0),(5,.I 0),(6,.B 5 0),(7,.I (w64 ((w64 ((w64 ((w64 (d_.X+1)) * (w64 (z_.N+1))))+d_.Y))+1)))],[(2,.box (cC1 d_) 48),(3,.box [.I 0,.nil] 78),(4,.own (rI .i64) x8 true),(5,.box [.I z_.N,.sl 4] 78)],[(0,.sl (rI .i64) z_.B)],6⟩ J 12 (wq (wN (fun A2 v x=>?_))))
 have y:A2 0 (zz6 [(6,.B 5 0)] [(42,.B 5 1)]):=v _ _ (wL J)
 have z:A2 1 ⟨[(42,.B 5 1)],[],[],[(5,.box [.I z_.N,.sl 4] 78)],6,[(43,.S 4)],[],[],6⟩:=v _ _ (wL J)
 have A:A2 2 (zz6 [(7,.I (w64 ((w64 ((w64 ((w64 (d_.X+1)) * (w64 (z_.N+1))))+d_.Y))+1)))] [(44,.I (w64 ((w64 ((w64 ((w64 (d_.X+1)) * (w64 (z_.N+1))))+d_.Y))+1)))]):=v _ _ (wL J)
 have D:A2 3 (zz6 [(6,.B 5 0)] [(45,.B 5 1)]):=v _ _ (wL J)
 have G:A2 4 ⟨[(45,.B 5 1)],[],[],[(5,.box [.I z_.N,.sl 4] 78)],6,[(46,.S 4)],[],[],6⟩:=v _ _ (wL J)
 have H:A2 5 (zz6 [(7,.I (w64 ((w64 ((w64 ((w64 (d_.X+1)) * (w64 (z_.N+1))))+d_.Y))+1)))] [(47,.I (w64 ((w64 ((w64 ((w64 (d_.X+1)) * (w64 (z_.N+1))))+d_.Y))+1)))]):=v _ _ (wL J)
 obtain ⟨R,T,h⟩:=ob h
 have U:A2 6 ⟨[(46,.S 4),(47,.I (w64 ((w64 ((w64 ((w64 (d_.X+1)) * (w64 (z_.N+1))))+d_.Y))+1)))],[],[],[(4,.own (rI .i64) x8 true)],6,[(48,.P 6 0)],[(6,.el 4 (((w64 ((w64 ((w64 ((w64 (d_.X+1)) * (w64 (z_.N+1))))+d_.Y))+(1:Int)))).toNat * ((rI .i64)).sz))],[],7⟩:=v _ _ (wO Q Q Q (fun _ _ _ _ _ _ _ k=>wX J T Q Q Q Q Q Q Q Q Q (k)) rfl)
 have Z:A2 7 ⟨[(48,.P 6 0)],[(6,.el 4 (((w64 ((w64 ((w64 ((w64 (d_.X+1)) * (w64 (z_.N+1))))+d_.Y))+(1:Int)))).toNat * ((rI .i64)).sz))],[],[(4,.own (rI .i64) x8 true)],7,[(49,.I R)],[],[],7⟩:=v _ _ (wO Q Q Q (fun _ _ _ _ _ _ _ k=>wd (oI .i64) J T Q Q Q Q Q Q Q Q Q Q (k)) rfl)
 have a0:A2 8 (zz1 [(3,.B 2 0)] [(50,.B 2 2)]):=v _ _ (wL J)
 have b0:A2 9 ⟨[(50,.B 2 2)],[],[],[(2,.box (cC1 d_) 48)],7,[(51,.I d_.C)],[],[],7⟩:=v _ _ (wL J)
 have c0:A2 10 (zz1 [(51,.I d_.C)] [(52,.I (maxI d_.C (-20001)))]):=v _ _ (wL J)
 have d0:A2 11 (zz1 [(49,.I R),(52,.I (maxI d_.C (-20001)))] [(53,.I (minI R (maxI d_.C (-20001))))]):=v _ _ (wL J)
 obtain ⟨e0,f0,h⟩:=ob h
 have g0:A2 12 ⟨[(43,.S 4),(44,.I (w64 ((w64 ((w64 ((w64 (d_.X+1)) * (w64 (z_.N+1))))+d_.Y))+1)))],[],[],[(4,.own (rI .i64) x8 true)],7,[(54,.P 7 0)],[(7,.el 4 (((w64 ((w64 ((w64 ((w64 (d_.X+1)) * (w64 (z_.N+1))))+d_.Y))+(1:Int)))).toNat * ((rI .i64)).sz))],[],8⟩:=v _ _ (wO Q Q Q (fun _ _ _ _ _ _ _ k=>wX J f0 Q Q Q Q Q Q Q Q Q (k)) rfl)
 have i0:A2 13 ⟨[(53,.I (minI R (maxI d_.C (-20001)))),(54,.P 7 0)],[(7,.el 4 (((w64 ((w64 ((w64 ((w64 (d_.X+1)) * (w64 (z_.N+1))))+d_.Y))+(1:Int)))).toNat * ((rI .i64)).sz))],[(4,.own (rI .i64) x8 true)],[],8,[],[],[(4,.own (rI .i64) (setL' x8 (w64 ((w64 ((w64 ((w64 (d_.X+1)) * (w64 (z_.N+1))))+d_.Y))+1)) (minI R (maxI d_.C (-20001)))) true)],8⟩:=v _ _ (wO Q Q Q (fun _ _ _ _ _ _ _ k=>WPr.sto (oI .i64) J (minI R (maxI d_.C (-20001))) f0 Q Q Q Q Q Q Q Q Q Q (by exact rfl) rfl (k)) rfl)
 refine wD (t:=⟨[(4,.B 3 0),(5,.I 0),(6,.B 5 0)],[(3,.box [.I 0,.nil] 78),(4,.own (rI .i64) (setL' x8 (w64 ((w64 ((w64 ((w64 (d_.X+1)) * (w64 (z_.N+1))))+d_.Y))+1)) (minI R (maxI d_.C (-20001)))) true),(5,.box [.I z_.N,.sl 4] 78)],[(0,.sl (rI .i64) z_.B)],8⟩) [0,1,0,0,8,0,56,120,0,256,768,2040,4095,8191] (.cons (x _ _ y) (.cons (x _ _ z) (.cons (x _ _ A) (.cons (x _ _ D) (.cons (x _ _ G) (.cons (x _ _ H) (.cons (x _ _ U) (.cons (x _ _ Z) (.cons (x _ _ a0) (.cons (x _ _ b0) (.cons (x _ _ c0) (.cons (x _ _ d0) (.cons (x _ _ g0) (.cons (x _ _ i0) .nil)))))))))))))) (by kernel_rfl) (by kernel_rfl) (by kernel_rfl) (by kernel_rfl) (wV ⟨[(4,.B 3 0),(5,.I 0)],[(3,.box [.I z_.N,.sl 4] 78),(4,.own (rI .i64) (setL' x8 (w64 ((w64 ((w64 ((w64 (d_.X+1)) * (w64 (z_.N+1))))+d_.Y))+1)) (minI R (maxI d_.C (-20001)))) true)],[(0,.sl (rI .i64) z_.B)],8⟩ J 3 (WP.frz 4 rfl ?_))
 cases h
 exact we J func37 [(1,.sl 4)] Q Q Q Q
theorem z85_ct (N:Nat) (z_:T8) (r:T8 × Bool) (h:z85 N z_=some r) :
 Fn Tryz.prog 85 ⟨1,[.a [.I z_.N,.sl 0]],[(0,.sl (rI .i64) z_.B)],[],2,.t [.inr [.I r.1.N,.sl 1],.inl (.b r.2)],[(1,.sl (rI .i64) r.1.B)],[]⟩:=by
 refine wF func85 Q Q (fun E F w=>?_)
 unfold z85 at h
 refine wV (zz55 z_.N z_.B [(1,.B 1 0),(2,.B 2 0),(3,.O false)]) J 3 (wq (wq (wg (ws J 1 Q ?_))))
 obtain ⟨x1,c,h⟩:=ob h
 refine wc (z82_ct N z_ _ c) [(0,.sl 0)] [] Q Q Q Q Q Q Q Q (.inl rfl) rfl (wx (zz55 z_.N z_.B [(1,.B 1 0),(2,.B 2 0),(3,.O false),(14,.O (!x1))]) J 1 (wn ?_))
 obtain ⟨K,h⟩|⟨K,h⟩:=oc h
 ·refine wt K Q (wV ⟨[(2,.B 2 0),(3,.O false)],[(2,.box [.I 0,.nil] 78)],[(0,.sl (rI .i64) z_.B)],3⟩ J 3 ?_)
  cases h
  exact we J func85 [(1,.nil)] Q Q Q Q
 refine wf K Q (wi (wV (zz55 z_.N z_.B [(1,.B 1 0),(2,.B 2 0),(3,.O false),(4,.I (w64 (z_.N+1)))]) J 4 (wq (wN (fun A1 d e=>?_)))))
 have f:A1 0 (zz10 [(1,.B 1 0)] [(19,.B 1 0)]):=d _ _ (wL J)
 have g:A1 1 ⟨[(19,.B 1 0)],[(0,.sl (rI .i64) z_.B)],[],[(1,.box [.I z_.N,.sl 0] 78)],3,[(20,.I z_.N)],[],[],3⟩:=d _ _ (wL J)
 have i:A1 2 (zz10 [(1,.B 1 0)] [(21,.B 1 1)]):=d _ _ (wL J)
 have j:A1 3 ⟨[(21,.B 1 1)],[(0,.sl (rI .i64) z_.B)],[],[(1,.box [.I z_.N,.sl 0] 78)],3,[(22,.S 0)],[],[],3⟩:=d _ _ (wL J)
 obtain ⟨x6,l,h⟩:=ob h
 have m:A1 4 ⟨[(22,.S 0)],[(0,.sl (rI .i64) z_.B)],[],[],3,[(23,.S 3)],[],[(3,.own (rI .i64) x6 true)],4⟩:=d _ _ (wO Q Q Q (fun _ _ _ _ _ _ _ k=>wc (z84_ct N z_.B _ l) [(0,.sl 0)] [] Q Q Q Q Q Q Q Q (.inl rfl) rfl (k)) rfl)
 have o:A1 5 ⟨[(20,.I z_.N),(23,.S 3)],[],[],[],4,[(24,.a [.I z_.N,.sl 3])],[],[],4⟩:=d _ _ (wL J)
 have p:A1 6 ⟨[],[],[],[],4,[(5,.B 4 0)],[],[(4,.box [.I 0,.nil] 78)],5⟩:=d _ _ (wL J)
 have q:A1 7 ⟨[(5,.B 4 0),(24,.a [.I z_.N,.sl 3])],[],[(4,.box [.I 0,.nil] 78)],[(3,.own (rI .i64) x6 true)],5,[],[],[(4,.box [.I z_.N,.sl 3] 78)],5⟩:=d _ _ (wL J)
 refine wD (t:=(zz4 x6 z_.N z_.B [(2,.B 2 0),(3,.O false),(4,.I (w64 (z_.N+1))),(5,.B 4 0)])) [0,1,0,4,12,31,0,127] (.cons (e _ _ f) (.cons (e _ _ g) (.cons (e _ _ i) (.cons (e _ _ j) (.cons (e _ _ m) (.cons (e _ _ o) (.cons (e _ _ p) (.cons (e _ _ q) .nil)))))))) (by kernel_rfl) (by kernel_rfl) (by kernel_rfl) (by kernel_rfl) (wq (wR J 2 Q ?_))
 refine wC (σ:=(List Int)) (fun st=>(zz4 st z_.N z_.B [(2,.B 2 0),(4,.I (w64 (z_.N+1))),(5,.B 4 0)])) (fun st=>z85_k9 N z_ st=some r) ?_ (fun j1=>?_)
 ·intro s h
  replace h:z85_k9 N z_ s=some r:=h
  unfold z85_k9 at h
  refine wq (wR J 2 Q ?_)
  refine wC (σ:=(List Int)) (fun st=>(zz4 st z_.N z_.B [(2,.B 2 0),(5,.B 4 0)])) (fun st=>z85_k1 z_ st=some r) ?_ (fun j12=>?_)
  ·intro u h
   replace h:z85_k1 z_ u=some r:=h
   unfold z85_k1 at h
   refine wV ⟨[(2,.B 2 0),(3,.O true)],[(2,.box [.I z_.N,.sl 3] 78),(3,.own (rI .i64) u true)],[(0,.sl (rI .i64) z_.B)],5⟩ J 3 (WP.frz 3 rfl ?_)
   cases h
   exact we J func85 [(1,.sl 3)] Q Q Q Q
  refine wo ?_
  refine wI (σ:=(List Int) × Int) (fun st=>(zz4 st.1 z_.N z_.B [(2,.B 2 0),(4,.I (w64 (z_.N+1))),(5,.B 4 0),(56,.I (w64 (z_.N+1))),(57,.I st.2)])) (fun n st=>z85_l2 N z_ n st.1 st.2) (r:=r) (fun _=>rfl) ?_ (fun ih=>?_)
  ·intro n89 ih86
   rintro ⟨v,x⟩ h
   replace h:z85_l2 N z_ (n89+1) v x=some r:=h
   unfold z85_l2 at h
   refine wR J 1 Q (wq ?_)
   obtain ⟨K,h⟩|⟨K,h⟩:=oc' h
   ·exact wf K Q (wz rfl (wU (j12 v h)))
   refine wt K Q (wi (wq (wo (wV (zz4 v z_.N z_.B [(2,.B 2 0),(4,.I (w64 (z_.N+1))),(5,.B 4 0),(8,.I x),(56,.I (w64 (z_.N+1))),(57,.I x)]) J 2 (wq (wR J 2 Q ?_))))))
   refine wC (σ:=(List Int)) (fun st=>(zz4 st z_.N z_.B [(2,.B 2 0),(4,.I (w64 (z_.N+1))),(5,.B 4 0),(56,.I (w64 (z_.N+1))),(57,.I x)])) (fun st=>z85_k5 N z_ x (z85_l2 N z_ n89) st=some r) ?_ (fun j135=>?_)
   ·intro y h
    replace h:z85_k5 N z_ x (z85_l2 N z_ n89) y=some r:=h
    unfold z85_k5 at h
    refine wR J 2 Q ?_
    refine wC (σ:=Unit) (fun st=>(zz4 y z_.N z_.B [(2,.B 2 0),(4,.I (w64 (z_.N+1))),(5,.B 4 0),(56,.I (w64 (z_.N+1))),(57,.I x)])) (fun st=>z85_k3 x (z85_l2 N z_ n89) y=some r) ?_ (fun j146=>?_)
    ·intro _ h
     replace h:z85_k3 x (z85_l2 N z_ n89) y=some r:=h
     unfold z85_k3 at h
     exact wb (wS J 2 Q (wU (ih86 (y,(w64 (x+1))) h)))
    refine wo ?_
    refine wI (σ:=Int) (fun st=>(zz4 y z_.N z_.B [(2,.B 2 0),(4,.I (w64 (z_.N+1))),(5,.B 4 0),(56,.I (w64 (z_.N+1))),(57,.I x),(107,.I (w64 (z_.N+1))),(108,.I st)])) (fun n st=>z85_l4 z_ x (z85_l2 N z_ n89) y n st) (r:=r) (fun _=>rfl) ?_ (fun ih=>?_)
    ·intro n98 ih148
     intro z h
     replace h:z85_l4 z_ x (z85_l2 N z_ n89) y (n98+1) z=some r:=h
     unfold z85_l4 at h
     refine wR J 1 Q (wq ?_)
     obtain ⟨K,h⟩|⟨K,h⟩:=oc' h
     ·exact wf K Q (wz rfl (wU (j146 () h)))
     refine wt K Q (wi (wq (wo (wV (zz4 y z_.N z_.B [(2,.B 2 0),(4,.I (w64 (z_.N+1))),(5,.B 4 0),(11,.I z),(56,.I (w64 (z_.N+1))),(57,.I x),(107,.I (w64 (z_.N+1))),(108,.I z)]) J 2 (wq (wg (xw [7,8,9] (zz4 y z_.N z_.B [(2,.B 2 0),(4,.I (w64 (z_.N+1))),(5,.B 4 0),(56,.I (w64 (z_.N+1))),(57,.I x),(107,.I (w64 (z_.N+1))),(108,.I z),(112,.S 3),(117,.I (w64 ((w64 (z * (w64 (z_.N+1))))+z)))]) J 7 ?_)))))))
     obtain ⟨A,C,h⟩:=ob h
     refine wX J C Q Q Q Q Q Q Q Q Q (wd (oI .i64) J C Q Q Q Q Q Q Q Q Q Q (wx ⟨[(2,.B 2 0),(4,.I (w64 (z_.N+1))),(5,.B 4 0),(56,.I (w64 (z_.N+1))),(57,.I x),(107,.I (w64 (z_.N+1))),(108,.I z),(120,.O (decide (A < 0)))],[(2,.box [.I 0,.nil] 78),(3,.own (rI .i64) y true),(4,.box [.I z_.N,.sl 3] 78)],[(0,.sl (rI .i64) z_.B)],6⟩ J 1 (wn ?_)))
     obtain ⟨K,h⟩|⟨K,h⟩:=oc h
     ·refine wt K Q (wV ⟨[(2,.B 2 0),(3,.O false)],[(2,.box [.I 0,.nil] 78)],[(0,.sl (rI .i64) z_.B)],6⟩ J 3 ?_)
      cases h
      exact we J func85 [(1,.nil)] Q Q Q Q
     exact wf K Q (wi (wb (wS J 2 Q (wU (ih148 (w64 (z+1)) h)))))
    exact wU (ih N 0 h)
   refine wo ?_
   refine wI (σ:=(List Int) × Int) (fun st=>(zz4 st.1 z_.N z_.B [(2,.B 2 0),(4,.I (w64 (z_.N+1))),(5,.B 4 0),(8,.I x),(56,.I (w64 (z_.N+1))),(57,.I x),(60,.I (w64 (z_.N+1))),(61,.I st.2)])) (fun n st=>z85_l6 N z_ x (z85_l2 N z_ n89) n st.1 st.2) (r:=r) (fun _=>rfl) ?_ (fun ih=>?_)
   ·intro n103 ih149
    rintro ⟨D,G⟩ h
    replace h:z85_l6 N z_ x (z85_l2 N z_ n89) (n103+1) D G=some r:=h
    unfold z85_l6 at h
    refine wR J 1 Q (wq ?_)
    obtain ⟨K,h⟩|⟨K,h⟩:=oc' h
    ·exact wf K Q (wz rfl (wU (j135 D h)))
    refine wt K Q (wi (wq (wo (wV (zz4 D z_.N z_.B [(2,.B 2 0),(4,.I (w64 (z_.N+1))),(5,.B 4 0),(8,.I x),(9,.I G),(56,.I (w64 (z_.N+1))),(57,.I x),(60,.I (w64 (z_.N+1))),(61,.I G)]) J 2 (wR J 2 Q ?_)))))
    refine wC (σ:=(List Int)) (fun st=>(zz4 st z_.N z_.B [(2,.B 2 0),(4,.I (w64 (z_.N+1))),(5,.B 4 0),(8,.I x),(56,.I (w64 (z_.N+1))),(57,.I x),(60,.I (w64 (z_.N+1))),(61,.I G)])) (fun st=>z85_k7 G (z85_l6 N z_ x (z85_l2 N z_ n89) n103) st=some r) ?_ (fun j156=>?_)
    ·intro H h
     replace h:z85_k7 G (z85_l6 N z_ x (z85_l2 N z_ n89) n103) H=some r:=h
     unfold z85_k7 at h
     exact wb (wS J 2 Q (wU (ih149 (H,(w64 (G+1))) h)))
    refine wo ?_
    refine wI (σ:=(List Int) × Int) (fun st=>(zz4 st.1 z_.N z_.B [(2,.B 2 0),(4,.I (w64 (z_.N+1))),(5,.B 4 0),(8,.I x),(9,.I G),(56,.I (w64 (z_.N+1))),(57,.I x),(60,.I (w64 (z_.N+1))),(61,.I G),(64,.I (w64 (z_.N+1))),(65,.I st.2)])) (fun n st=>z85_l8 z_ x G (z85_l6 N z_ x (z85_l2 N z_ n89) n103) n st.1 st.2) (r:=r) (fun _=>rfl) ?_ (fun ih=>?_)
    ·intro n105 ih158
     rintro ⟨R,T⟩ h
     replace h:z85_l8 z_ x G (z85_l6 N z_ x (z85_l2 N z_ n89) n103) (n105+1) R T=some r:=h
     unfold z85_l8 at h
     refine wR J 1 Q (wq ?_)
     obtain ⟨K,h⟩|⟨K,h⟩:=oc' h
     ·exact wf K Q (wz rfl (wU (j156 R h)))
     refine wt K Q (wi (wq (wo (wV (zz4 R z_.N z_.B [(2,.B 2 0),(4,.I (w64 (z_.N+1))),(5,.B 4 0),(8,.I x),(9,.I G),(10,.I T),(56,.I (w64 (z_.N+1))),(57,.I x),(60,.I (w64 (z_.N+1))),(61,.I G),(64,.I (w64 (z_.N+1))),(65,.I T)]) J 2 (wN (fun U X Y=>?_))))))
     have Z:U 0 (zz2 [(5,.B 4 0)] [(68,.B 4 1)]):=X _ _ (wL J)
     have a0:U 1 (zz45 z_.N [(68,.B 4 1)] [(69,.S 3)]):=X _ _ (wL J)
     have b0:U 2 (zz2 [(9,.I G)] [(70,.I G)]):=X _ _ (wL J)
     have c0:U 3 (zz2 [(4,.I (w64 (z_.N+1)))] [(71,.I (w64 (z_.N+1)))]):=X _ _ (wL J)
     have d0:U 4 (zz2 [(70,.I G),(71,.I (w64 (z_.N+1)))] [(72,.I (w64 (G * (w64 (z_.N+1)))))]):=X _ _ (wL J)
     have e0:U 5 (zz2 [(10,.I T)] [(73,.I T)]):=X _ _ (wL J)
     have f0:U 6 (zz2 [(72,.I (w64 (G * (w64 (z_.N+1))))),(73,.I T)] [(74,.I (w64 ((w64 (G * (w64 (z_.N+1))))+T)))]):=X _ _ (wL J)
     have g0:U 7 (zz2 [(5,.B 4 0)] [(75,.B 4 1)]):=X _ _ (wL J)
     have i0:U 8 (zz45 z_.N [(75,.B 4 1)] [(76,.S 3)]):=X _ _ (wL J)
     have j0:U 9 (zz2 [(9,.I G)] [(77,.I G)]):=X _ _ (wL J)
     have k0:U 10 (zz2 [(4,.I (w64 (z_.N+1)))] [(78,.I (w64 (z_.N+1)))]):=X _ _ (wL J)
     have l0:U 11 (zz2 [(77,.I G),(78,.I (w64 (z_.N+1)))] [(79,.I (w64 (G * (w64 (z_.N+1)))))]):=X _ _ (wL J)
     have m0:U 12 (zz2 [(10,.I T)] [(80,.I T)]):=X _ _ (wL J)
     have o0:U 13 (zz2 [(79,.I (w64 (G * (w64 (z_.N+1))))),(80,.I T)] [(81,.I (w64 ((w64 (G * (w64 (z_.N+1))))+T)))]):=X _ _ (wL J)
     obtain ⟨p0,q0,h⟩:=ob h
     have s0:U 14 ⟨[(76,.S 3),(81,.I (w64 ((w64 (G * (w64 (z_.N+1))))+T)))],[],[],[(3,.own (rI .i64) R true)],5,[(82,.P 5 0)],[(5,.el 3 (((w64 ((w64 (G * (w64 (z_.N+1))))+T))).toNat * ((rI .i64)).sz))],[],6⟩:=X _ _ (wO Q Q Q (fun _ _ _ _ _ _ _ k=>wX J q0 Q Q Q Q Q Q Q Q Q (k)) rfl)
     have t0:U 15 ⟨[(82,.P 5 0)],[(5,.el 3 (((w64 ((w64 (G * (w64 (z_.N+1))))+T))).toNat * ((rI .i64)).sz))],[],[(3,.own (rI .i64) R true)],6,[(83,.I p0)],[],[],6⟩:=X _ _ (wO Q Q Q (fun _ _ _ _ _ _ _ k=>wd (oI .i64) J q0 Q Q Q Q Q Q Q Q Q Q (k)) rfl)
     have u0:U 16 (zz6 [(5,.B 4 0)] [(84,.B 4 1)]):=X _ _ (wL J)
     have v0:U 17 ⟨[(84,.B 4 1)],[],[],[(4,.box [.I z_.N,.sl 3] 78)],6,[(85,.S 3)],[],[],6⟩:=X _ _ (wL J)
     have x0:U 18 (zz6 [(9,.I G)] [(86,.I G)]):=X _ _ (wL J)
     have y0:U 19 (zz6 [(4,.I (w64 (z_.N+1)))] [(87,.I (w64 (z_.N+1)))]):=X _ _ (wL J)
     have z0:U 20 (zz6 [(86,.I G),(87,.I (w64 (z_.N+1)))] [(88,.I (w64 (G * (w64 (z_.N+1)))))]):=X _ _ (wL J)
     have A0:U 21 (zz6 [(8,.I x)] [(89,.I x)]):=X _ _ (wL J)
     have B0:U 22 (zz6 [(88,.I (w64 (G * (w64 (z_.N+1))))),(89,.I x)] [(90,.I (w64 ((w64 (G * (w64 (z_.N+1))))+x)))]):=X _ _ (wL J)
     obtain ⟨C0,D0,h⟩:=ob h
     have G0:U 23 ⟨[(85,.S 3),(90,.I (w64 ((w64 (G * (w64 (z_.N+1))))+x)))],[],[],[(3,.own (rI .i64) R true)],6,[(91,.P 6 0)],[(6,.el 3 (((w64 ((w64 (G * (w64 (z_.N+1))))+x))).toNat * ((rI .i64)).sz))],[],7⟩:=X _ _ (wO Q Q Q (fun _ _ _ _ _ _ _ k=>wX J D0 Q Q Q Q Q Q Q Q Q (k)) rfl)
     have H0:U 24 ⟨[(91,.P 6 0)],[(6,.el 3 (((w64 ((w64 (G * (w64 (z_.N+1))))+x))).toNat * ((rI .i64)).sz))],[],[(3,.own (rI .i64) R true)],7,[(92,.I C0)],[],[],7⟩:=X _ _ (wO Q Q Q (fun _ _ _ _ _ _ _ k=>wd (oI .i64) J D0 Q Q Q Q Q Q Q Q Q Q (k)) rfl)
     have I0:U 25 (zz1 [(5,.B 4 0)] [(93,.B 4 1)]):=X _ _ (wL J)
     have L0:U 26 ⟨[(93,.B 4 1)],[],[],[(4,.box [.I z_.N,.sl 3] 78)],7,[(94,.S 3)],[],[],7⟩:=X _ _ (wL J)
     have M0:U 27 (zz1 [(8,.I x)] [(95,.I x)]):=X _ _ (wL J)
     have O0:U 28 (zz1 [(4,.I (w64 (z_.N+1)))] [(96,.I (w64 (z_.N+1)))]):=X _ _ (wL J)
     have R0:U 29 (zz1 [(95,.I x),(96,.I (w64 (z_.N+1)))] [(97,.I (w64 (x * (w64 (z_.N+1)))))]):=X _ _ (wL J)
     have S0:U 30 (zz1 [(10,.I T)] [(98,.I T)]):=X _ _ (wL J)
     have T0:U 31 (zz1 [(97,.I (w64 (x * (w64 (z_.N+1))))),(98,.I T)] [(99,.I (w64 ((w64 (x * (w64 (z_.N+1))))+T)))]):=X _ _ (wL J)
     obtain ⟨U0,V0,h⟩:=ob h
     have X0:U 32 ⟨[(94,.S 3),(99,.I (w64 ((w64 (x * (w64 (z_.N+1))))+T)))],[],[],[(3,.own (rI .i64) R true)],7,[(100,.P 7 0)],[(7,.el 3 (((w64 ((w64 (x * (w64 (z_.N+1))))+T))).toNat * ((rI .i64)).sz))],[],8⟩:=X _ _ (wO Q Q Q (fun _ _ _ _ _ _ _ k=>wX J V0 Q Q Q Q Q Q Q Q Q (k)) rfl)
     have Y0:U 33 ⟨[(100,.P 7 0)],[(7,.el 3 (((w64 ((w64 (x * (w64 (z_.N+1))))+T))).toNat * ((rI .i64)).sz))],[],[(3,.own (rI .i64) R true)],8,[(101,.I U0)],[],[],8⟩:=X _ _ (wO Q Q Q (fun _ _ _ _ _ _ _ k=>wd (oI .i64) J V0 Q Q Q Q Q Q Q Q Q Q (k)) rfl)
     have Z0:U 34 (zz3 [(92,.I C0),(101,.I U0)] [(102,.I (w64 (C0+U0)))]):=X _ _ (wL J)
     have a1:U 35 (zz3 [(83,.I p0),(102,.I (w64 (C0+U0)))] [(103,.I (minI p0 (w64 (C0+U0))))]):=X _ _ (wL J)
     obtain ⟨b1,c1,h⟩:=ob h
     have d1:U 36 ⟨[(69,.S 3),(74,.I (w64 ((w64 (G * (w64 (z_.N+1))))+T)))],[],[],[(3,.own (rI .i64) R true)],8,[(104,.P 8 0)],[(8,.el 3 (((w64 ((w64 (G * (w64 (z_.N+1))))+T))).toNat * ((rI .i64)).sz))],[],9⟩:=X _ _ (wO Q Q Q (fun _ _ _ _ _ _ _ k=>wX J c1 Q Q Q Q Q Q Q Q Q (k)) rfl)
     have e1:U 37 ⟨[(103,.I (minI p0 (w64 (C0+U0)))),(104,.P 8 0)],[(8,.el 3 (((w64 ((w64 (G * (w64 (z_.N+1))))+T))).toNat * ((rI .i64)).sz))],[(3,.own (rI .i64) R true)],[],9,[],[],[(3,.own (rI .i64) (setL' R (w64 ((w64 (G * (w64 (z_.N+1))))+T)) (minI p0 (w64 (C0+U0)))) true)],9⟩:=X _ _ (wO Q Q Q (fun _ _ _ _ _ _ _ k=>WPr.sto (oI .i64) J (minI p0 (w64 (C0+U0))) c1 Q Q Q Q Q Q Q Q Q Q (by exact rfl) rfl (k)) rfl)
     exact wD (t:=⟨[(2,.B 2 0),(4,.I (w64 (z_.N+1))),(5,.B 4 0),(8,.I x),(9,.I G),(56,.I (w64 (z_.N+1))),(57,.I x),(60,.I (w64 (z_.N+1))),(61,.I G),(64,.I (w64 (z_.N+1))),(65,.I T)],[(2,.box [.I 0,.nil] 78),(3,.own (rI .i64) (setL' R (w64 ((w64 (G * (w64 (z_.N+1))))+T)) (minI p0 (w64 (C0+U0)))) true),(4,.box [.I z_.N,.sl 3] 78)],[(0,.sl (rI .i64) z_.B)],9⟩) [0,1,0,0,12,0,60,0,128,0,0,1536,0,7680,16256,32640,0,65536,0,0,786432,0,3932160,8323072,16711680,0,33554432,0,0,402653184,0,2013265920,4261412864,8556380160,17179803648,34359738240,68719476735,137438953471] (.cons (Y _ _ Z) (.cons (Y _ _ a0) (.cons (Y _ _ b0) (.cons (Y _ _ c0) (.cons (Y _ _ d0) (.cons (Y _ _ e0) (.cons (Y _ _ f0) (.cons (Y _ _ g0) (.cons (Y _ _ i0) (.cons (Y _ _ j0) (.cons (Y _ _ k0) (.cons (Y _ _ l0) (.cons (Y _ _ m0) (.cons (Y _ _ o0) (.cons (Y _ _ s0) (.cons (Y _ _ t0) (.cons (Y _ _ u0) (.cons (Y _ _ v0) (.cons (Y _ _ x0) (.cons (Y _ _ y0) (.cons (Y _ _ z0) (.cons (Y _ _ A0) (.cons (Y _ _ B0) (.cons (Y _ _ G0) (.cons (Y _ _ H0) (.cons (Y _ _ I0) (.cons (Y _ _ L0) (.cons (Y _ _ M0) (.cons (Y _ _ O0) (.cons (Y _ _ R0) (.cons (Y _ _ S0) (.cons (Y _ _ T0) (.cons (Y _ _ X0) (.cons (Y _ _ Y0) (.cons (Y _ _ Z0) (.cons (Y _ _ a1) (.cons (Y _ _ d1) (.cons (Y _ _ e1) .nil)))))))))))))))))))))))))))))))))))))) (by kernel_rfl) (by kernel_rfl) (by kernel_rfl) (by kernel_rfl) (wb (wS J 2 Q (wU (ih158 ((setL' R (w64 ((w64 (G * (w64 (z_.N+1))))+T)) (minI p0 (w64 (C0+U0)))),(w64 (T+1))) h))))
    exact wU (ih N (D,0) h)
   exact wU (ih N (v,0) h)
  exact wU (ih N (s,0) h)
 refine wo ?_
 refine wI (σ:=(List Int) × Int) (fun st=>(zz4 st.1 z_.N z_.B [(2,.B 2 0),(4,.I (w64 (z_.N+1))),(5,.B 4 0),(25,.I (w64 (z_.N+1))),(26,.I st.2)])) (fun n st=>z85_l10 N z_ n st.1 st.2) (r:=r) (fun _=>rfl) ?_ (fun ih=>?_)
 ·intro n110 ih159
  rintro ⟨f1,g1⟩ h
  replace h:z85_l10 N z_ (n110+1) f1 g1=some r:=h
  unfold z85_l10 at h
  refine wR J 1 Q (wq ?_)
  obtain ⟨K,h⟩|⟨K,h⟩:=oc' h
  ·exact wf K Q (wz rfl (wU (j1 f1 h)))
  refine wt K Q (wi (wq (wo (wV (zz4 f1 z_.N z_.B [(2,.B 2 0),(4,.I (w64 (z_.N+1))),(5,.B 4 0),(6,.I g1),(25,.I (w64 (z_.N+1))),(26,.I g1)]) J 2 (wR J 2 Q ?_)))))
  refine wC (σ:=(List Int)) (fun st=>(zz4 st z_.N z_.B [(2,.B 2 0),(4,.I (w64 (z_.N+1))),(5,.B 4 0),(25,.I (w64 (z_.N+1))),(26,.I g1)])) (fun st=>z85_k11 g1 (z85_l10 N z_ n110) st=some r) ?_ (fun j166=>?_)
  ·intro i1 h
   replace h:z85_k11 g1 (z85_l10 N z_ n110) i1=some r:=h
   unfold z85_k11 at h
   exact wb (wS J 2 Q (wU (ih159 (i1,(w64 (g1+1))) h)))
  refine wo ?_
  refine wI (σ:=(List Int) × Int) (fun st=>(zz4 st.1 z_.N z_.B [(2,.B 2 0),(4,.I (w64 (z_.N+1))),(5,.B 4 0),(6,.I g1),(25,.I (w64 (z_.N+1))),(26,.I g1),(29,.I (w64 (z_.N+1))),(30,.I st.2)])) (fun n st=>z85_l12 N z_ g1 (z85_l10 N z_ n110) n st.1 st.2) (r:=r) (fun _=>rfl) ?_ (fun ih=>?_)
  ·intro n112 ih168
   rintro ⟨k1,l1⟩ h
   replace h:z85_l12 N z_ g1 (z85_l10 N z_ n110) (n112+1) k1 l1=some r:=h
   unfold z85_l12 at h
   refine wR J 1 Q (wq ?_)
   obtain ⟨K,h⟩|⟨K,h⟩:=oc' h
   ·exact wf K Q (wz rfl (wU (j166 k1 h)))
   refine wt K Q (wi (wq (wo (wV (zz4 k1 z_.N z_.B [(2,.B 2 0),(4,.I (w64 (z_.N+1))),(5,.B 4 0),(6,.I g1),(7,.I l1),(25,.I (w64 (z_.N+1))),(26,.I g1),(29,.I (w64 (z_.N+1))),(30,.I l1)]) J 2 (wN (fun m1 o1 p1=>?_))))))
   have q1:m1 0 (zz2 [(5,.B 4 0)] [(33,.B 4 1)]):=o1 _ _ (wL J)
   have s1:m1 1 (zz45 z_.N [(33,.B 4 1)] [(34,.S 3)]):=o1 _ _ (wL J)
   have t1:m1 2 (zz2 [(6,.I g1)] [(35,.I g1)]):=o1 _ _ (wL J)
   have u1:m1 3 (zz2 [(4,.I (w64 (z_.N+1)))] [(36,.I (w64 (z_.N+1)))]):=o1 _ _ (wL J)
   have v1:m1 4 (zz2 [(35,.I g1),(36,.I (w64 (z_.N+1)))] [(37,.I (w64 (g1 * (w64 (z_.N+1)))))]):=o1 _ _ (wL J)
   have y1:m1 5 (zz2 [(7,.I l1)] [(38,.I l1)]):=o1 _ _ (wL J)
   have z1:m1 6 (zz2 [(37,.I (w64 (g1 * (w64 (z_.N+1))))),(38,.I l1)] [(39,.I (w64 ((w64 (g1 * (w64 (z_.N+1))))+l1)))]):=o1 _ _ (wL J)
   have B1:m1 7 (zz2 [(5,.B 4 0)] [(40,.B 4 1)]):=o1 _ _ (wL J)
   have C1:m1 8 (zz45 z_.N [(40,.B 4 1)] [(41,.S 3)]):=o1 _ _ (wL J)
   have D1:m1 9 (zz2 [(6,.I g1)] [(42,.I g1)]):=o1 _ _ (wL J)
   have G1:m1 10 (zz2 [(4,.I (w64 (z_.N+1)))] [(43,.I (w64 (z_.N+1)))]):=o1 _ _ (wL J)
   have H1:m1 11 (zz2 [(42,.I g1),(43,.I (w64 (z_.N+1)))] [(44,.I (w64 (g1 * (w64 (z_.N+1)))))]):=o1 _ _ (wL J)
   have I1:m1 12 (zz2 [(7,.I l1)] [(45,.I l1)]):=o1 _ _ (wL J)
   have L1:m1 13 (zz2 [(44,.I (w64 (g1 * (w64 (z_.N+1))))),(45,.I l1)] [(46,.I (w64 ((w64 (g1 * (w64 (z_.N+1))))+l1)))]):=o1 _ _ (wL J)
   obtain ⟨M1,O1,h⟩:=ob h
   have R1:m1 14 ⟨[(41,.S 3),(46,.I (w64 ((w64 (g1 * (w64 (z_.N+1))))+l1)))],[],[],[(3,.own (rI .i64) k1 true)],5,[(47,.P 5 0)],[(5,.el 3 (((w64 ((w64 (g1 * (w64 (z_.N+1))))+l1))).toNat * ((rI .i64)).sz))],[],6⟩:=o1 _ _ (wO Q Q Q (fun _ _ _ _ _ _ _ k=>wX J O1 Q Q Q Q Q Q Q Q Q (k)) rfl)
   have S1:m1 15 ⟨[(47,.P 5 0)],[(5,.el 3 (((w64 ((w64 (g1 * (w64 (z_.N+1))))+l1))).toNat * ((rI .i64)).sz))],[],[(3,.own (rI .i64) k1 true)],6,[(48,.I M1)],[],[],6⟩:=o1 _ _ (wO Q Q Q (fun _ _ _ _ _ _ _ k=>wd (oI .i64) J O1 Q Q Q Q Q Q Q Q Q Q (k)) rfl)
   have T1:m1 16 (zz6 [(6,.I g1)] [(49,.I g1)]):=o1 _ _ (wL J)
   have U1:m1 17 (zz6 [(7,.I l1)] [(50,.I l1)]):=o1 _ _ (wL J)
   obtain ⟨V1,X1,h⟩:=ob h
   have Y1:m1 18 (zz6 [(49,.I g1),(50,.I l1)] [(51,.I V1)]):=o1 _ _ (wO Q Q Q (fun _ _ _ _ _ _ _ k=>wc (z146_ct N g1 l1 _ X1) [] [] Q Q Q Q Q Q Q Q (.inl rfl) rfl (k)) rfl)
   have Z1:m1 19 (zz6 [(48,.I M1),(51,.I V1)] [(52,.I (minI M1 V1))]):=o1 _ _ (wL J)
   obtain ⟨a2,b2,h⟩:=ob h
   have c2:m1 20 ⟨[(34,.S 3),(39,.I (w64 ((w64 (g1 * (w64 (z_.N+1))))+l1)))],[],[],[(3,.own (rI .i64) k1 true)],6,[(53,.P 6 0)],[(6,.el 3 (((w64 ((w64 (g1 * (w64 (z_.N+1))))+l1))).toNat * ((rI .i64)).sz))],[],7⟩:=o1 _ _ (wO Q Q Q (fun _ _ _ _ _ _ _ k=>wX J b2 Q Q Q Q Q Q Q Q Q (k)) rfl)
   have d2:m1 21 ⟨[(52,.I (minI M1 V1)),(53,.P 6 0)],[(6,.el 3 (((w64 ((w64 (g1 * (w64 (z_.N+1))))+l1))).toNat * ((rI .i64)).sz))],[(3,.own (rI .i64) k1 true)],[],7,[],[],[(3,.own (rI .i64) (setL' k1 (w64 ((w64 (g1 * (w64 (z_.N+1))))+l1)) (minI M1 V1)) true)],7⟩:=o1 _ _ (wO Q Q Q (fun _ _ _ _ _ _ _ k=>WPr.sto (oI .i64) J (minI M1 V1) b2 Q Q Q Q Q Q Q Q Q Q (by exact rfl) rfl (k)) rfl)
   exact wD (t:=⟨[(2,.B 2 0),(4,.I (w64 (z_.N+1))),(5,.B 4 0),(6,.I g1),(25,.I (w64 (z_.N+1))),(26,.I g1),(29,.I (w64 (z_.N+1))),(30,.I l1)],[(2,.box [.I 0,.nil] 78),(3,.own (rI .i64) (setL' k1 (w64 ((w64 (g1 * (w64 (z_.N+1))))+l1)) (minI M1 V1)) true),(4,.box [.I z_.N,.sl 3] 78)],[(0,.sl (rI .i64) z_.B)],7⟩) [0,1,0,0,12,0,60,0,128,0,0,1536,0,7680,16256,32640,0,0,196608,524160,1048575,2097151] (.cons (p1 _ _ q1) (.cons (p1 _ _ s1) (.cons (p1 _ _ t1) (.cons (p1 _ _ u1) (.cons (p1 _ _ v1) (.cons (p1 _ _ y1) (.cons (p1 _ _ z1) (.cons (p1 _ _ B1) (.cons (p1 _ _ C1) (.cons (p1 _ _ D1) (.cons (p1 _ _ G1) (.cons (p1 _ _ H1) (.cons (p1 _ _ I1) (.cons (p1 _ _ L1) (.cons (p1 _ _ R1) (.cons (p1 _ _ S1) (.cons (p1 _ _ T1) (.cons (p1 _ _ U1) (.cons (p1 _ _ Y1) (.cons (p1 _ _ Z1) (.cons (p1 _ _ c2) (.cons (p1 _ _ d2) .nil)))))))))))))))))))))) (by kernel_rfl) (by kernel_rfl) (by kernel_rfl) (by kernel_rfl) (wb (wS J 2 Q (wU (ih168 ((setL' k1 (w64 ((w64 (g1 * (w64 (z_.N+1))))+l1)) (minI M1 V1)),(w64 (l1+1))) h))))
  exact wU (ih N (f1,0) h)
 exact wU (ih N (x6,0) h)
theorem z86_ct (N:Nat) (z_:T8) (i_:Int) (j_:Int) (r:Int) (h:z86 N z_ i_ j_=some r) :
 Fn Tryz.prog 86 ⟨1,[.a [.I z_.N,.sl 0],.I i_,.I j_],[(0,.sl (rI .i64) z_.B)],[],1,.I r,[],[]⟩:=by
 refine wF func86 Q Q (fun E F w=>?_)
 unfold z86 at h
 refine wR J 2 Q (wq (wg (xw [9,10,11] (zz7 z_.B [(8,.S 0),(15,.I (w64 ((w64 (i_ * (w64 (z_.N+1))))+j_)))]) J 9 ?_)))
 obtain ⟨x1,c,h⟩:=ob h
 refine wj (oI .i64) J c Q Q Q Q Q Q Q Q Q (wx (zz38 z_.B [(6,.I x1)]) J 2 (wn ?_))
 cases h
 exact we J func86 [] Q Q Q Q
theorem z38_ct (N:Nat) (z_:T8) (r:(List Int) × Bool) (h:z38 N z_=some r) :
 Fn Tryz.prog 38 ⟨1,[.a [.I z_.N,.sl 0]],[(0,.sl (rI .i64) z_.B)],[],2,.t [.inl (.sl 1),.inl (.b r.2)],[],[(1,.own (rI .i64) r.1 true)]⟩:=by
 refine wF func38 Q Q (fun E F w=>?_)
 unfold z38 at h
 refine wV (zz31 z_.N z_.B [(1,.B 1 0),(2,.c .nil),(3,.O false)]) J 3 (wq (wg (ws J 1 Q ?_)))
 obtain ⟨x1,d,h⟩:=ob h
 refine wc (z85_ct N z_ _ d) [(0,.sl 0)] [] Q Q Q Q Q Q Q Q (.inl rfl) rfl (wx ⟨[(1,.B 1 0),(2,.c .nil),(3,.O false),(4,.B 3 0),(5,.O x1.2)],[(1,.box [.I z_.N,.sl 0] 78),(3,.box [.I x1.1.N,.sl 2] 78)],[(0,.sl (rI .i64) z_.B),(2,.sl (rI .i64) x1.1.B)],4⟩ J 6 (wn (wq (wR J 2 Q ?_))))
 obtain ⟨K,h⟩|⟨K,h⟩:=oc h
 ·refine wt K Q (wV ⟨[(2,.c .nil),(3,.O false)],[],[(0,.sl (rI .i64) z_.B)],4⟩ J 2 ?_)
  cases h
  exact we J func38 [(1,.nil)] Q Q Q Q
 refine wf K Q (wi (wq (wg (WPr.bs (cs:=[]) (oI .i64) J ([]:List Int) Q Q Q Q Q Q (by kernel_rfl) (by exact rfl) rfl (wx ⟨[(1,.B 1 0),(2,.c .nil),(3,.O false),(4,.B 3 0),(6,.S 4)],[(1,.box [.I z_.N,.sl 0] 78),(3,.box [.I x1.1.N,.sl 2] 78),(4,.own (rI .i64) ([]:List Int) true)],[(0,.sl (rI .i64) z_.B),(2,.sl (rI .i64) x1.1.B)],5⟩ J 1 (wn (wq (wV ⟨[(2,.c .nil),(3,.O false),(4,.B 3 0),(6,.S 4),(20,.I z_.N),(21,.I 0)],[(3,.box [.I x1.1.N,.sl 2] 78),(4,.own (rI .i64) ([]:List Int) true)],[(0,.sl (rI .i64) z_.B),(2,.sl (rI .i64) x1.1.B)],5⟩ J 3 ?_))))))))
 refine wC (σ:=(List Int)) (fun st=>⟨[(6,.S 5)],[(5,.own (rI .i64) st true)],[(0,.sl (rI .i64) z_.B)],6⟩) (fun st=>z38_k1 st=some r) ?_ (fun j1=>?_)
 ·intro e h
  replace h:z38_k1 e=some r:=h
  unfold z38_k1 at h
  refine wV ⟨[(2,.S 5),(3,.O true)],[(5,.own (rI .i64) e true)],[(0,.sl (rI .i64) z_.B)],6⟩ J 3 ?_
  cases h
  exact we J func38 [(1,.sl 5)] Q Q Q Q
 refine wo ?_
 refine wI (σ:=(List Int) × Int) (fun st=>(zz26 x1.1.N st.1 z_.B x1.1.B [(4,.B 3 0),(6,.S 5),(20,.I z_.N),(21,.I st.2)])) (fun n st=>z38_l2 N z_ x1 n st.1 st.2) (r:=r) (fun _=>rfl) ?_ (fun ih=>?_)
 ·intro n12 ih12
  rintro ⟨f,g⟩ h
  replace h:z38_l2 N z_ x1 (n12+1) f g=some r:=h
  unfold z38_l2 at h
  refine wR J 1 Q (wq ?_)
  obtain ⟨K,h⟩|⟨K,h⟩:=oc' h
  ·exact wf K Q (wz rfl (wU (j1 f h)))
  refine wt K Q (wi (wq (wo (wV (zz26 x1.1.N f z_.B x1.1.B [(4,.B 3 0),(6,.S 5),(7,.I g),(20,.I z_.N),(21,.I g)]) J 2 (wq (wg (xw [3,4,5] (zz26 x1.1.N f z_.B x1.1.B [(4,.B 3 0),(6,.S 5),(7,.I g),(20,.I z_.N),(21,.I g),(24,.a [.I x1.1.N,.sl 2]),(26,.I (w64 (g+1)))]) J 3 ?_)))))))
  obtain ⟨i,j,h⟩:=ob h
  refine wc (z86_ct N x1.1 0 (w64 (g+1)) _ j) [(0,.sl 2)] [] Q Q Q Q Q Q Q Q (.inl rfl) rfl (wx (zz26 x1.1.N f z_.B x1.1.B [(4,.B 3 0),(6,.S 5),(7,.I g),(8,.I (w64 (0-i))),(20,.I z_.N),(21,.I g)]) J 2 (wn (wq (wV (zz26 x1.1.N f z_.B x1.1.B [(4,.B 3 0),(6,.S 5),(7,.I g),(8,.I (w64 (0-i))),(20,.I z_.N),(21,.I g),(29,.S 5),(30,.I (f.length:Int)),(31,.I 0)]) J 3 ?_))))
  refine wC (σ:=Int) (fun st=>(zz26 x1.1.N f z_.B x1.1.B [(4,.B 3 0),(6,.S 5),(8,.I st),(20,.I z_.N),(21,.I g)])) (fun st=>z38_k3 f g (z38_l2 N z_ x1 n12) st=some r) ?_ (fun j19=>?_)
  ·intro k h
   replace h:z38_k3 f g (z38_l2 N z_ x1 n12) k=some r:=h
   unfold z38_k3 at h
   refine wg (ws J 2 Q (WPr.bs (cs:=[.I k]) (oI .i64) J ([k]:List Int) Q Q Q Q Q Q (by kernel_rfl) (by exact (an Q Q)) rfl (xw [3,4] ⟨[(4,.B 3 0),(20,.I z_.N),(21,.I g),(47,.S 5),(49,.S 6)],[(3,.box [.I x1.1.N,.sl 2] 78),(5,.own (rI .i64) f true),(6,.own (rI .i64) ([k]:List Int) true)],[(0,.sl (rI .i64) z_.B),(2,.sl (rI .i64) x1.1.B)],7⟩ J 0 ?_)))
   obtain ⟨l,m,h⟩:=ob h
   exact WPr.app J m (by exact (srcO rfl)) Q Q Q Q Q Q Q Q Q Q (wx ⟨[(4,.B 3 0),(6,.S 7),(20,.I z_.N),(21,.I g)],[(3,.box [.I x1.1.N,.sl 2] 78),(7,.own (rI .i64) l true)],[(0,.sl (rI .i64) z_.B),(2,.sl (rI .i64) x1.1.B)],8⟩ J 1 (wn (wb (wS J 2 Q (wu [(5,.sl 7)] (ih12 (l,(w64 (g+1))) h) Q Q Q Q)))))
  refine wo ?_
  refine wI (σ:=Int × Int) (fun st=>(zz26 x1.1.N f z_.B x1.1.B [(4,.B 3 0),(6,.S 5),(7,.I g),(8,.I st.1),(20,.I z_.N),(21,.I g),(29,.S 5),(30,.I (f.length:Int)),(31,.I st.2)])) (fun n st=>z38_l4 N x1 f g (z38_l2 N z_ x1 n12) n st.1 st.2) (r:=r) (fun _=>rfl) ?_ (fun ih=>?_)
  ·intro n14 ih21
   rintro ⟨o,p⟩ h
   replace h:z38_l4 N x1 f g (z38_l2 N z_ x1 n12) (n14+1) o p=some r:=h
   unfold z38_l4 at h
   refine wR J 1 Q (wq ?_)
   obtain ⟨K,h⟩|⟨K,h⟩:=oc' h
   ·exact wf K Q (wz rfl (wU (j19 o h)))
   refine wt K Q (wi (wq (wo (wq (wg (ws J 1 Q ?_))))))
   obtain ⟨q,s,h⟩:=ob h
   refine wX J s Q Q Q Q Q Q Q Q Q (xw [2,3,4] ⟨[(4,.B 3 0),(6,.S 5),(7,.I g),(8,.I o),(20,.I z_.N),(21,.I g),(29,.S 5),(30,.I (f.length:Int)),(31,.I p),(33,.I p),(34,.P 6 0)],[(3,.box [.I x1.1.N,.sl 2] 78),(5,.own (rI .i64) f true)],[(0,.sl (rI .i64) z_.B),(2,.sl (rI .i64) x1.1.B),(6,.el 5 ((p).toNat * ((rI .i64)).sz))],7⟩ J 0 (wd (oI .i64) J s Q Q Q Q Q Q Q Q Q Q (wx (zz56 x1.1.N f z_.B x1.1.B [(4,.B 3 0),(6,.S 5),(7,.I g),(8,.I o),(9,.I p),(10,.I q),(20,.I z_.N),(21,.I g),(29,.S 5),(30,.I (f.length:Int)),(31,.I p)]) J 2 (wn (wg (xw [7,8,9,10] (zz56 x1.1.N f z_.B x1.1.B [(4,.B 3 0),(6,.S 5),(7,.I g),(20,.I z_.N),(21,.I g),(29,.S 5),(30,.I (f.length:Int)),(31,.I p),(36,.I o),(37,.I q),(38,.a [.I x1.1.N,.sl 2]),(40,.I (w64 (p+1))),(42,.I (w64 (g+1)))]) J 7 ?_))))))
   obtain ⟨u,v,h⟩:=ob h
   exact wc (z86_ct N x1.1 (w64 (p+1)) (w64 (g+1)) _ v) [(0,.sl 2)] [] Q Q Q Q Q Q Q Q (.inl rfl) rfl (wx (zz56 x1.1.N f z_.B x1.1.B [(4,.B 3 0),(6,.S 5),(7,.I g),(8,.I (maxI o (w64 (q-u)))),(20,.I z_.N),(21,.I g),(29,.S 5),(30,.I (f.length:Int)),(31,.I p)]) J 3 (wn (wb (wS J 2 Q (wU (ih21 ((maxI o (w64 (q-u))),(w64 (p+1))) h))))))
  exact wU (ih N ((w64 (0-i)),0) h)
 exact wu [(5,.sl 4)] (ih N (([]:List Int),0) h) Q Q Q Q
theorem repL_eq (l:List UInt8):∀ n:Nat,Go.Lib.repeatL l n=repL l n
 | 0=>rfl
 | n+1=>by show l++Go.Lib.repeatL l n=l++repL l n;rw [repL_eq l n]
theorem z39_ct (N:Nat) (s_:ByteArray) (count_:Int) (r:ByteArray) (h:z39 N s_ count_=some r):Fn Tryz.prog 39 ⟨0,[.c (.s s_),.I count_],[],[],0,.c (.s r),[],[]⟩:=by
 unfold z39 at h
 cases hb:((decide (0≤count_) && decide (count_≤140737488355328)) && decide (s_.size * count_.toNat≤140737488355328)) with
 | false=>rw [hb] at h;cases h
 | true =>
  rw [hb] at h
  simp only [cond_true,Option.some.injEq] at h
  subst h
  simp only [Bool.and_eq_true,decide_eq_true_eq] at hb
  obtain ⟨⟨h1,h2⟩,h3⟩:=hb
  obtain ⟨c,rfl⟩:=Int.eq_ofNat_of_zero_le h1
  have:=repeat_fn s_ c (by omega) h3
  rw [repL_eq] at this
  exact this
theorem z93_ct (N:Nat) (s_:(List T5)) (r:(List T5)) (h:z93 N s_=some r) :
 Fn Tryz.prog 93 ⟨1,[.S 0],[(0,.sl rR5 s_)],[],2,.S 1,[],[(1,.own rR5 r true)]⟩:=by
 refine wF func93 Q Q (fun E F w=>?_)
 unfold z93 at h
 refine wR J 1 Q (wq (wq (wg (ws J 1 Q (WPr.nilc (el:=46) false (Or.inl rfl) Q Q Q Q (by kernel_rfl) Q Q Q ?_)))))
 intro nb hnb
 cases nb
 ·refine wx ⟨[(0,.S 0),(2,.c .nil),(4,.O false)],[],[(0,.sl rR5 s_)],1⟩ J 0 (wn (wf Q Q (wi (wq (wg (WPr.bs (cs:=[]) oO5 J ([]:List T5) Q Q Q Q Q Q (by kernel_rfl) (by exact rfl) rfl (ws J 1 Q ?_)))))))
  obtain ⟨x1,d,h⟩:=ob h
  refine WPr.app J d (by exact (srcI rfl)) Q Q Q Q Q Q Q Q Q Q (wx ⟨[(2,.S 2)],[(2,.own rR5 x1 true)],[(0,.sl rR5 s_)],3⟩ J 1 (wn ?_))
  cases h
  exact we J func93 [(1,.sl 2)] Q Q Q Q
 ·obtain rfl:=hnb rfl
  replace h:(some ([]:List T5):Option (List T5))=some r:=h
  refine wx ⟨[(0,.S 0),(2,.c .nil),(4,.O true)],[],[(0,.sl rR5 ([]:List T5))],1⟩ J 0 (wn (wt Q Q (wR J 1 Q ?_)))
  cases h
  exact we J func93 [(1,.nil)] Q Q Q Q
theorem z40_ct (N:Nat) (d_:T0) (values_:(List T5)) (known_:(List T5)) (r:(List T5)) (h:z40 N d_ values_ known_=some r) :
 Fn Tryz.prog 40 ⟨5,[.a (cC0 0 1 2 d_),.S 3,.S 4],(vV0 0 1 2 d_ [(3,.sl rR5 values_),(4,.sl rR5 known_)]),[],6,.S 5,[],[(5,.own rR5 r true)]⟩:=by
 refine wF func40 Q Q (fun E F w=>?_)
 unfold z40 at h
 refine wR J 2 Q (wq (wg (xw [1,2] ⟨[(1,.S 3),(3,.B 5 0),(6,.c .nil),(8,.S 4)],[(5,.box (cC0 0 1 2 d_) 44)],(vV0 0 1 2 d_ [(3,.sl rR5 values_),(4,.sl rR5 known_)]),6⟩ J 1 ?_)))
 obtain ⟨x1,d,h⟩:=ob h
 refine wc (z93_ct N known_ _ d) [(0,.sl 4)] [] Q Q Q Q Q Q Q Q (.inl rfl) rfl (wx ⟨[(1,.S 3),(3,.B 5 0),(6,.c .nil),(7,.S 6)],[(5,.box (cC0 0 1 2 d_) 44),(6,.own rR5 x1 true)],(vV0 0 1 2 d_ [(3,.sl rR5 values_),(4,.sl rR5 known_)]),7⟩ J 1 (wn (wq (wg (xw [3,4,5] ⟨[(1,.S 3),(6,.c .nil),(7,.S 6),(10,.S 6),(12,.I d_.First)],[(6,.own rR5 x1 true)],(vV0 0 1 2 d_ [(3,.sl rR5 values_),(4,.sl rR5 known_)]),7⟩ J 3 ?_)))))
 obtain ⟨x2,e,h⟩:=ob h
 refine WPr.vw J (l:=some (.i64,d_.First)) (h:=none) e Q Q Q Q Q Q Q Q Q Q (ws J 1 Q ?_)
 obtain ⟨x3,f,h⟩:=ob h
 refine WPr.cp J f (by exact (srcI rfl)) Q Q Q Q Q (Or.inl rfl) Q Q Q Q (wx ⟨[(6,.c .nil),(7,.S 6)],[(6,.own rR5 x3.1 true)],(vV0 0 1 2 d_ [(3,.sl rR5 values_),(4,.sl rR5 known_)]),8⟩ J 0 (wn (wR J 2 Q ?_)))
 cases h
 exact we J func40 [(5,.sl 6)] Q Q Q Q
theorem z41_ct (N:Nat) (d_:T0) (l_:(List T5)) (r:(List T5)) (h:z41 N d_ l_=some r) :
 Fn Tryz.prog 41 ⟨4,[.a (cC0 0 1 2 d_),.S 3],(vV0 0 1 2 d_ []),[(3,.own rR5 l_ false)],4,.t [],[],[(3,.own rR5 r false)]⟩:=by
 refine wF func41 Q Q (fun E F w=>?_)
 unfold z41 at h
 refine wR J 1 Q (wq (wg (xw [2,3] ⟨[(1,.S 3),(2,.B 4 0),(13,.I (l_.length:Int))],[(3,.own rR5 l_ false),(4,.box (cC0 0 1 2 d_) 44)],(vV0 0 1 2 d_ []),5⟩ J 2 ?_)))
 obtain ⟨x1,d,h⟩:=ob h
 refine WPr.mk oB J false d Q Q Q Q Q Q Q Q (by exact an Q Q) rfl (ws J 1 Q (wn (wq (wV (zz11 l_ d_ x1 [(1,.S 3),(2,.B 4 0),(4,.S 5),(16,.I (l_.length:Int)),(17,.I 0)]) J 3 ?_))))
 refine wC (σ:=(List Bool)) (fun st=>(zz11 l_ d_ st [(1,.S 3),(2,.B 4 0),(4,.S 5)])) (fun st=>z41_k8 N d_ l_ st=some r) ?_ (fun j1=>?_)
 ·intro e h
  replace h:z41_k8 N d_ l_ e=some r:=h
  unfold z41_k8 at h
  refine wR J 1 Q ?_
  refine wC (σ:=(List T5)) (fun st=>⟨[],[(3,.own rR5 st false)],(vV0 0 1 2 d_ []),6⟩) (fun st=>z41_k1 st=some r) ?_ (fun j3=>?_)
  ·intro f h
   replace h:z41_k1 f=some r:=h
   unfold z41_k1 at h
   cases h
   exact WP.fin J func41 [] Q Q Q Q
  refine wo ?_
  refine wI (σ:=(List T5) × (List Bool) × Bool) (fun st=>(zz11 st.1 d_ st.2.1 [(1,.S 3),(2,.B 4 0),(4,.S 5),(6,.O st.2.2)])) (fun n st=>z41_l2 N d_ n st.1 st.2.1 st.2.2) (r:=r) (fun _=>rfl) ?_ (fun ih=>?_)
  ·intro n73 ih176
   rintro ⟨g,j,k⟩ h
   replace h:z41_l2 N d_ (n73+1) g j k=some r:=h
   unfold z41_l2 at h
   refine wq (wR J 1 Q ?_)
   obtain ⟨K,h⟩|⟨K,h⟩:=oc' h
   ·exact wf K Q (wz rfl (wU (j3 g h)))
   refine wt K Q (wi (wo (wR J 1 Q (wV (zz11 g d_ j [(1,.S 3),(2,.B 4 0),(4,.S 5),(6,.O false),(49,.S 2),(50,.I (d_.Guard.Equals.length:Int)),(51,.I 0)]) J 5 ?_))))
   refine wC (σ:=(List T5) × (List Bool) × Bool) (fun st=>(zz11 st.1 d_ st.2.1 [(1,.S 3),(2,.B 4 0),(4,.S 5),(6,.O st.2.2)])) (fun st=>z41_k3 (z41_l2 N d_ n73) st.1 st.2.1 st.2.2=some r) ?_ (fun j291=>?_)
   ·rintro ⟨l,m,o⟩ h
    replace h:z41_k3 (z41_l2 N d_ n73) l m o=some r:=h
    unfold z41_k3 at h
    exact wb (wU (ih176 (l,m,o) h))
   refine wo ?_
   refine wI (σ:=(List T5) × (List Bool) × Bool × Int) (fun st=>(zz11 st.1 d_ st.2.1 [(1,.S 3),(2,.B 4 0),(4,.S 5),(6,.O st.2.2.1),(49,.S 2),(50,.I (d_.Guard.Equals.length:Int)),(51,.I st.2.2.2)])) (fun n st=>z41_l4 N d_ (z41_l2 N d_ n73) n st.1 st.2.1 st.2.2.1 st.2.2.2) (r:=r) (fun _=>rfl) ?_ (fun ih=>?_)
   ·intro n85 ih320
    rintro ⟨p,q,u,v⟩ h
    replace h:z41_l4 N d_ (z41_l2 N d_ n73) (n85+1) p q u v=some r:=h
    unfold z41_l4 at h
    refine wR J 1 Q (wq ?_)
    obtain ⟨K,h⟩|⟨K,h⟩:=oc' h
    ·exact wf K Q (wz rfl (wU (j291 (p,q,u) h)))
    refine wt K Q (wi (wq (wo (wq (wg ?_)))))
    obtain ⟨x,y,h⟩:=ob h
    refine wj (oP (oI .i64) (oI .i64)) J y Q Q Q Q Q Q Q Q Q (wx (zz32 p d_ q x.1 x.2 [(1,.S 3),(2,.B 4 0),(4,.S 5),(6,.O u),(8,.B 7 0),(49,.S 2),(50,.I (d_.Guard.Equals.length:Int)),(51,.I v)]) J 3 (wn (wR J 2 Q ?_)))
    refine wC (σ:=(List T5) × (List Bool) × Bool) (fun st=>(zz57 st.1 d_ st.2.1 [(1,.S 3),(2,.B 4 0),(4,.S 5),(6,.O st.2.2),(49,.S 2),(50,.I (d_.Guard.Equals.length:Int)),(51,.I v)])) (fun st=>z41_k5 v (z41_l4 N d_ (z41_l2 N d_ n73) n85) st.1 st.2.1 st.2.2=some r) ?_ (fun j339=>?_)
    ·rintro ⟨z,A,C⟩ h
     replace h:z41_k5 v (z41_l4 N d_ (z41_l2 N d_ n73) n85) z A C=some r:=h
     unfold z41_k5 at h
     exact wb (wS J 2 Q (wU (ih320 (z,A,C,(w64 (v+1))) h)))
    refine wo ?_
    refine wI (σ:=(List T5) × (List Bool) × Bool × Int) (fun st=>(zz32 st.1 d_ st.2.1 x.1 x.2 [(1,.S 3),(2,.B 4 0),(4,.S 5),(6,.O st.2.2.1),(8,.B 7 0),(49,.S 2),(50,.I (d_.Guard.Equals.length:Int)),(51,.I v),(55,.a [.I x.1,.I x.2]),(56,.I st.2.2.2)])) (fun n st=>z41_l6 v (z41_l4 N d_ (z41_l2 N d_ n73) n85) x n st.1 st.2.1 st.2.2.1 st.2.2.2) (r:=r) (fun _=>rfl) ?_ (fun ih=>?_)
    ·intro n87 ih344
     rintro ⟨D,G,H,R⟩ h
     replace h:z41_l6 v (z41_l4 N d_ (z41_l2 N d_ n73) n85) x (n87+1) D G H R=some r:=h
     unfold z41_l6 at h
     refine wR J 1 Q (wq ?_)
     obtain ⟨K,h⟩|⟨K,h⟩:=oc' h
     ·exact wf K Q (wz rfl (wU (j339 (D,G,H) h)))
     refine wt K Q (wi (wq (wo (wq (wg (ws J 1 Q ?_))))))
     obtain ⟨T,U,h⟩:=ob h
     refine WPr.ax (len:=2) (el:=3) (SC.i .i64) ([x.1,x.2]:List Int) U Q Q Q Q (by kernel_rfl) (by kernel_rfl) (by kernel_rfl) (by kernel_rfl) Q Q Q Q (wx (zz32 D d_ G x.1 x.2 [(1,.S 3),(2,.B 4 0),(4,.S 5),(6,.O H),(8,.B 7 0),(9,.I R),(10,.I T),(49,.S 2),(50,.I (d_.Guard.Equals.length:Int)),(51,.I v),(55,.a [.I x.1,.I x.2]),(56,.I R)]) J 2 (wn (wq (wg (ws J 2 Q ?_)))))
     refine WP.cutr (σ:=Int) (fun st=>(zz32 D d_ G x.1 x.2 [(1,.S 3),(2,.B 4 0),(4,.S 5),(6,.O H),(8,.B 7 0),(10,.I T),(11,.I st),(49,.S 2),(50,.I (d_.Guard.Equals.length:Int)),(51,.I v),(55,.a [.I x.1,.I x.2]),(56,.I R)])) (fun st=>z41_k7 D G H R (z41_l6 v (z41_l4 N d_ (z41_l2 N d_ n73) n85) x n87) T st=some r) ?_ (fun j347=>?_)
     ·intro X h
      replace h:z41_k7 D G H R (z41_l6 v (z41_l4 N d_ (z41_l2 N d_ n73) n85) x n87) T X=some r:=h
      unfold z41_k7 at h
      refine wq (wg (ws J 2 Q ?_))
      obtain ⟨Y,Z,h⟩:=ob h
      refine wX J Z Q Q Q Q Q Q Q Q Q (xw (rg 3 8) ⟨[(1,.S 3),(2,.B 4 0),(4,.S 5),(6,.O H),(8,.B 7 0),(10,.I T),(11,.I X),(49,.S 2),(50,.I (d_.Guard.Equals.length:Int)),(51,.I v),(55,.a [.I x.1,.I x.2]),(56,.I R),(66,.P 8 0)],[(3,.own rR5 D false),(4,.box (cC0 0 1 2 d_) 44),(5,.own rB G true),(7,.box [.I x.1,.I x.2] 49)],(vV0 0 1 2 d_ [(8,.el 5 ((X).toNat * (rB).sz))]),9⟩ J 0 (wd oB J Z Q Q Q Q Q Q Q Q Q Q (ws J 1 Q ?_)))
      obtain ⟨K,h⟩|⟨K,h⟩:=oc' h
      ·exact wy 68 K Q (wx (zz67 D d_ G x.1 x.2 [(1,.S 3),(2,.B 4 0),(4,.S 5),(6,.O H),(8,.B 7 0),(10,.I T),(11,.I X),(49,.S 2),(50,.I (d_.Guard.Equals.length:Int)),(51,.I v),(55,.a [.I x.1,.I x.2]),(56,.I R),(74,.O false)]) J 6 (wn (wf Q Q (wi (wb (wS J 2 Q (wU (ih344 (D,G,H,(w64 (R+1))) h))))))))
      refine wy 68 K Q (xw [7,8,9,10] (zz67 D d_ G x.1 x.2 [(1,.S 3),(2,.B 4 0),(4,.S 5),(6,.O H),(8,.B 7 0),(10,.I T),(11,.I X),(49,.S 2),(50,.I (d_.Guard.Equals.length:Int)),(51,.I v),(55,.a [.I x.1,.I x.2]),(56,.I R),(68,.O true),(69,.S 5),(70,.I T)]) J 2 ?_)
      obtain ⟨a0,b0,h⟩:=ob h
      refine wX J b0 Q Q Q Q Q Q Q Q Q (wd oB J b0 Q Q Q Q Q Q Q Q Q Q (wx (zz68 D d_ G x.1 x.2 [(1,.S 3),(2,.B 4 0),(4,.S 5),(6,.O H),(8,.B 7 0),(10,.I T),(11,.I X),(49,.S 2),(50,.I (d_.Guard.Equals.length:Int)),(51,.I v),(55,.a [.I x.1,.I x.2]),(56,.I R),(74,.O (!a0))]) J 2 (wn ?_)))
      obtain ⟨K,h⟩|⟨K,h⟩:=oc' h
      ·exact wf K Q (wi (wb (wS J 2 Q (wU (ih344 (D,G,H,(w64 (R+1))) h)))))
      refine wt K Q (wg (xw (rg 6 9) (zz68 D d_ G x.1 x.2 [(1,.S 3),(2,.B 4 0),(4,.S 5),(8,.B 7 0),(49,.S 2),(50,.I (d_.Guard.Equals.length:Int)),(51,.I v),(55,.a [.I x.1,.I x.2]),(56,.I R),(75,.S 3),(76,.I T),(77,.S 5),(78,.I T),(79,.S 3),(80,.I X)]) J 6 ?_))
      obtain ⟨c0,d0,h⟩:=ob h
      refine wX J d0 Q Q Q Q Q Q Q Q Q (ws J 1 Q (wd oO5 J d0 Q Q Q Q Q Q Q Q Q Q (xw (rg 9 6) ⟨[(1,.S 3),(2,.B 4 0),(4,.S 5),(8,.B 7 0),(49,.S 2),(50,.I (d_.Guard.Equals.length:Int)),(51,.I v),(55,.a [.I x.1,.I x.2]),(56,.I R),(75,.S 3),(76,.I T),(77,.S 5),(78,.I T),(83,.c (.s c0.S))],[(3,.own rR5 D false),(4,.box (cC0 0 1 2 d_) 44),(5,.own rB G true),(7,.box [.I x.1,.I x.2] 49)],(vV0 0 1 2 d_ []),11⟩ J 0 ?_)))
      obtain ⟨e0,f0,h⟩:=ob h
      refine wX J f0 Q Q Q Q Q Q Q Q Q (ws J 1 Q (WPr.sto oO5 J (⟨e0.Kind,e0.N,c0.S⟩:T5) f0 Q Q Q Q Q Q Q Q Q Q (by exact (an rfl (an Q Q))) rfl (xw [12,13,14] ⟨[(1,.S 3),(2,.B 4 0),(4,.S 5),(8,.B 7 0),(49,.S 2),(50,.I (d_.Guard.Equals.length:Int)),(51,.I v),(55,.a [.I x.1,.I x.2]),(56,.I R),(77,.S 5),(78,.I T)],[(3,.own rR5 (setL' D T (⟨e0.Kind,e0.N,c0.S⟩:T5)) false),(4,.box (cC0 0 1 2 d_) 44),(5,.own rB G true),(7,.box [.I x.1,.I x.2] 49)],(vV0 0 1 2 d_ []),12⟩ J 0 ?_)))
      obtain ⟨g0,i0,h⟩:=ob h
      exact wX J i0 Q Q Q Q Q Q Q Q Q (WPr.sto oB J true i0 Q Q Q Q Q Q Q Q Q Q (by exact rfl) rfl (wx ⟨[(1,.S 3),(2,.B 4 0),(4,.S 5),(6,.O true),(8,.B 7 0),(49,.S 2),(50,.I (d_.Guard.Equals.length:Int)),(51,.I v),(55,.a [.I x.1,.I x.2]),(56,.I R)],[(3,.own rR5 (setL' D T (⟨e0.Kind,e0.N,c0.S⟩:T5)) false),(4,.box (cC0 0 1 2 d_) 44),(5,.own rB (setL' G T true) true),(7,.box [.I x.1,.I x.2] 49)],(vV0 0 1 2 d_ []),13⟩ J 1 (wn (wb (wS J 2 Q (wU (ih344 ((setL' D T (⟨e0.Kind,e0.N,c0.S⟩:T5)),(setL' G T true),true,(w64 (R+1))) h)))))))
     obtain ⟨K,h⟩|⟨K,h⟩:=oc h
     ·exact WPr.axb (len:=2) (el:=3) (es:=1) 0 (by exact eq_of_beq K) Q Q Q Q (by kernel_rfl) (by kernel_rfl) Q Q Q Q (wx (zz32 D d_ G x.1 x.2 [(1,.S 3),(2,.B 4 0),(4,.S 5),(6,.O H),(8,.B 7 0),(10,.I T),(11,.I x.1),(49,.S 2),(50,.I (d_.Guard.Equals.length:Int)),(51,.I v),(55,.a [.I x.1,.I x.2]),(56,.I R)]) J 2 (wn (wU (j347 x.1 h))))
     obtain ⟨K,h⟩|⟨K,h⟩:=oc h
     ·exact WPr.axb (len:=2) (el:=3) (es:=1) 1 (by exact eq_of_beq K) Q Q Q Q (by kernel_rfl) (by kernel_rfl) Q Q Q Q (wx (zz32 D d_ G x.1 x.2 [(1,.S 3),(2,.B 4 0),(4,.S 5),(6,.O H),(8,.B 7 0),(10,.I T),(11,.I x.2),(49,.S 2),(50,.I (d_.Guard.Equals.length:Int)),(51,.I v),(55,.a [.I x.1,.I x.2]),(56,.I R)]) J 2 (wn (wU (j347 x.2 h))))
     cases h
    exact wU (ih N (p,q,u,0) h)
   exact wU (ih N (g,j,false,0) h)
  exact wU (ih N (l_,e,true) h)
 refine wo ?_
 refine wI (σ:=(List Bool) × Int) (fun st=>(zz11 l_ d_ st.1 [(1,.S 3),(2,.B 4 0),(4,.S 5),(16,.I (l_.length:Int)),(17,.I st.2)])) (fun n st=>z41_l9 N d_ l_ n st.1 st.2) (r:=r) (fun _=>rfl) ?_ (fun ih=>?_)
 ·intro n88 ih348
  rintro ⟨j0,k0⟩ h
  replace h:z41_l9 N d_ l_ (n88+1) j0 k0=some r:=h
  unfold z41_l9 at h
  refine wR J 1 Q (wq ?_)
  obtain ⟨K,h⟩|⟨K,h⟩:=oc' h
  ·exact wf K Q (wz rfl (wU (j1 j0 h)))
  refine wt K Q (wi (wq (wo (wV (zz11 l_ d_ j0 [(1,.S 3),(2,.B 4 0),(4,.S 5),(5,.I k0),(16,.I (l_.length:Int)),(17,.I k0)]) J 2 (wg (xw (rg 7 19) (zz11 l_ d_ j0 [(1,.S 3),(2,.B 4 0),(4,.S 5),(5,.I k0),(16,.I (l_.length:Int)),(17,.I k0),(20,.S 5),(21,.I k0),(26,.O (decide (k0 < d_.First)))]) J 7 ?_))))))
  obtain ⟨K,h⟩|⟨K,h⟩:=oc h
  ·refine wy 26 K Q (xw (rg 19 7) (zz11 l_ d_ j0 [(1,.S 3),(2,.B 4 0),(4,.S 5),(16,.I (l_.length:Int)),(17,.I k0),(20,.S 5),(21,.I k0),(36,.O true),(37,.S 3),(38,.I k0)]) J 12 ?_)
   obtain ⟨l0,m0,h⟩:=ob h
   refine wX J m0 Q Q Q Q Q Q Q Q Q (ws J 1 Q (wd oO5 J m0 Q Q Q Q Q Q Q Q Q Q (xw [24,25] (zz58 l_ d_ j0 [(1,.S 3),(2,.B 4 0),(4,.S 5),(16,.I (l_.length:Int)),(17,.I k0),(20,.S 5),(21,.I k0),(43,.O (l0.Kind != 0))]) J 2 ?_)))
   obtain ⟨o0,p0,h⟩:=ob h
   exact wX J p0 Q Q Q Q Q Q Q Q Q (WPr.sto oB J (l0.Kind != 0) p0 Q Q Q Q Q Q Q Q Q Q (by exact rfl) rfl (wn (wb (wT (zz57 l_ d_ (setL' j0 k0 (l0.Kind != 0)) [(1,.S 3),(2,.B 4 0),(4,.S 5),(16,.I (l_.length:Int)),(17,.I (w64 (k0+1)))]) J 2 (wU (ih348 ((setL' j0 k0 (l0.Kind != 0)),(w64 (k0+1))) h))))))
  refine wy 26 K Q (xw (rg 17 9) (zz11 l_ d_ j0 [(1,.S 3),(2,.B 4 0),(4,.S 5),(5,.I k0),(16,.I (l_.length:Int)),(17,.I k0),(20,.S 5),(21,.I k0),(36,.O (decide (k0≥(w64 (d_.First+(d_.Fields.length:Int))))))]) J 10 ?_)
  obtain ⟨K,h⟩|⟨K,h⟩:=oc' h
  ·refine wy 36 K Q (xw [24,25] (zz11 l_ d_ j0 [(1,.S 3),(2,.B 4 0),(4,.S 5),(16,.I (l_.length:Int)),(17,.I k0),(20,.S 5),(21,.I k0),(43,.O false)]) J 7 ?_)
   obtain ⟨q0,s0,h⟩:=ob h
   exact wX J s0 Q Q Q Q Q Q Q Q Q (WPr.sto oB J false s0 Q Q Q Q Q Q Q Q Q Q (by exact rfl) rfl (wn (wb (wT (zz58 l_ d_ (setL' j0 k0 false) [(1,.S 3),(2,.B 4 0),(4,.S 5),(16,.I (l_.length:Int)),(17,.I (w64 (k0+1)))]) J 2 (wU (ih348 ((setL' j0 k0 false),(w64 (k0+1))) h))))))
  refine wy 36 K Q (ws J 2 Q ?_)
  obtain ⟨t0,u0,h⟩:=ob h
  refine wX J u0 Q Q Q Q Q Q Q Q Q (xw [21,22,23,24,25] ⟨[(1,.S 3),(2,.B 4 0),(4,.S 5),(16,.I (l_.length:Int)),(17,.I k0),(20,.S 5),(21,.I k0),(36,.O true),(40,.P 6 0)],[(3,.own rR5 l_ false),(4,.box (cC0 0 1 2 d_) 44),(5,.own rB j0 true)],(vV0 0 1 2 d_ [(6,.el 3 ((k0).toNat * (rR5).sz))]),7⟩ J 1 (wd oO5 J u0 Q Q Q Q Q Q Q Q Q Q (xw [24,25] (zz58 l_ d_ j0 [(1,.S 3),(2,.B 4 0),(4,.S 5),(16,.I (l_.length:Int)),(17,.I k0),(20,.S 5),(21,.I k0),(43,.O (t0.Kind != 0))]) J 2 ?_)))
  obtain ⟨v0,x0,h⟩:=ob h
  exact wX J x0 Q Q Q Q Q Q Q Q Q (WPr.sto oB J (t0.Kind != 0) x0 Q Q Q Q Q Q Q Q Q Q (by exact rfl) rfl (wn (wb (wT (zz57 l_ d_ (setL' j0 k0 (t0.Kind != 0)) [(1,.S 3),(2,.B 4 0),(4,.S 5),(16,.I (l_.length:Int)),(17,.I (w64 (k0+1)))]) J 2 (wU (ih348 ((setL' j0 k0 (t0.Kind != 0)),(w64 (k0+1))) h))))))
 exact wU (ih N (x1,0) h)
theorem z42_ct (N:Nat) (g_:T3) (l_:(List T5)) (r:Bool) (h:z42 N g_ l_=some r) :
 Fn Tryz.prog 42 ⟨3,[.a [.sl 0,.sl 1],.S 2],[(0,.sl rR1 g_.Diffs),(1,.sl (rP (rI .i64) (rI .i64)) g_.Equals),(2,.sl rR5 l_)],[],3,.O r,[],[]⟩:=by
 refine wF func42 Q Q (fun E F w=>?_)
 unfold z42 at h
 refine wR J 2 Q (wq (wV (zz59 g_.Diffs g_.Equals l_ [(1,.S 2),(2,.B 3 0),(4,.O false),(13,.S 0),(14,.I (g_.Diffs.length:Int)),(15,.I 0)]) J 4 ?_))
 refine wC (σ:=Unit) (fun st=>(zz59 g_.Diffs g_.Equals l_ [(1,.S 2),(2,.B 3 0)])) (fun st=>z42_k3 N g_ l_=some r) ?_ (fun j1=>?_)
 ·intro _ h
  replace h:z42_k3 N g_ l_=some r:=h
  unfold z42_k3 at h
  refine wq (wV (zz60 g_.Diffs g_.Equals l_ [(1,.S 2),(55,.S 1),(56,.I (g_.Equals.length:Int)),(57,.I 0)]) J 4 ?_)
  refine wC (σ:=Unit) (fun st=>(zz60 g_.Diffs g_.Equals l_ [])) (fun st=>z42_k1=some r) ?_ (fun j12=>?_)
  ·intro _ h
   replace h:z42_k1=some r:=h
   unfold z42_k1 at h
   refine wR J 1 Q ?_
   cases h
   exact we J func42 [] Q Q Q Q
  refine wo ?_
  refine wI (σ:=Int) (fun st=>(zz60 g_.Diffs g_.Equals l_ [(1,.S 2),(55,.S 1),(56,.I (g_.Equals.length:Int)),(57,.I st)])) (fun n st=>z42_l2 g_ l_ n st) (r:=r) (fun _=>rfl) ?_ (fun ih=>?_)
  ·intro n9 ih14
   intro d h
   replace h:z42_l2 g_ l_ (n9+1) d=some r:=h
   unfold z42_l2 at h
   refine wR J 1 Q (wq ?_)
   obtain ⟨K,h⟩|⟨K,h⟩:=oc' h
   ·exact wf K Q (wz rfl (wU (j12 () h)))
   refine wt K Q (wi (wq (wo (wq (wg ?_)))))
   obtain ⟨e,f,h⟩:=ob h
   refine wj (oP (oI .i64) (oI .i64)) J f Q Q Q Q Q Q Q Q Q (wx ⟨[(1,.S 2),(11,.B 5 0),(55,.S 1),(56,.I (g_.Equals.length:Int)),(57,.I d)],[(5,.box [.I e.1,.I e.2] 49)],[(0,.sl rR1 g_.Diffs),(1,.sl (rP (rI .i64) (rI .i64)) g_.Equals),(2,.sl rR5 l_)],6⟩ J 3 (wn (wq (wN (fun A9 g j=>?_)))))
   have l:A9 0 ⟨[(1,.S 2)],[(2,.sl rR5 l_)],[],[],6,[(61,.S 2)],[],[],6⟩:=g _ _ (wL J)
   have m:A9 1 ⟨[(11,.B 5 0)],[],[],[(5,.box [.I e.1,.I e.2] 49)],6,[(62,.B 5 0)],[],[],6⟩:=g _ _ (wO Q Q Q (fun _ _ _ _ _ _ _ k=>WPr.axb (len:=2) (el:=3) (es:=1) 0 Q Q Q Q Q (by kernel_rfl) (by kernel_rfl) Q Q Q Q (k)) rfl)
   have o:A9 2 ⟨[(62,.B 5 0)],[],[],[(5,.box [.I e.1,.I e.2] 49)],6,[(63,.I e.1)],[],[],6⟩:=g _ _ (wL J)
   obtain ⟨p,q,h⟩:=ob h
   have v:A9 3 ⟨[(61,.S 2),(63,.I e.1)],[(2,.sl rR5 l_)],[],[],6,[(64,.P 6 0)],[(6,.pl (cC5 p))],[],7⟩:=g _ _ (wO Q Q Q (fun _ _ _ _ _ _ _ k=>wj oO5 J q Q Q Q Q Q Q Q Q Q (k)) rfl)
   have x:A9 4 ⟨[(64,.P 6 0)],[(6,.pl (cC5 p))],[],[],7,[(65,.P 6 0)],[],[],7⟩:=g _ _ (wL J)
   have y:A9 5 ⟨[(65,.P 6 0)],[(6,.pl (cC5 p))],[],[],7,[(66,.I p.Kind)],[],[],7⟩:=g _ _ (wL J)
   have z:A9 6 (zz1 [(66,.I p.Kind)] [(67,.O (p.Kind==0))]):=g _ _ (wL J)
   have A:A9 7 (zz1 [(67,.O (p.Kind==0))] [(68,.O (p.Kind==0))]):=g _ _ (wL J)
   obtain ⟨K,h⟩|⟨K,h⟩:=oc h
   ·have D:=g _ _ (LS.kb K Q (j _ _ A))
    have G:A9 8 (zz1 [(68,.O true)] [(69,.u)]):=g _ _ (LS.skip Q Q Q (.inr ⟨_,rfl,rfl⟩) Q Q)
    have H:A9 9 (zz1 [(68,.O true)] [(70,.u)]):=g _ _ (LS.skip Q Q Q (.inr ⟨_,rfl,rfl⟩) Q Q)
    have R:A9 10 (zz1 [(68,.O true)] [(71,.u)]):=g _ _ (LS.skip Q Q Q (.inr ⟨_,rfl,rfl⟩) Q Q)
    have T:A9 11 (zz1 [(68,.O true)] [(72,.u)]):=g _ _ (LS.skip Q Q Q (.inr ⟨_,rfl,rfl⟩) Q Q)
    have U:A9 12 (zz1 [(68,.O true)] [(73,.u)]):=g _ _ (LS.skip Q Q Q (.inr ⟨_,rfl,rfl⟩) Q Q)
    have Z:A9 13 (zz1 [(68,.O true)] [(74,.u)]):=g _ _ (LS.skip Q Q Q (.inr ⟨_,rfl,rfl⟩) Q Q)
    have a0:A9 14 (zz1 [(68,.O true)] [(75,.u)]):=g _ _ (LS.skip Q Q Q (.inr ⟨_,rfl,rfl⟩) Q Q)
    have b0:A9 15 (zz1 [(68,.O true),(75,.u)] [(76,.O true)]):=g _ _ (wL J)
    have c0:A9 16 (zz1 [(76,.O true)] [(77,.O true)]):=g _ _ (wL J)
    have d0:A9 17 (zz1 [(77,.O true)] [(78,.u)]):=g _ _ (LS.skip Q Q Q (.inr ⟨_,rfl,rfl⟩) Q Q)
    have e0:A9 18 (zz1 [(77,.O true)] [(79,.u)]):=g _ _ (LS.skip Q Q Q (.inr ⟨_,rfl,rfl⟩) Q Q)
    have f0:A9 19 (zz1 [(77,.O true)] [(80,.u)]):=g _ _ (LS.skip Q Q Q (.inr ⟨_,rfl,rfl⟩) Q Q)
    have g0:A9 20 (zz1 [(77,.O true)] [(81,.u)]):=g _ _ (LS.skip Q Q Q (.inr ⟨_,rfl,rfl⟩) Q Q)
    have i0:A9 21 (zz1 [(77,.O true)] [(82,.u)]):=g _ _ (LS.skip Q Q Q (.inr ⟨_,rfl,rfl⟩) Q Q)
    have j0:A9 22 (zz1 [(77,.O true)] [(83,.u)]):=g _ _ (LS.skip Q Q Q (.inr ⟨_,rfl,rfl⟩) Q Q)
    have k0:A9 23 (zz1 [(77,.O true)] [(84,.u)]):=g _ _ (LS.skip Q Q Q (.inr ⟨_,rfl,rfl⟩) Q Q)
    have l0:A9 24 (zz1 [(77,.O true)] [(85,.u)]):=g _ _ (LS.skip Q Q Q (.inr ⟨_,rfl,rfl⟩) Q Q)
    have m0:A9 25 (zz1 [(77,.O true)] [(86,.u)]):=g _ _ (LS.skip Q Q Q (.inr ⟨_,rfl,rfl⟩) Q Q)
    have o0:A9 26 (zz1 [(77,.O true)] [(87,.u)]):=g _ _ (LS.skip Q Q Q (.inr ⟨_,rfl,rfl⟩) Q Q)
    have p0:A9 27 (zz1 [(77,.O true)] [(88,.u)]):=g _ _ (LS.skip Q Q Q (.inr ⟨_,rfl,rfl⟩) Q Q)
    have q0:A9 28 (zz1 [(77,.O true)] [(89,.u)]):=g _ _ (LS.skip Q Q Q (.inr ⟨_,rfl,rfl⟩) Q Q)
    have s0:A9 29 (zz1 [(77,.O true)] [(90,.u)]):=g _ _ (LS.skip Q Q Q (.inr ⟨_,rfl,rfl⟩) Q Q)
    have t0:A9 30 (zz1 [(77,.O true),(90,.u)] [(91,.O true)]):=g _ _ (wL J)
    refine wD (t:=⟨[(1,.S 2),(55,.S 1),(56,.I (g_.Equals.length:Int)),(57,.I d),(91,.O true)],[],[(0,.sl rR1 g_.Diffs),(1,.sl (rP (rI .i64) (rI .i64)) g_.Equals),(2,.sl rR5 l_)],7⟩) [0,0,2,7,15,31,63,127,255,255,767,2047,4095,8191,16383,32767,65535,131071,131071,393215,1048575,2097151,4194303,131071,131071,16908287,58851327,125960191,260177919,536870911,1073741823] (.cons (j _ _ l) (.cons (j _ _ m) (.cons (j _ _ o) (.cons (j _ _ v) (.cons (j _ _ x) (.cons (j _ _ y) (.cons (j _ _ z) (.cons (j _ _ D) (.cons (j _ _ G) (.cons (j _ _ H) (.cons (j _ _ R) (.cons (j _ _ T) (.cons (j _ _ U) (.cons (j _ _ Z) (.cons (j _ _ a0) (.cons (j _ _ b0) (.cons (j _ _ c0) (.cons (j _ _ d0) (.cons (j _ _ e0) (.cons (j _ _ f0) (.cons (j _ _ g0) (.cons (j _ _ i0) (.cons (j _ _ j0) (.cons (j _ _ k0) (.cons (j _ _ l0) (.cons (j _ _ m0) (.cons (j _ _ o0) (.cons (j _ _ p0) (.cons (j _ _ q0) (.cons (j _ _ s0) (.cons (j _ _ t0) .nil))))))))))))))))))))))))))))))) (by kernel_rfl) (by kernel_rfl) (by kernel_rfl) (by kernel_rfl) (wt Q Q (wR J 1 Q ?_))
    cases h
    exact we J func42 [] Q Q Q Q
   have u0:=g _ _ (LS.kb K Q (j _ _ A))
   have v0:A9 8 ⟨[(1,.S 2),(68,.O false)],[(2,.sl rR5 l_)],[],[],7,[(69,.S 2)],[],[],7⟩:=g _ _ (wL J)
   have x0:A9 9 ⟨[(11,.B 5 0),(68,.O false)],[],[],[(5,.box [.I e.1,.I e.2] 49)],7,[(70,.B 5 1)],[],[],7⟩:=g _ _ (wO Q Q Q (fun _ _ _ _ _ _ _ k=>WPr.axb (len:=2) (el:=3) (es:=1) 1 Q Q Q Q Q (by kernel_rfl) (by kernel_rfl) Q Q Q Q (k)) rfl)
   have y0:A9 10 ⟨[(68,.O false),(70,.B 5 1)],[],[],[(5,.box [.I e.1,.I e.2] 49)],7,[(71,.I e.2)],[],[],7⟩:=g _ _ (wL J)
   obtain ⟨z0,A0,h⟩:=ob h
   have B0:A9 11 ⟨[(68,.O false),(69,.S 2),(71,.I e.2)],[(2,.sl rR5 l_)],[],[],7,[(72,.P 7 0)],[(7,.pl (cC5 z0))],[],8⟩:=g _ _ (wO Q Q Q (fun _ _ _ _ _ _ _ k=>wj oO5 J A0 Q Q Q Q Q Q Q Q Q (k)) rfl)
   have C0:A9 12 ⟨[(68,.O false),(72,.P 7 0)],[(7,.pl (cC5 z0))],[],[],8,[(73,.P 7 0)],[],[],8⟩:=g _ _ (wL J)
   have D0:A9 13 ⟨[(68,.O false),(73,.P 7 0)],[(7,.pl (cC5 z0))],[],[],8,[(74,.I z0.Kind)],[],[],8⟩:=g _ _ (wL J)
   have G0:A9 14 (zz3 [(68,.O false),(74,.I z0.Kind)] [(75,.O (z0.Kind==0))]):=g _ _ (wL J)
   have H0:A9 15 (zz3 [(68,.O false),(75,.O (z0.Kind==0))] [(76,.O (z0.Kind==0))]):=g _ _ (wL J)
   have I0:A9 16 (zz3 [(76,.O (z0.Kind==0))] [(77,.O (z0.Kind==0))]):=g _ _ (wL J)
   obtain ⟨K,h⟩|⟨K,h⟩:=oc h
   ·have L0:=g _ _ (LS.kb K Q (j _ _ I0))
    have M0:A9 17 (zz3 [(77,.O true)] [(78,.u)]):=g _ _ (LS.skip Q Q Q (.inr ⟨_,rfl,rfl⟩) Q Q)
    have O0:A9 18 (zz3 [(77,.O true)] [(79,.u)]):=g _ _ (LS.skip Q Q Q (.inr ⟨_,rfl,rfl⟩) Q Q)
    have R0:A9 19 (zz3 [(77,.O true)] [(80,.u)]):=g _ _ (LS.skip Q Q Q (.inr ⟨_,rfl,rfl⟩) Q Q)
    have S0:A9 20 (zz3 [(77,.O true)] [(81,.u)]):=g _ _ (LS.skip Q Q Q (.inr ⟨_,rfl,rfl⟩) Q Q)
    have T0:A9 21 (zz3 [(77,.O true)] [(82,.u)]):=g _ _ (LS.skip Q Q Q (.inr ⟨_,rfl,rfl⟩) Q Q)
    have U0:A9 22 (zz3 [(77,.O true)] [(83,.u)]):=g _ _ (LS.skip Q Q Q (.inr ⟨_,rfl,rfl⟩) Q Q)
    have V0:A9 23 (zz3 [(77,.O true)] [(84,.u)]):=g _ _ (LS.skip Q Q Q (.inr ⟨_,rfl,rfl⟩) Q Q)
    have X0:A9 24 (zz3 [(77,.O true)] [(85,.u)]):=g _ _ (LS.skip Q Q Q (.inr ⟨_,rfl,rfl⟩) Q Q)
    have Y0:A9 25 (zz3 [(77,.O true)] [(86,.u)]):=g _ _ (LS.skip Q Q Q (.inr ⟨_,rfl,rfl⟩) Q Q)
    have Z0:A9 26 (zz3 [(77,.O true)] [(87,.u)]):=g _ _ (LS.skip Q Q Q (.inr ⟨_,rfl,rfl⟩) Q Q)
    have a1:A9 27 (zz3 [(77,.O true)] [(88,.u)]):=g _ _ (LS.skip Q Q Q (.inr ⟨_,rfl,rfl⟩) Q Q)
    have b1:A9 28 (zz3 [(77,.O true)] [(89,.u)]):=g _ _ (LS.skip Q Q Q (.inr ⟨_,rfl,rfl⟩) Q Q)
    have c1:A9 29 (zz3 [(77,.O true)] [(90,.u)]):=g _ _ (LS.skip Q Q Q (.inr ⟨_,rfl,rfl⟩) Q Q)
    have d1:A9 30 (zz3 [(77,.O true),(90,.u)] [(91,.O true)]):=g _ _ (wL J)
    refine wD (t:=⟨[(1,.S 2),(55,.S 1),(56,.I (g_.Equals.length:Int)),(57,.I d),(91,.O true)],[],[(0,.sl rR1 g_.Diffs),(1,.sl (rP (rI .i64) (rI .i64)) g_.Equals),(2,.sl rR5 l_)],8⟩) [0,0,2,7,15,31,63,127,255,255,767,2047,4095,8191,16383,32767,65535,131071,131071,393215,1048575,2097151,4194303,131071,131071,16908287,58851327,125960191,260177919,536870911,1073741823] (.cons (j _ _ l) (.cons (j _ _ m) (.cons (j _ _ o) (.cons (j _ _ v) (.cons (j _ _ x) (.cons (j _ _ y) (.cons (j _ _ z) (.cons (j _ _ u0) (.cons (j _ _ v0) (.cons (j _ _ x0) (.cons (j _ _ y0) (.cons (j _ _ B0) (.cons (j _ _ C0) (.cons (j _ _ D0) (.cons (j _ _ G0) (.cons (j _ _ H0) (.cons (j _ _ L0) (.cons (j _ _ M0) (.cons (j _ _ O0) (.cons (j _ _ R0) (.cons (j _ _ S0) (.cons (j _ _ T0) (.cons (j _ _ U0) (.cons (j _ _ V0) (.cons (j _ _ X0) (.cons (j _ _ Y0) (.cons (j _ _ Z0) (.cons (j _ _ a1) (.cons (j _ _ b1) (.cons (j _ _ c1) (.cons (j _ _ d1) .nil))))))))))))))))))))))))))))))) (by kernel_rfl) (by kernel_rfl) (by kernel_rfl) (by kernel_rfl) (wt Q Q (wR J 1 Q ?_))
    cases h
    exact we J func42 [] Q Q Q Q
   have e1:=g _ _ (LS.kb K Q (j _ _ I0))
   have f1:A9 17 ⟨[(1,.S 2),(77,.O false)],[(2,.sl rR5 l_)],[],[],8,[(78,.S 2)],[],[],8⟩:=g _ _ (wL J)
   have g1:A9 18 ⟨[(11,.B 5 0),(77,.O false)],[],[],[(5,.box [.I e.1,.I e.2] 49)],8,[(79,.B 5 0)],[],[],8⟩:=g _ _ (wO Q Q Q (fun _ _ _ _ _ _ _ k=>WPr.axb (len:=2) (el:=3) (es:=1) 0 Q Q Q Q Q (by kernel_rfl) (by kernel_rfl) Q Q Q Q (k)) rfl)
   have i1:A9 19 ⟨[(77,.O false),(79,.B 5 0)],[],[],[(5,.box [.I e.1,.I e.2] 49)],8,[(80,.I e.1)],[],[],8⟩:=g _ _ (wL J)
   obtain ⟨k1,l1,h⟩:=ob h
   have m1:A9 20 ⟨[(77,.O false),(78,.S 2),(80,.I e.1)],[(2,.sl rR5 l_)],[],[],8,[(81,.P 8 0)],[(8,.pl (cC5 k1))],[],9⟩:=g _ _ (wO Q Q Q (fun _ _ _ _ _ _ _ k=>wj oO5 J l1 Q Q Q Q Q Q Q Q Q (k)) rfl)
   have o1:A9 21 ⟨[(77,.O false),(81,.P 8 0)],[(8,.pl (cC5 k1))],[],[],9,[(82,.P 8 2)],[],[],9⟩:=g _ _ (wL J)
   have p1:A9 22 ⟨[(77,.O false),(82,.P 8 2)],[(8,.pl (cC5 k1))],[],[],9,[(83,.c (.s k1.S))],[],[],9⟩:=g _ _ (wL J)
   have q1:A9 23 ⟨[(1,.S 2),(77,.O false)],[(2,.sl rR5 l_)],[],[],9,[(84,.S 2)],[],[],9⟩:=g _ _ (wL J)
   have s1:A9 24 ⟨[(11,.B 5 0),(77,.O false)],[],[],[(5,.box [.I e.1,.I e.2] 49)],9,[(85,.B 5 1)],[],[],9⟩:=g _ _ (wO Q Q Q (fun _ _ _ _ _ _ _ k=>WPr.axb (len:=2) (el:=3) (es:=1) 1 Q Q Q Q Q (by kernel_rfl) (by kernel_rfl) Q Q Q Q (k)) rfl)
   have t1:A9 25 ⟨[(77,.O false),(85,.B 5 1)],[],[],[(5,.box [.I e.1,.I e.2] 49)],9,[(86,.I e.2)],[],[],9⟩:=g _ _ (wL J)
   obtain ⟨u1,v1,h⟩:=ob h
   have x1:A9 26 ⟨[(77,.O false),(84,.S 2),(86,.I e.2)],[(2,.sl rR5 l_)],[],[],9,[(87,.P 9 0)],[(9,.pl (cC5 u1))],[],10⟩:=g _ _ (wO Q Q Q (fun _ _ _ _ _ _ _ k=>wj oO5 J v1 Q Q Q Q Q Q Q Q Q (k)) rfl)
   have y1:A9 27 ⟨[(77,.O false),(87,.P 9 0)],[(9,.pl (cC5 u1))],[],[],10,[(88,.P 9 2)],[],[],10⟩:=g _ _ (wL J)
   have z1:A9 28 ⟨[(77,.O false),(88,.P 9 2)],[(9,.pl (cC5 u1))],[],[],10,[(89,.c (.s u1.S))],[],[],10⟩:=g _ _ (wL J)
   have A1:A9 29 (zz33 [(77,.O false),(83,.c (.s k1.S)),(89,.c (.s u1.S))] [(90,.O (!(k1.S.toList==u1.S.toList)))]):=g _ _ (wL J)
   have B1:A9 30 (zz33 [(77,.O false),(90,.O (!(k1.S.toList==u1.S.toList)))] [(91,.O (!(k1.S.toList==u1.S.toList)))]):=g _ _ (wL J)
   refine wD (t:=⟨[(1,.S 2),(55,.S 1),(56,.I (g_.Equals.length:Int)),(57,.I d),(91,.O (!(k1.S.toList==u1.S.toList)))],[],[(0,.sl rR1 g_.Diffs),(1,.sl (rP (rI .i64) (rI .i64)) g_.Equals),(2,.sl rR5 l_)],10⟩) [0,0,2,7,15,31,63,127,255,255,767,2047,4095,8191,16383,32767,65535,131071,131071,393215,1048575,2097151,4194303,131071,131071,16908287,58851327,125960191,260177919,536870911,1073741823] (.cons (j _ _ l) (.cons (j _ _ m) (.cons (j _ _ o) (.cons (j _ _ v) (.cons (j _ _ x) (.cons (j _ _ y) (.cons (j _ _ z) (.cons (j _ _ u0) (.cons (j _ _ v0) (.cons (j _ _ x0) (.cons (j _ _ y0) (.cons (j _ _ B0) (.cons (j _ _ C0) (.cons (j _ _ D0) (.cons (j _ _ G0) (.cons (j _ _ H0) (.cons (j _ _ e1) (.cons (j _ _ f1) (.cons (j _ _ g1) (.cons (j _ _ i1) (.cons (j _ _ m1) (.cons (j _ _ o1) (.cons (j _ _ p1) (.cons (j _ _ q1) (.cons (j _ _ s1) (.cons (j _ _ t1) (.cons (j _ _ x1) (.cons (j _ _ y1) (.cons (j _ _ z1) (.cons (j _ _ A1) (.cons (j _ _ B1) .nil))))))))))))))))))))))))))))))) (by kernel_rfl) (by kernel_rfl) (by kernel_rfl) (by kernel_rfl) ?_
   obtain ⟨K,h⟩|⟨K,h⟩:=oc h
   ·refine wt K Q (wR J 1 Q ?_)
    cases h
    exact we J func42 [] Q Q Q Q
   exact wf K Q (wi (wb (wS J 2 Q (wU (ih14 (w64 (d+1)) h)))))
  exact wU (ih N 0 h)
 refine wo ?_
 refine wI (σ:=Int) (fun st=>(zz59 g_.Diffs g_.Equals l_ [(1,.S 2),(2,.B 3 0),(13,.S 0),(14,.I (g_.Diffs.length:Int)),(15,.I st)])) (fun n st=>z42_l4 N g_ l_ n st) (r:=r) (fun _=>rfl) ?_ (fun ih=>?_)
 ·intro n14 ih15
  intro C1 h
  replace h:z42_l4 N g_ l_ (n14+1) C1=some r:=h
  unfold z42_l4 at h
  refine wR J 1 Q (wq ?_)
  obtain ⟨K,h⟩|⟨K,h⟩:=oc' h
  ·exact wf K Q (wz rfl (wU (j1 () h)))
  refine wt K Q (wi (wq (wo (wq (wg ?_)))))
  obtain ⟨D1,G1,h⟩:=ob h
  refine wj oO1 J G1 Q Q Q Q Q Q Q Q Q (wx ⟨[(1,.S 2),(2,.B 3 0),(6,.B 5 0),(13,.S 0),(14,.I (g_.Diffs.length:Int)),(15,.I C1)],[(3,.box [.sl 0,.sl 1] 42),(5,.box (cC1 D1) 48)],[(0,.sl rR1 g_.Diffs),(1,.sl (rP (rI .i64) (rI .i64)) g_.Equals),(2,.sl rR5 l_)],6⟩ J 3 (wn (wV (zz69 D1 g_.Diffs g_.Equals l_ [(1,.S 2),(2,.B 3 0),(6,.B 5 0),(7,.B 6 0),(13,.S 0),(14,.I (g_.Diffs.length:Int)),(15,.I C1)]) J 3 (wq (wV (zz69 D1 g_.Diffs g_.Equals l_ [(1,.S 2),(2,.B 3 0),(6,.B 5 0),(7,.B 6 0),(13,.S 0),(14,.I (g_.Diffs.length:Int)),(15,.I C1),(24,.a [.I D1.X,.I D1.Y]),(25,.I 0)]) J 6 ?_)))))
  refine wC (σ:=Int × Int) (fun st=>(zz39 D1 st.1 st.2 g_.Diffs g_.Equals l_ [(1,.S 2),(2,.B 3 0),(6,.B 5 0),(7,.B 6 0),(13,.S 0),(14,.I (g_.Diffs.length:Int)),(15,.I C1)])) (fun st=>z42_k5 C1 (z42_l4 N g_ l_ n14) D1 st.1 st.2=some r) ?_ (fun j22=>?_)
  ·rintro ⟨H1,I1⟩ h
   replace h:z42_k5 C1 (z42_l4 N g_ l_ n14) D1 H1 I1=some r:=h
   unfold z42_k5 at h
   refine wq (wg (WPr.axb (len:=2) (el:=3) (es:=1) 0 Q Q Q Q Q (by kernel_rfl) (by kernel_rfl) Q Q Q Q (ws J 1 Q (WPr.axb (len:=2) (el:=3) (es:=1) 1 Q Q Q Q Q (by kernel_rfl) (by kernel_rfl) Q Q Q Q (wx ⟨[(1,.S 2),(2,.B 3 0),(13,.S 0),(14,.I (g_.Diffs.length:Int)),(15,.I C1),(52,.O (decide ((w64 (H1-I1)) > D1.C)))],[(3,.box [.sl 0,.sl 1] 42)],[(0,.sl rR1 g_.Diffs),(1,.sl (rP (rI .i64) (rI .i64)) g_.Equals),(2,.sl rR5 l_)],7⟩ J 5 (wn ?_))))))
   obtain ⟨K,h⟩|⟨K,h⟩:=oc h
   ·refine wt K Q (wR J 1 Q ?_)
    cases h
    exact we J func42 [] Q Q Q Q
   exact wf K Q (wi (wb (wS J 2 Q (wU (ih15 (w64 (C1+1)) h)))))
  refine wo ?_
  refine wI (σ:=Int × Int × Int) (fun st=>(zz39 D1 st.1 st.2.1 g_.Diffs g_.Equals l_ [(1,.S 2),(2,.B 3 0),(6,.B 5 0),(7,.B 6 0),(13,.S 0),(14,.I (g_.Diffs.length:Int)),(15,.I C1),(24,.a [.I D1.X,.I D1.Y]),(25,.I st.2.2)])) (fun n st=>z42_l6 N l_ C1 (z42_l4 N g_ l_ n14) D1 n st.1 st.2.1 st.2.2) (r:=r) (fun _=>rfl) ?_ (fun ih=>?_)
  ·intro n16 ih24
   rintro ⟨L1,M1,O1⟩ h
   replace h:z42_l6 N l_ C1 (z42_l4 N g_ l_ n14) D1 (n16+1) L1 M1 O1=some r:=h
   unfold z42_l6 at h
   refine wR J 1 Q (wq ?_)
   obtain ⟨K,h⟩|⟨K,h⟩:=oc' h
   ·exact wf K Q (wz rfl (wU (j22 (L1,M1) h)))
   refine wt K Q (wi (wq (wo (wq (wg (ws J 1 Q ?_))))))
   obtain ⟨R1,S1,h⟩:=ob h
   refine WPr.ax (len:=2) (el:=3) (SC.i .i64) ([D1.X,D1.Y]:List Int) S1 Q Q Q Q (by kernel_rfl) (by kernel_rfl) (by kernel_rfl) (by kernel_rfl) Q Q Q Q (wx (zz39 D1 L1 M1 g_.Diffs g_.Equals l_ [(1,.S 2),(2,.B 3 0),(6,.B 5 0),(7,.B 6 0),(8,.I O1),(9,.I R1),(13,.S 0),(14,.I (g_.Diffs.length:Int)),(15,.I C1),(24,.a [.I D1.X,.I D1.Y]),(25,.I O1)]) J 2 (wn (wq (wR J 2 Q ?_))))
   obtain ⟨K,h⟩|⟨K,h⟩:=oc h
   ·exact wt K Q (wz rfl (wT (zz39 D1 L1 M1 g_.Diffs g_.Equals l_ [(1,.S 2),(2,.B 3 0),(6,.B 5 0),(7,.B 6 0),(13,.S 0),(14,.I (g_.Diffs.length:Int)),(15,.I C1),(24,.a [.I D1.X,.I D1.Y]),(25,.I (w64 (O1+1)))]) J 2 (wU (ih24 (L1,M1,(w64 (O1+1))) h))))
   refine wf K Q (wi (wq (wq (wg (xw [2,3,4,5] (zz39 D1 L1 M1 g_.Diffs g_.Equals l_ [(1,.S 2),(2,.B 3 0),(6,.B 5 0),(7,.B 6 0),(8,.I O1),(9,.I R1),(13,.S 0),(14,.I (g_.Diffs.length:Int)),(15,.I C1),(24,.a [.I D1.X,.I D1.Y]),(25,.I O1),(31,.S 2),(32,.I R1)]) J 2 ?_)))))
   obtain ⟨T1,U1,h⟩:=ob h
   refine wj oO5 J U1 Q Q Q Q Q Q Q Q Q (wx (zz70 D1 L1 M1 g_.Diffs g_.Equals l_ [(1,.S 2),(2,.B 3 0),(6,.B 5 0),(7,.B 6 0),(8,.I O1),(9,.I R1),(13,.S 0),(14,.I (g_.Diffs.length:Int)),(15,.I C1),(24,.a [.I D1.X,.I D1.Y]),(25,.I O1),(36,.O (T1.Kind==0))]) J 3 (wn ?_))
   obtain ⟨K,h⟩|⟨K,h⟩:=oc h
   ·refine wt K Q (wR J 1 Q ?_)
    cases h
    exact we J func42 [] Q Q Q Q
   refine wf K Q (wi (wg (xw [3,4,5,6,7] (zz70 D1 L1 M1 g_.Diffs g_.Equals l_ [(1,.S 2),(2,.B 3 0),(6,.B 5 0),(7,.B 6 0),(13,.S 0),(14,.I (g_.Diffs.length:Int)),(15,.I C1),(24,.a [.I D1.X,.I D1.Y]),(25,.I O1),(37,.I O1),(38,.S 2),(39,.I R1)]) J 3 ?_)))
   obtain ⟨V1,X1,h⟩:=ob h
   refine wj oO5 J X1 Q Q Q Q Q Q Q Q Q (ws J 1 Q ?_)
   obtain ⟨Y1,Z1,h⟩:=ob h
   refine wc (z36_ct N V1 _ Z1) [] [] Q Q Q Q Q Q Q Q (.inl rfl) rfl (xw [6,7] (zz61 D1 L1 M1 g_.Diffs g_.Equals l_ [(1,.S 2),(2,.B 3 0),(6,.B 5 0),(7,.B 6 0),(13,.S 0),(14,.I (g_.Diffs.length:Int)),(15,.I C1),(24,.a [.I D1.X,.I D1.Y]),(25,.I O1),(37,.I O1),(42,.I Y1)]) J 0 ?_)
   obtain ⟨K,h⟩|⟨K,h⟩:=oc h
   ·exact WPr.axb (len:=2) (el:=3) (es:=1) 0 (by exact eq_of_beq K) Q Q Q Q (by kernel_rfl) (by kernel_rfl) Q Q Q Q (ws J 1 Q (wn (wb (wT (zz61 D1 Y1 M1 g_.Diffs g_.Equals l_ [(1,.S 2),(2,.B 3 0),(6,.B 5 0),(7,.B 6 0),(13,.S 0),(14,.I (g_.Diffs.length:Int)),(15,.I C1),(24,.a [.I D1.X,.I D1.Y]),(25,.I (w64 (O1+1)))]) J 2 (wU (ih24 (Y1,M1,(w64 (O1+1))) h))))))
   obtain ⟨K,h⟩|⟨K,h⟩:=oc h
   ·exact WPr.axb (len:=2) (el:=3) (es:=1) 1 (by exact eq_of_beq K) Q Q Q Q (by kernel_rfl) (by kernel_rfl) Q Q Q Q (ws J 1 Q (wn (wb (wT (zz61 D1 L1 Y1 g_.Diffs g_.Equals l_ [(1,.S 2),(2,.B 3 0),(6,.B 5 0),(7,.B 6 0),(13,.S 0),(14,.I (g_.Diffs.length:Int)),(15,.I C1),(24,.a [.I D1.X,.I D1.Y]),(25,.I (w64 (O1+1)))]) J 2 (wU (ih24 (L1,Y1,(w64 (O1+1))) h))))))
   cases h
  exact wU (ih N (0,0,0) h)
 exact wU (ih N 0 h)
theorem z43_ct (N:Nat) (l_:(List T2)) (values_:(List T5)) (r:Bool) (h:z43 N l_ values_=some r) :
 Fn Tryz.prog 43 ⟨2,[.S 0,.S 1],[(0,.sl rR2 l_),(1,.sl rR5 values_)],[],2,.O r,[],[]⟩:=by
 refine wF func43 Q Q (fun E F w=>?_)
 unfold z43 at h
 refine wR J 1 Q (wq (wV (zz46 l_ values_ [(0,.S 0),(1,.S 1),(4,.O false),(11,.O ((l_.length:Int) != (values_.length:Int)))]) J 5 ?_))
 obtain ⟨K,h⟩|⟨K,h⟩:=oc h
 ·refine wt K Q (wR J 1 Q ?_)
  cases h
  exact we J func43 [] Q Q Q Q
 refine wf K Q (wi (wq (wV (zz46 l_ values_ [(1,.S 1),(4,.O false),(12,.S 0),(13,.I (l_.length:Int)),(14,.I 0)]) J 3 ?_)))
 refine wC (σ:=Unit) (fun st=>(zz46 l_ values_ [])) (fun st=>z43_k1=some r) ?_ (fun j1=>?_)
 ·intro _ h
  replace h:z43_k1=some r:=h
  unfold z43_k1 at h
  refine wR J 1 Q ?_
  cases h
  exact we J func43 [] Q Q Q Q
 refine wo ?_
 refine wI (σ:=Int) (fun st=>(zz46 l_ values_ [(1,.S 1),(12,.S 0),(13,.I (l_.length:Int)),(14,.I st)])) (fun n st=>z43_l2 N l_ values_ n st) (r:=r) (fun _=>rfl) ?_ (fun ih=>?_)
 ·intro n2 ih3
  intro c h
  replace h:z43_l2 N l_ values_ (n2+1) c=some r:=h
  unfold z43_l2 at h
  refine wR J 1 Q (wq ?_)
  obtain ⟨K,h⟩|⟨K,h⟩:=oc' h
  ·exact wf K Q (wz rfl (wU (j1 () h)))
  refine wt K Q (wi (wq (wo (wq (wg (ws J 1 Q ?_))))))
  obtain ⟨d,e,h⟩:=ob h
  refine wj oO2 J e Q Q Q Q Q Q Q Q Q (wx ⟨[(1,.S 1),(5,.I c),(6,.B 3 0),(12,.S 0),(13,.I (l_.length:Int)),(14,.I c)],[(3,.box (cC2 d) 89)],[(0,.sl rR2 l_),(1,.sl rR5 values_)],4⟩ J 4 (wn (wq (wQ (by kernel_rfl) (by kernel_rfl) (xq [4,5,6,7] ⟨[(1,.S 1),(12,.S 0),(13,.I (l_.length:Int)),(14,.I c),(20,.a (cC4 d.Sort')),(21,.S 1),(22,.I c)],[],[(0,.sl rR2 l_),(1,.sl rR5 values_)],4⟩ J 4 ?_)))))
  obtain ⟨f,g,h⟩:=ob h
  refine WPq.op Q Q (VN.vs (VN.ix oO5 J g Q Q Q Q Q Q Q)) (WPq.sil J 1 rfl ?_)
  obtain ⟨i,j,h⟩:=ob h
  refine qc (z80_ct N d.Sort' f _ j) [] [] Q Q Q Q Q Q Q Q Q Q Q Q (qx ⟨[(1,.S 1),(12,.S 0),(13,.I (l_.length:Int)),(14,.I c),(26,.O (!i))],[],[(0,.sl rR2 l_),(1,.sl rR5 values_)],5⟩ J 1 (qn ?_))
  obtain ⟨K,h⟩|⟨K,h⟩:=oc h
  ·refine wt K Q (wR J 1 Q ?_)
   cases h
   exact we J func43 [] Q Q Q Q
  exact wf K Q (wi (wb (wS J 2 Q (wU (ih3 (w64 (c+1)) h)))))
 exact wU (ih N 0 h)
end Gx
end
