/- Each function of the statement computes what its plain definition says, part 2. -/
import Derived.Test.YtdomlpmomldmhaaGreatDoorBlamePartsWalk1
set_option linter.all false
section
set_option maxRecDepth 10000
set_option maxHeartbeats 4000000
open Go Go.Kx Go.Proofs Tryz
namespace Gx
theorem z298_ct (N:Nat) (dst_:(List Int)) (u_:Int) (base_:Int) (neg_:Bool) (append_:Bool) (r:(List Int) × ByteArray) (h:z298 N dst_ u_ base_ neg_ append_=some r) :
 Fn Tryz.prog 298 ⟨1,[.S 0,.c (.i .u64 u_),.I base_,.O neg_,.O append_],[(0,.sl (rI .u8) dst_)],[],2,.t [.inl (.sl 1),.inl (.s r.2)],[],[(1,.own (rI .u8) r.1 true)]⟩:=by
 refine eFn func298 rfl (fun E F w=>?_)
 unfold z298 at h
 refine wa J 11 (eCut (σ:=Bool) (fun st=>⟨[(0,.S 0),(1,.c (.i .u64 u_)),(2,.I base_),(3,.O neg_),(4,.O append_),(10,.c .nil),(11,.c (.s (str []))),(28,.O st)],[],[(0,.sl (rI .u8) dst_)],1⟩) (fun st=>z298_k6 N u_ base_ neg_ st=some r) ?_ (fun j1=>?_))
 ·intro d h
  replace h:z298_k6 N u_ base_ neg_ d=some r:=h
  unfold z298_k6 at h
  obtain ⟨K,h⟩|⟨K,h⟩:=oc h
  ·refine eK K ?_
   cases h
  refine eK K (wa J 15 (eCut (σ:=Int) (fun st=>(zz8 dst_ [(0,.S 0),(1,.c (.i .u64 st)),(2,.I base_),(3,.O neg_),(4,.O append_),(10,.c .nil),(11,.c (.s (str []))),(12,.B 1 0),(13,.I 65)])) (fun st=>z298_k5 N base_ st=some r) ?_ (fun j3=>?_)))
  ·intro e h
   replace h:z298_k5 N base_ e=some r:=h
   unfold z298_k5 at h
   obtain ⟨x1,f,h⟩:=ob h
   refine wa J 4 (eCl (z315_ct N base_ _ f) [] [] ?_)
   obtain ⟨K,h⟩|⟨K,h⟩:=oc' h
   ·refine wH J 1 K (wa J 8 (eCut (σ:=Unit) (fun st=>(zz8 dst_ [(0,.S 0),(1,.c (.i .u64 e)),(3,.O neg_),(4,.O append_),(10,.c .nil),(11,.c (.s (str []))),(12,.B 1 0),(13,.I 65)])) (fun st=>z298_k3 e=some r) ?_ (fun j14=>?_)))
    ·intro _ h
     replace h:z298_k3 e=some r:=h
     unfold z298_k3 at h
     obtain ⟨g,j,h⟩:=ob h
     refine wa J 9 (eSx J j ?_)
     cases h
    refine wa J 1 (eLoop (σ:=Unit) (fun st=>(zz8 dst_ [(0,.S 0),(1,.c (.i .u64 e)),(3,.O neg_),(4,.O append_),(10,.c .nil),(11,.c (.s (str []))),(12,.B 1 0),(13,.I 65),(17,.c (.i .u64 (wk .u64 (base_))))])) (fun n st=>z298_l4 base_ e n) (r:=r) (fun _=>rfl) ?_ (fun ih=>?_))
    ·intro n8 ih16
     intro _ h
     replace h:z298_l4 base_ e (n8+1)=some r:=h
     unfold z298_l4 at h
     obtain ⟨K,h⟩|⟨K,h⟩:=oc' h
     ·exact wH J 7 K (wa J 2 (eSub [] (j14 () h)))
     refine wH J 7 K ?_
     obtain ⟨k,l,h⟩:=ob h
     refine wa J 13 (eBi l ?_)
     obtain ⟨m,o,h⟩:=ob h
     refine wa J 10 (eSx J o ?_)
     cases h
    exact eSub [] (ih N () h)
   refine wH J 1 K ?_
   obtain ⟨p,q,h⟩:=ob h
   refine wa J 5 (eCl (z316_ct N (wk .u64 (base_)) _ q) [] [] (wa J 17 (eCut (σ:=Unit) (fun st=>(zz8 dst_ [(0,.S 0),(1,.c (.i .u64 e)),(3,.O neg_),(4,.O append_),(10,.c .nil),(11,.c (.s (str []))),(12,.B 1 0),(13,.I 65)])) (fun st=>z298_k1 e=some r) ?_ (fun j11=>?_))))
   ·intro _ h
    replace h:z298_k1 e=some r:=h
    unfold z298_k1 at h
    obtain ⟨u,v,h⟩:=ob h
    refine wa J 9 (eSx J v ?_)
    cases h
   refine wa J 1 (eLoop (σ:=Unit) (fun st=>(zz8 dst_ [(0,.S 0),(1,.c (.i .u64 e)),(3,.O neg_),(4,.O append_),(10,.c .nil),(11,.c (.s (str []))),(12,.B 1 0),(13,.I 65),(14,.c (.i .u64 (wk .u64 (p)))),(15,.c (.i .u64 (wk .u64 (base_)))),(16,.c (.i .u64 (wk .u64 ((wk .u64 (base_))-1))))])) (fun n st=>z298_l2 base_ e n) (r:=r) (fun _=>rfl) ?_ (fun ih=>?_))
   ·intro n6 ih13
    intro _ h
    replace h:z298_l2 base_ e (n6+1)=some r:=h
    unfold z298_l2 at h
    obtain ⟨K,h⟩|⟨K,h⟩:=oc' h
    ·exact wH J 7 K (wa J 2 (eSub [] (j11 () h)))
    refine wH J 7 K ?_
    obtain ⟨x,y,h⟩:=ob h
    refine wa J 14 (eBi y ?_)
    obtain ⟨z,A,h⟩:=ob h
    refine eSx J A ?_
    cases h
   exact eSub [] (ih N () h)
  obtain ⟨K,h⟩|⟨K,h⟩:=oc h
  ·exact eK K (wa J 6 (eSub [] (j3 (wk .u64 (0-u_)) h)))
  exact eK K (wa J 2 (eSub [] (j3 u_ h)))
 obtain ⟨K,h⟩|⟨K,h⟩:=oc h
 ·exact eK K (wa J 8 (eSub [] (j1 true h)))
 refine eK K ?_
 obtain ⟨K,h⟩|⟨K,h⟩:=oc h
 ·exact wH J 4 K (wa J 4 (eSub [] (j1 true h)))
 exact wH J 4 K (wa J 4 (eSub [] (j1 (decide (base_ > 36)) h)))
theorem z271_ct (N:Nat) (i_:Int) (base_:Int) (r:ByteArray) (h:z271 N i_ base_=some r) :
 Fn Tryz.prog 271 ⟨0,[.I i_,.I base_],[],[],0,.c (.s r),[],[]⟩:=by
 refine eFn func271 rfl (fun E F w=>?_)
 unfold z271 at h
 obtain ⟨K,h⟩|⟨K,h⟩:=oc' h
 ·refine wH J 10 K ?_
  obtain ⟨x3,d,h⟩:=ob h
  refine wa J 9 (eCl (z298_ct N ([]:List Int) (wk .u64 (i_)) base_ (decide (i_ < 0)) false _ d) [] [(0,.nil)] ?_)
  cases h
  exact wr J 11 func271 []
 refine wH J 10 K ?_
 refine wa J 7 (eCut (σ:=Bool) (fun st=>(zz0 [(0,.I i_),(17,.O st)])) (fun st=>z271_k2 N i_ st=some r) ?_ (fun j1=>?_))
 ·intro e h
  replace h:z271_k2 N i_ e=some r:=h
  unfold z271_k2 at h
  obtain ⟨K,h⟩|⟨K,h⟩:=oc h
  ·refine eK K ?_
   obtain ⟨x1,f,h⟩:=ob h
   refine wa J 4 (eCl (z295_ct N i_ _ f) [] [] ?_)
   cases h
   exact wr J 2 func271 []
  refine eK K (wa J 18 (eCut (σ:=Int) (fun st=>⟨[(0,.I i_),(5,.B 0 0),(6,.c (.i .u64 st))],[(0,.box [.i .u8 0,.i .u8 0,.i .u8 0,.i .u8 0,.i .u8 0,.i .u8 0,.i .u8 0,.i .u8 0,.i .u8 0,.i .u8 0,.i .u8 0,.i .u8 0,.i .u8 0,.i .u8 0,.i .u8 0,.i .u8 0,.i .u8 0,.i .u8 0,.i .u8 0,.i .u8 0,.i .u8 0,.i .u8 0,.i .u8 0,.i .u8 0] 342)],[],1⟩) (fun st=>z271_k1 N st=some r) ?_ (fun j2=>?_)))
  ·intro g h
   replace h:z271_k1 N g=some r:=h
   unfold z271_k1 at h
   obtain ⟨x2,j,h⟩:=ob h
   refine wa J 3 (eCl (z296_ct N g _ j) [] [] ?_)
   cases h
  obtain ⟨K,h⟩|⟨K,h⟩:=oc h
  ·exact eK K (wa J 6 (eSub [] (j2 (wk .u64 (0-(wk .u64 (i_)))) h)))
  exact eK K (wa J 2 (eSub [] (j2 (wk .u64 (i_)) h)))
 obtain ⟨K,h⟩|⟨K,h⟩:=oc h
 ·exact eK K (wa J 4 (eSub [] (j1 (decide (i_ < 100)) h)))
 exact eK K (wa J 4 (eSub [] (j1 false h)))
theorem z228_ct (N:Nat) (i_:Int) (r:ByteArray) (h:z228 N i_=some r) :
 Fn Tryz.prog 228 ⟨0,[.I i_],[],[],0,.c (.s r),[],[]⟩:=by
 refine eFn func228 rfl (fun E F w=>?_)
 unfold z228 at h
 obtain ⟨x1,d,h⟩:=ob h
 refine wa J 7 (eCl (z271_ct N i_ 10 _ d) [] [] ?_)
 cases h
 exact wr J 2 func228 []
theorem z164_ct (N:Nat) (i_:Int) (r:ByteArray) (h:z164 N i_=some r) :
 Fn Tryz.prog 164 ⟨0,[.I i_],[],[],0,.c (.s r),[],[]⟩:=by
 refine eFn func164 rfl (fun E F w=>?_)
 unfold z164 at h
 obtain ⟨x1,d,h⟩:=ob h
 refine wa J 7 (eCl (z228_ct N i_ _ d) [] [] ?_)
 cases h
 exact wr J 2 func164 []
theorem z165_ct (N:Nat) (v_:T12) (r:ByteArray) (h:z165 N v_=some r) :
 Fn Tryz.prog 165 ⟨0,[.a (cC12 v_)],[],[],0,.c (.s r),[],[]⟩:=by
 refine eFn func165 rfl (fun E F w=>?_)
 unfold z165 at h
 obtain ⟨x1,d,h⟩:=ob h
 refine wa J 10 (eCl (z139_ct N v_ _ d) [] [] ?_)
 obtain ⟨K,h⟩|⟨K,h⟩:=oc h
 ·refine wH J 3 K ?_
  cases h
  exact wr J 5 func165 []
 refine wH J 3 K ?_
 obtain ⟨K,h⟩|⟨K,h⟩:=oc' h
 ·refine wH J 8 K ?_
  cases h
 refine wH J 8 K ?_
 obtain ⟨x2,e,h⟩:=ob h
 refine wa J 5 (eCl (z164_ct N v_.N _ e) [] [] ?_)
 cases h
 exact wr J 2 func165 []
theorem z167_ct (N:Nat) (elems_:(List ByteArray)) (sep_:ByteArray) (r:ByteArray) (h:z167 N elems_ sep_=some r) :
 Fn Tryz.prog 167 ⟨1,[.S 0,.c (.s sep_)],[(0,.sl rS elems_)],[],1,.c (.s r),[],[]⟩:=by
 refine eFn func167 rfl (fun E F w=>?_)
 unfold z167 at h
 obtain ⟨K,h⟩|⟨K,h⟩:=oc h
 ·refine wH J 16 K ?_
  cases h
  exact wr J 5 func167 []
 refine wH J 16 K ?_
 obtain ⟨K,h⟩|⟨K,h⟩:=oc h
 ·refine wH J 6 K ?_
  obtain ⟨x1,d,h⟩:=ob h
  refine wa J 4 (eIx J oS d ?_)
  cases h
  exact wr J 3 func167 []
 refine wH J 6 K (wa J 14 (eCut (σ:=Int) (fun st=>(zz1 elems_ [(0,.S 0),(1,.c (.s sep_)),(5,.I st)])) (fun st=>z167_k3 N elems_ st=some r) ?_ (fun j1=>?_)))
 ·intro e h
  replace h:z167_k3 N elems_ e=some r:=h
  unfold z167_k3 at h
  refine wa J 7 (eCut (σ:=Int) (fun st=>(zz1 elems_ [(0,.S 0),(1,.c (.s sep_)),(5,.I st)])) (fun st=>z167_k1 st=some r) ?_ (fun j2=>?_))
  ·intro f h
   replace h:z167_k1 f=some r:=h
   unfold z167_k1 at h
   cases h
  refine wa J 1 (eLoop (σ:=Int × Int) (fun st=>(zz1 elems_ [(0,.S 0),(1,.c (.s sep_)),(5,.I st.1),(39,.S 0),(40,.I (elems_.length:Int)),(41,.I st.2)])) (fun n st=>z167_l2 elems_ n st.1 st.2) (r:=r) (fun _=>rfl) ?_ (fun ih=>?_))
  ·intro n2 ih4
   rintro ⟨g,i⟩ h
   replace h:z167_l2 elems_ (n2+1) g i=some r:=h
   unfold z167_l2 at h
   obtain ⟨K,h⟩|⟨K,h⟩:=oc' h
   ·exact wH J 5 K (wa J 2 (eSub [] (j2 g h)))
   refine wH J 5 K ?_
   obtain ⟨j,k,h⟩:=ob h
   refine wa J 6 (eIx J oS k ?_)
   obtain ⟨K,h⟩|⟨K,h⟩:=oc h
   ·refine wH J 12 K ?_
    cases h
   exact wH J 12 K (wa J 14 (eSub [] (ih4 ((w64 (g+(j.size:Int))),(w64 (i+1))) h)))
  exact eSub [] (ih N (e,0) h)
 obtain ⟨K,h⟩|⟨K,h⟩:=oc' h
 ·exact eK K (wa J 2 (eSub [] (j1 0 h)))
 refine eK K ?_
 obtain ⟨l,m,h⟩:=ob h
 refine wa J 9 (eBi m ?_)
 obtain ⟨K,h⟩|⟨K,h⟩:=oc h
 ·refine wH J 2 K ?_
  cases h
 exact wH J 2 K (wa J 13 (eSub [] (j1 (w64 (0+(w64 ((sep_.size:Int) * (w64 ((elems_.length:Int)-1)))))) h)))
theorem z95_ct (N:Nat) (l_:(List T12)) (r:ByteArray) (h:z95 N l_=some r) :
 Fn Tryz.prog 95 ⟨1,[.S 0],[(0,.sl rR12 l_)],[],1,.c (.s r),[],[]⟩:=by
 refine eFn func95 rfl (fun E F w=>?_)
 unfold z95 at h
 refine wa J 15 (eCut (σ:=(List ByteArray)) (fun st=>⟨[(3,.S 1)],[(1,.own rS st true)],[(0,.sl rR12 l_)],2⟩) (fun st=>z95_k1 N st=some r) ?_ (fun j1=>?_))
 ·intro d h
  replace h:z95_k1 N d=some r:=h
  unfold z95_k1 at h
  obtain ⟨e,f,h⟩:=ob h
  refine wa J 3 (eCb (z167_ct N d (str [44,32]) _ f) [] [(0,.sl 1)] [1] (.inr ⟨rfl,trivial⟩) ?_)
  obtain ⟨g,i,h⟩:=ob h
  refine eCa i ?_
  obtain ⟨j,k,h⟩:=ob h
  refine eCa k ?_
  cases h
  exact wr J 2 func95 []
 refine wa J 1 (eLoop (σ:=(List ByteArray) × Int) (fun st=>⟨[(3,.S 1),(6,.S 0),(7,.I (l_.length:Int)),(8,.I st.2)],[(1,.own rS st.1 true)],[(0,.sl rR12 l_)],2⟩) (fun n st=>z95_l2 N l_ n st.1 st.2) (r:=r) (fun _=>rfl) ?_ (fun ih=>?_))
 ·intro n2 ih3
  rintro ⟨l,m⟩ h
  replace h:z95_l2 N l_ (n2+1) l m=some r:=h
  unfold z95_l2 at h
  obtain ⟨K,h⟩|⟨K,h⟩:=oc' h
  ·exact wH J 5 K (wa J 2 (eSub [] (j1 l h)))
  refine wH J 5 K ?_
  obtain ⟨o,p,h⟩:=ob h
  refine wa J 6 (eIx J oO12 p ?_)
  obtain ⟨q,t,h⟩:=ob h
  refine wa J 7 (eCl (z165_ct N o _ t) [] [] (eBs J [] oS ([q]:List ByteArray) ?_))
  obtain ⟨u,v,h⟩:=ob h
  exact eAp J rS v (wa J 7 (eSub [(1,.sl 5)] (ih3 (u,(w64 (m+1))) h)))
 exact eSub [(1,.nil)] (ih N (([]:List ByteArray),0) h)
theorem z44_ct (N:Nat) (g_:T5) (x_:T3) (r:ByteArray) (h:z44 N g_ x_=some r) :
 Fn Tryz.prog 44 ⟨5,[.a (cC5 0 1 2 3 g_),.a (cC3 4 x_)],(vV5 0 1 2 3 g_ [(4,.sl rR12 x_.Values)]),[],5,.c (.s r),[],[]⟩:=by
 refine eFn func44 rfl (fun E F w=>?_)
 unfold z44 at h
 refine wa J 17 (eCut (σ:=ByteArray × ByteArray) (fun st=>⟨[(2,.B 5 0),(3,.B 6 0),(5,.c (.s st.1)),(6,.c (.s st.2))],[(5,.box (cC5 0 1 2 3 g_) 27),(6,.box (cC3 4 x_) 67)],(vV5 0 1 2 3 g_ [(4,.sl rR12 x_.Values)]),7⟩) (fun st=>z44_k1 N g_ x_ st.1 st.2=some r) ?_ (fun j1=>?_))
 ·rintro ⟨d,e⟩ h
  replace h:z44_k1 N g_ x_ d e=some r:=h
  unfold z44_k1 at h
  obtain ⟨x1,f,h⟩:=ob h
  refine wa J 6 (eCl (z93_ct N g_.Roles x_.Role _ f) [] [(0,.sl 0)] ?_)
  obtain ⟨x2,g,h⟩:=ob h
  refine wa J 1 (eCa g ?_)
  obtain ⟨x3,i,h⟩:=ob h
  refine wa J 2 (eCl (z94_ct N g_.Decls _ i) [] [(0,.sl 1)] ?_)
  obtain ⟨x4,j,h⟩:=ob h
  refine wa J 2 (eCb (z93_ct N x3 x_.Label _ j) [] [(0,.sl 7)] [7] (.inr ⟨rfl,trivial⟩) ?_)
  obtain ⟨x5,k,h⟩:=ob h
  refine eCa k ?_
  obtain ⟨x6,l,h⟩:=ob h
  refine wa J 2 (eCl (z95_ct N x_.Values _ l) [] [(0,.sl 4)] ?_)
  obtain ⟨x7,m,h⟩:=ob h
  refine eCa m ?_
  obtain ⟨x8,o,h⟩:=ob h
  refine wa J 1 (eCa o ?_)
  obtain ⟨x9,p,h⟩:=ob h
  refine wa J 4 (eCl (z93_ct N g_.Roles x_.Peer _ p) [] [(0,.sl 0)] ?_)
  obtain ⟨q,t,h⟩:=ob h
  refine eCa t (wa J 1 (eEnd ?_))
  cases h
  exact eRet J func44 []
 obtain ⟨K,h⟩|⟨K,h⟩:=oc h
 ·exact eK K (wa J 5 (eSub [] (j1 ((str [32,115,101,110,100,115,32]),(str [32,116,111,32])) h)))
 exact eK K (wa J 2 (eSub [] (j1 ((str [32,103,101,116,115,32]),(str [32,102,114,111,109,32])) h)))
theorem z170_ct (N:Nat) (decls_:(List T0)) (x_:Int) (r:T0 × T4 × Bool) (h:z170 N decls_ x_=some r) :
 Fn Tryz.prog 170 ⟨1,[.S 0,.I x_],[(0,.sl rR0 decls_)],[],4,.t [.inr (cC0 1 2 3 r.1),.inr (cC4 r.2.1),.inl (.b r.2.2)],(vV0 1 2 3 r.1 []),[]⟩:=by
 refine eFn func170 rfl (fun E F w=>?_)
 unfold z170 at h
 refine wa J 13 (eCut (σ:=Unit) (fun st=>(zz21 decls_ [(4,.B 1 0),(5,.B 2 0)])) (fun st=>z170_k1=some r) ?_ (fun j1=>?_))
 ·intro _ h
  replace h:z170_k1=some r:=h
  unfold z170_k1 at h
  cases h
  exact wr J 8 func170 [(1,.nil),(2,.nil),(3,.nil)]
 refine wa J 1 (eLoop (σ:=Int × Int) (fun st=>(zz21 decls_ [(1,.I st.1),(4,.B 1 0),(5,.B 2 0),(9,.S 0),(10,.I (decls_.length:Int)),(11,.I st.2)])) (fun n st=>z170_l2 decls_ n st.1 st.2) (r:=r) (fun _=>rfl) ?_ (fun ih=>?_))
 ·intro n2 ih3
  rintro ⟨c,d⟩ h
  replace h:z170_l2 decls_ (n2+1) c d=some r:=h
  unfold z170_l2 at h
  obtain ⟨K,h⟩|⟨K,h⟩:=oc' h
  ·exact wH J 5 K (wa J 2 (eSub [] (j1 () h)))
  refine wH J 5 K ?_
  obtain ⟨e,f,h⟩:=ob h
  refine wa J 6 (eIx J oO0 f ?_)
  obtain ⟨K,h⟩|⟨K,h⟩:=oc' h
  ·exact wH J 10 K (wa J 22 (eSub [] (ih3 ((w64 (c-(e.Fields.length:Int))),(w64 (d+1))) h)))
  refine wH J 10 K ?_
  obtain ⟨K,h⟩|⟨K,h⟩:=oc' h
  ·exact wH J 7 K (wa J 15 (eSub [] (ih3 ((w64 (c-(e.Fields.length:Int))),(w64 (d+1))) h)))
  refine wH J 7 K ?_
  obtain ⟨g,i,h⟩:=ob h
  refine wa J 7 (eIx J oO4 i (wa J 4 (eEnd ?_)))
  cases h
  exact eRet J func170 [(1,.sl 4),(2,.sl 5),(3,.sl 6)]
 exact eSub [] (ih N (x_,0) h)
theorem z100_ct (N:Nat) (decls_:(List T0)) (x_:Int) (r:ByteArray) (h:z100 N decls_ x_=some r) :
 Fn Tryz.prog 100 ⟨1,[.S 0,.I x_],[(0,.sl rR0 decls_)],[],1,.c (.s r),[],[]⟩:=by
 refine eFn func100 rfl (fun E F w=>?_)
 unfold z100 at h
 obtain ⟨x1,d,h⟩:=ob h
 refine wa J 8 (eCl (z170_ct N decls_ x_ _ d) [] [(0,.sl 0)] ?_)
 obtain ⟨x2,e,h⟩:=ob h
 refine wa J 14 (eCa e ?_)
 obtain ⟨x3,f,h⟩:=ob h
 refine wa J 2 (eCa f ?_)
 cases h
 exact wr J 2 func100 []
theorem z169_ct (N:Nat) (decls_:(List T0)) (x_:Int) (r:ByteArray) (h:z169 N decls_ x_=some r) :
 Fn Tryz.prog 169 ⟨1,[.S 0,.I x_],[(0,.sl rR0 decls_)],[],1,.c (.s r),[],[]⟩:=by
 refine eFn func169 rfl (fun E F w=>?_)
 unfold z169 at h
 obtain ⟨x1,d,h⟩:=ob h
 refine wa J 9 (eCl (z170_ct N decls_ x_ _ d) [] [(0,.sl 0)] ?_)
 obtain ⟨K,h⟩|⟨K,h⟩:=oc' h
 ·refine wH J 17 K ?_
  obtain ⟨x5,e,h⟩:=ob h
  refine wa J 6 (eCl (z100_ct N decls_ x_ _ e) [] [(0,.sl 0)] ?_)
  cases h
  exact wr J 2 func169 []
 refine wH J 17 K ?_
 obtain ⟨x2,f,h⟩:=ob h
 refine wa J 5 (eCl (z100_ct N decls_ x_ _ f) [] [(0,.sl 0)] ?_)
 obtain ⟨x3,g,h⟩:=ob h
 refine eCa g ?_
 obtain ⟨x4,i,h⟩:=ob h
 refine eCa i ?_
 cases h
 exact wr J 2 func169 []
theorem z99_ct (N:Nat) (decls_:(List T0)) (d_:T1) (r:ByteArray) (h:z99 N decls_ d_=some r) :
 Fn Tryz.prog 99 ⟨1,[.S 0,.a (cC1 d_)],[(0,.sl rR0 decls_)],[],1,.c (.s r),[],[]⟩:=by
 refine eFn func99 rfl (fun E F w=>?_)
 unfold z99 at h
 refine wa J 13 (eCut (σ:=Bool) (fun st=>⟨[(0,.S 0),(3,.B 1 0),(6,.O st)],[(1,.box (cC1 d_) 150)],[(0,.sl rR0 decls_)],2⟩) (fun st=>z99_k1 N decls_ d_ st=some r) ?_ (fun j1=>?_))
 ·intro d h
  replace h:z99_k1 N decls_ d_ d=some r:=h
  unfold z99_k1 at h
  obtain ⟨K,h⟩|⟨K,h⟩:=oc h
  ·refine eK K ?_
   obtain ⟨x1,e,h⟩:=ob h
   refine wa J 5 (eCl (z164_ct N d_.C _ e) [] [] ?_)
   obtain ⟨x2,f,h⟩:=ob h
   refine eCa f ?_
   cases h
   exact wr J 2 func99 []
  refine eK K ?_
  obtain ⟨K,h⟩|⟨K,h⟩:=oc h
  ·refine wH J 8 K ?_
   obtain ⟨x3,g,h⟩:=ob h
   refine wa J 6 (eCl (z169_ct N decls_ d_.X _ g) [] [(0,.sl 0)] ?_)
   obtain ⟨x4,i,h⟩:=ob h
   refine eCa i ?_
   obtain ⟨x5,j,h⟩:=ob h
   refine wa J 2 (eCl (z164_ct N d_.C _ j) [] [] ?_)
   obtain ⟨x6,k,h⟩:=ob h
   refine eCa k (wa J 1 (eEnd ?_))
   cases h
   exact eRet J func99 []
  refine wH J 8 K ?_
  obtain ⟨K,h⟩|⟨K,h⟩:=oc h
  ·refine wH J 8 K ?_
   obtain ⟨x7,l,h⟩:=ob h
   refine wa J 6 (eCl (z169_ct N decls_ d_.Y _ l) [] [(0,.sl 0)] ?_)
   obtain ⟨x8,m,h⟩:=ob h
   refine eCa m ?_
   obtain ⟨x9,o,h⟩:=ob h
   refine wa J 3 (eCl (z164_ct N (w64 (0-d_.C)) _ o) [] [] ?_)
   obtain ⟨p,q,h⟩:=ob h
   refine eCa q (wa J 1 (eEnd ?_))
   cases h
   exact eRet J func99 []
  refine wH J 8 K ?_
  obtain ⟨t,u,h⟩:=ob h
  refine wa J 8 (eCl (z169_ct N decls_ d_.X _ u) [] [(0,.sl 0)] ?_)
  obtain ⟨v,x,h⟩:=ob h
  refine eCa x ?_
  obtain ⟨y,z,h⟩:=ob h
  refine wa J 3 (eCl (z169_ct N decls_ d_.Y _ z) [] [(0,.sl 0)] ?_)
  obtain ⟨A,D,h⟩:=ob h
  refine eCa D (wa J 1 (eEnd ?_))
  obtain ⟨K,h⟩|⟨K,h⟩:=oc h
  ·refine wH J 9 K ?_
   obtain ⟨G,H,h⟩:=ob h
   refine wa J 4 (eCa H ?_)
   obtain ⟨R,T,h⟩:=ob h
   refine wa J 2 (eCl (z164_ct N d_.C _ T) [] [] ?_)
   obtain ⟨U,Z,h⟩:=ob h
   refine eCa Z ?_
   cases h
   exact wr J 2 func99 []
  refine wH J 9 K ?_
  obtain ⟨K,h⟩|⟨K,h⟩:=oc' h
  ·refine wH J 8 K ?_
   cases h
   exact wr J 8 func99 []
  refine wH J 8 K ?_
  obtain ⟨a0,b0,h⟩:=ob h
  refine wa J 4 (eCa b0 ?_)
  obtain ⟨c0,d0,h⟩:=ob h
  refine wa J 3 (eCl (z164_ct N (w64 (0-d_.C)) _ d0) [] [] ?_)
  obtain ⟨e0,f0,h⟩:=ob h
  refine eCa f0 ?_
  cases h
  exact wr J 2 func99 []
 obtain ⟨K,h⟩|⟨K,h⟩:=oc h
 ·exact eK K (wa J 6 (eSub [] (j1 (decide (d_.Y < 0)) h)))
 exact eK K (wa J 6 (eSub [] (j1 false h)))
theorem z46_ct (N:Nat) (decls_:(List T0)) (label_:Int) (part_:Int) (r:ByteArray) (h:z46 N decls_ label_ part_=some r) :
 Fn Tryz.prog 46 ⟨1,[.S 0,.I label_,.I part_],[(0,.sl rR0 decls_)],[],1,.c (.s r),[],[]⟩:=by
 refine eFn func46 rfl (fun E F w=>?_)
 unfold z46 at h
 obtain ⟨x1,d,h⟩:=ob h
 refine wa J 9 (eCl (z98_ct N decls_ label_ _ d) [] [(0,.sl 0)] ?_)
 obtain ⟨K,h⟩|⟨K,h⟩:=oc h
 ·refine wH J 11 K ?_
  cases h
  exact wr J 9 func46 []
 refine wH J 11 K ?_
 obtain ⟨K,h⟩|⟨K,h⟩:=oc h
 ·refine wH J 4 K ?_
  cases h
  exact wr J 5 func46 []
 refine wH J 4 K ?_
 obtain ⟨x2,e,h⟩:=ob h
 refine wa J 6 (eIx J oO0 e ?_)
 obtain ⟨K,h⟩|⟨K,h⟩:=oc h
 ·refine wH J 14 K ?_
  obtain ⟨x3,f,h⟩:=ob h
  refine wa J 7 (eIx J oO1 f ?_)
  obtain ⟨x4,g,h⟩:=ob h
  refine wa J 1 (eCl (z99_ct N decls_ x3 _ g) [] [(0,.sl 0)] ?_)
  cases h
  exact wr J 2 func46 []
 refine wH J 14 K ?_
 obtain ⟨K,h⟩|⟨K,h⟩:=oc' h
 ·refine wH J 20 K ?_
  cases h
  exact wr J 6 func46 []
 refine wH J 20 K ?_
 obtain ⟨x5,i,h⟩:=ob h
 refine wa J 7 (eIx J (oP (oI .i64) (oI .i64)) i (eAq 0 rfl ?_))
 obtain ⟨x6,j,h⟩:=ob h
 refine wa J 1 (eCl (z100_ct N decls_ x5.1 _ j) [] [(0,.sl 0)] ?_)
 obtain ⟨x7,k,h⟩:=ob h
 refine eCa k ?_
 obtain ⟨x8,l,h⟩:=ob h
 refine wa J 4 (eIx J (oP (oI .i64) (oI .i64)) l (eAq 1 rfl ?_))
 obtain ⟨x9,m,h⟩:=ob h
 refine wa J 1 (eCl (z100_ct N decls_ x8.2 _ m) [] [(0,.sl 0)] ?_)
 obtain ⟨o,p,h⟩:=ob h
 refine eCa p (wa J 1 (eEnd ?_))
 cases h
 exact eRet J func46 []
theorem z88_ct (N:Nat) (g_:T5) (m_:T8) (b_:T13) (x_:T3) (r:ByteArray) (h:z88 N g_ m_ b_ x_=some r) :
 Fn Tryz.prog 88 ⟨8,[.a (cC5 0 1 2 3 g_),.a (cC8 4 5 6 m_),.a (cC13 b_),.a (cC3 7 x_)],((0,.sl rS g_.Roles)::(1,.sl rR0 g_.Decls)::(2,.sl rR2 g_.Edges)::(3,.sl rR11 g_.Timeouts)::vV8 4 5 6 m_ [(7,.sl rR12 x_.Values)]),[],8,.c (.s r),[],[]⟩:=by
 refine eFn func88 rfl (fun E F w=>?_)
 unfold z88 at h
 obtain ⟨K,h⟩|⟨K,h⟩:=oc h
 ·refine wH J 20 K ?_
  obtain ⟨x1,d,h⟩:=ob h
  refine wa J 7 (eCl (z93_ct N g_.Roles m_.Role _ d) [] [(0,.sl 0)] ?_)
  obtain ⟨x2,e,h⟩:=ob h
  refine eCa e ?_
  cases h
  exact wr J 2 func88 []
 refine wH J 20 K ?_
 obtain ⟨K,h⟩|⟨K,h⟩:=oc h
 ·refine wH J 6 K ?_
  cases h
  exact wr J 5 func88 []
 refine wH J 6 K ?_
 obtain ⟨K,h⟩|⟨K,h⟩:=oc h
 ·refine wH J 6 K ?_
  obtain ⟨x3,f,h⟩:=ob h
  refine wa J 6 (eCl (z164_ct N (x_.Values.length:Int) _ f) [] [] ?_)
  obtain ⟨x4,g,h⟩:=ob h
  refine eCa g ?_
  obtain ⟨x5,i,h⟩:=ob h
  refine eCa i ?_
  obtain ⟨x6,j,h⟩:=ob h
  refine wa J 4 (eIx J oO0 j ?_)
  obtain ⟨x7,k,h⟩:=ob h
  refine wa J 3 (eCl (z164_ct N (x6.Fields.length:Int) _ k) [] [] ?_)
  obtain ⟨x8,l,h⟩:=ob h
  refine eCa l (wa J 1 (eEnd ?_))
  cases h
  exact eRet J func88 []
 refine wH J 6 K ?_
 obtain ⟨K,h⟩|⟨K,h⟩:=oc' h
 ·refine wH J 6 K ?_
  obtain ⟨K,h⟩|⟨K,h⟩:=oc' h
  ·refine wH J 6 K ?_
   cases h
   exact wr J 7 func88 []
  refine wH J 6 K ?_
  obtain ⟨m,o,h⟩:=ob h
  refine wa J 9 (eCl (z46_ct N g_.Decls x_.Label b_.Part _ o) [] [(0,.sl 1)] ?_)
  obtain ⟨p,q,h⟩:=ob h
  refine eCa q ?_
  cases h
  exact wr J 2 func88 []
 refine wH J 6 K ?_
 obtain ⟨x9,t,h⟩:=ob h
 refine wa J 7 (eIx J oO0 t ?_)
 obtain ⟨u,v,h⟩:=ob h
 refine wa J 4 (eIx J oO4 v (wa J 3 (eEnd ?_)))
 obtain ⟨x,y,h⟩:=ob h
 refine wa J 6 (eIx J oO12 y ?_)
 obtain ⟨z,A,h⟩:=ob h
 refine wa J 1 (eCl (z165_ct N x _ A) [] [] ?_)
 obtain ⟨C,D,h⟩:=ob h
 refine eCa D ?_
 obtain ⟨G,H,h⟩:=ob h
 refine eCa H ?_
 obtain ⟨R,T,h⟩:=ob h
 refine wa J 2 (eCa T ?_)
 obtain ⟨U,X,h⟩:=ob h
 refine eCa X ?_
 obtain ⟨Y,Z,h⟩:=ob h
 refine wa J 3 (eCl (z164_ct N u.Sort'.Lo _ Z) [] [] ?_)
 obtain ⟨a0,b0,h⟩:=ob h
 refine eCa b0 ?_
 obtain ⟨c0,d0,h⟩:=ob h
 refine eCa d0 ?_
 obtain ⟨e0,f0,h⟩:=ob h
 refine wa J 3 (eCl (z164_ct N u.Sort'.Hi _ f0) [] [] ?_)
 obtain ⟨g0,i0,h⟩:=ob h
 refine eCa i0 (wa J 1 (eEnd ?_))
 cases h
 exact eRet J func88 []
theorem z41_ct (N:Nat) (g_:T5) (m_:T8) (history_:(List T3)) (r:ByteArray × Int) (h:z41 N g_ m_ history_=some r) :
 Fn Tryz.prog 41 ⟨8,[.a (cC5 0 1 2 3 g_),.a (cC8 4 5 6 m_),.S 7],((0,.sl rS g_.Roles)::(1,.sl rR0 g_.Decls)::(2,.sl rR2 g_.Edges)::(3,.sl rR11 g_.Timeouts)::vV8 4 5 6 m_ [(7,.sl rR3 history_)]),[],8,.t [.inl (.s r.1),.inl (.I r.2)],[],[]⟩:=by
 refine eFn func41 rfl (fun E F w=>?_)
 unfold z41 at h
 obtain ⟨x1,c,h⟩:=ob h
 refine wa J 12 (eCl (z39_ct N g_ m_ history_ _ c) [] [(0,.sl 0),(1,.sl 1),(2,.sl 2),(3,.sl 3),(4,.sl 4),(5,.sl 5),(6,.sl 6),(7,.sl 7)] ?_)
 obtain ⟨K,h⟩|⟨K,h⟩:=oc h
 ·refine wH J 15 K ?_
  cases h
  exact wr J 11 func41 []
 refine wH J 15 K ?_
 obtain ⟨K,h⟩|⟨K,h⟩:=oc h
 ·refine wH J 4 K ?_
  cases h
  exact wr J 7 func41 []
 refine wH J 4 K ?_
 obtain ⟨x2,d,h⟩:=ob h
 refine wa J 7 (eIx J oO3 d ?_)
 obtain ⟨x3,e,h⟩:=ob h
 refine wa J 8 (eCl (z44_ct N g_ x2 _ e) [] [(0,.sl 0),(1,.sl 1),(2,.sl 2),(3,.sl 3),(4,.sl 12)] ?_)
 obtain ⟨x4,f,h⟩:=ob h
 refine eCa f ?_
 obtain ⟨x5,g,h⟩:=ob h
 refine wa J 4 (eCl (z88_ct N g_ m_ x1.1 x2 _ g) [] [(0,.sl 0),(1,.sl 1),(2,.sl 2),(3,.sl 3),(4,.sl 4),(5,.sl 5),(6,.sl 6),(7,.sl 12)] ?_)
 obtain ⟨x6,i,h⟩:=ob h
 refine eCa i (wa J 2 (eEnd ?_))
 cases h
 exact eRet J func41 []
theorem z37_ct (N:Nat) (r:Bool) (h:z37 N=some r) :
 Fn Tryz.prog 37 ⟨0,[],[],[],0,.O r,[],[]⟩:=by
 refine eFn func37 rfl (fun E F w=>?_)
 unfold z37 at h
 refine wa J 14 (eBs J [] oO4 ([(⟨(str [110]),(⟨1,0,9⟩:T10)⟩:T4)]:List T4) (wa J 3 (eBs J [] oO4 ([(⟨(str [109]),(⟨1,0,9⟩:T10)⟩:T4)]:List T4) (wa J 1 (eBs J [] oO1 ([(⟨0,1,(-1)⟩:T1)]:List T1) (wa J 2 (eBs J [1,2,3] oO0 ([(⟨(str [120]),([(⟨(str [110]),(⟨1,0,9⟩:T10)⟩:T4)]:List T4),0,(⟨([]:List T1),([]:List (Int × Int))⟩:T6)⟩:T0),(⟨(str [121]),([(⟨(str [109]),(⟨1,0,9⟩:T10)⟩:T4)]:List T4),1,(⟨([(⟨0,1,(-1)⟩:T1)]:List T1),([]:List (Int × Int))⟩:T6)⟩:T0)]:List T0) (wa J 4 (eBs J [] oS ([(str [97]),(str [98])]:List ByteArray) ?_)))))))))
 obtain ⟨x1,c,h⟩:=ob h
 refine wa J 1 (eFr [4] (eIs J rR0 c (wa J 2 (eBs J [] oO2 ([(⟨0,(⟨0,1,0⟩:T7),1,false⟩:T2)]:List T2) (wa J 6 (eBs J [] oB ([false,true]:List Bool) (wa J 1 (eBs J [] oO9 ([(⟨0,true,1,0,1,false⟩:T9)]:List T9) ?_))))))))
 obtain ⟨x2,d,h⟩:=ob h
 refine wa J 6 (eCl (z83_ct N 3 _ d) [] [] (eBs J [] oO12 ([x2]:List T12) (wa J 9 (eBs J [12] oO3 ([(⟨1,false,0,0,([x2]:List T12)⟩:T3)]:List T3) ?_))))
 obtain ⟨x3,e,h⟩:=ob h
 refine eCb (z39_ct N (⟨(str [80]),([(str [97]),(str [98])]:List ByteArray),x1,2,0,1,([(⟨0,(⟨0,1,0⟩:T7),1,false⟩:T2)]:List T2),([]:List T11)⟩:T5) (⟨0,2,0,([false,true]:List Bool),([(⟨0,true,1,0,1,false⟩:T9)]:List T9),([]:List T11)⟩:T8) ([(⟨1,false,0,0,([x2]:List T12)⟩:T3)]:List T3) _ e) [] [(0,.sl 5),(1,.sl 6),(2,.sl 7),(3,.nil),(4,.sl 9),(5,.sl 10),(6,.nil),(7,.sl 14)] [5,7,9,10,14] (.inr ⟨rfl,trivial⟩) (wa J 14 (eBs J [] oO3 ([(⟨1,false,0,0,([x2]:List T12)⟩:T3)]:List T3) ?_))
 obtain ⟨x4,f,h⟩:=ob h
 refine eCb (z41_ct N (⟨(str [80]),([(str [97]),(str [98])]:List ByteArray),x1,2,0,1,([(⟨0,(⟨0,1,0⟩:T7),1,false⟩:T2)]:List T2),([]:List T11)⟩:T5) (⟨0,2,0,([false,true]:List Bool),([(⟨0,true,1,0,1,false⟩:T9)]:List T9),([]:List T11)⟩:T8) ([(⟨1,false,0,0,([x2]:List T12)⟩:T3)]:List T3) _ f) [] [(0,.sl 5),(1,.sl 6),(2,.sl 7),(3,.nil),(4,.sl 9),(5,.sl 10),(6,.nil),(7,.sl 16)] [5,7,9,10,16] (.inr ⟨rfl,trivial⟩) ?_
 obtain ⟨x5,g,h⟩:=ob h
 refine wa J 9 (eCl (z46_ct N ([(⟨(str [120]),([(⟨(str [110]),(⟨1,0,9⟩:T10)⟩:T4)]:List T4),0,(⟨([]:List T1),([]:List (Int × Int))⟩:T6)⟩:T0),(⟨(str [121]),([(⟨(str [109]),(⟨1,0,9⟩:T10)⟩:T4)]:List T4),1,(⟨([(⟨0,1,(-1)⟩:T1)]:List T1),([]:List (Int × Int))⟩:T6)⟩:T0)]:List T0) 1 0 _ g) [] [(0,.sl 4)] ?_)
 obtain ⟨K,h⟩|⟨K,h⟩:=oc' h
 ·refine wH J 2 K ?_
  cases h
  exact wr J 21 func37 []
 refine wH J 2 K ?_
 obtain ⟨K,h⟩|⟨K,h⟩:=oc' h
 ·refine wH J 3 K ?_
  cases h
  exact wr J 18 func37 []
 refine wH J 3 K ?_
 obtain ⟨K,h⟩|⟨K,h⟩:=oc' h
 ·refine wH J 4 K ?_
  cases h
  exact wr J 14 func37 []
 refine wH J 4 K ?_
 obtain ⟨K,h⟩|⟨K,h⟩:=oc' h
 ·refine wH J 4 K ?_
  cases h
  exact wr J 10 func37 []
 refine wH J 4 K (wa J 2 (eEq ?_))
 obtain ⟨K,h⟩|⟨K,h⟩:=oc h
 ·refine wH J 2 K ?_
  cases h
  exact wr J 5 func37 []
 refine wH J 2 K ?_
 cases h
 exact wr J 5 func37 []
theorem z38_ct (N:Nat) (g_:T5) (m_:T8) (l_:(List T3)) (r:Bool) (h:z38 N g_ m_ l_=some r) :
 Fn Tryz.prog 38 ⟨8,[.a (cC5 0 1 2 3 g_),.a (cC8 4 5 6 m_),.S 7],((0,.sl rS g_.Roles)::(1,.sl rR0 g_.Decls)::(2,.sl rR2 g_.Edges)::(3,.sl rR11 g_.Timeouts)::vV8 4 5 6 m_ [(7,.sl rR3 l_)]),[],8,.O r,[],[]⟩:=by
 refine eFn func38 rfl (fun E F w=>?_)
 unfold z38 at h
 obtain ⟨x1,c,h⟩:=ob h
 refine wa J 9 (eCl (z43_ct N g_ _ c) [] [(0,.sl 0),(1,.sl 1),(2,.sl 2),(3,.sl 3)] ?_)
 obtain ⟨K,h⟩|⟨K,h⟩:=oc' h
 ·refine wH J 1 K ?_
  cases h
  exact wr J 9 func38 []
 refine wH J 1 K ?_
 obtain ⟨x2,d,h⟩:=ob h
 refine wa J 1 (eCl (z54_ct N m_ _ d) [] [(0,.sl 4),(1,.sl 5),(2,.sl 6)] ?_)
 obtain ⟨K,h⟩|⟨K,h⟩:=oc' h
 ·refine wH J 2 K ?_
  cases h
  exact wr J 5 func38 []
 refine wH J 2 K ?_
 obtain ⟨x3,e,h⟩:=ob h
 refine wa J 1 (eCl (z55_ct N l_ _ e) [] [(0,.sl 7)] ?_)
 cases h
 exact wr J 3 func38 []
theorem z51_ct (N:Nat) (d_:T0) (r:Int) (h:z51 N d_=some r) :
 Fn Tryz.prog 51 ⟨3,[.a (cC0 0 1 2 d_)],(vV0 0 1 2 d_ []),[],3,.I r,[],[]⟩:=by
 refine eFn func51 rfl (fun E F w=>?_)
 unfold z51 at h
 cases h
 exact wr J 18 func51 []
theorem z110_ct (N:Nat) (d_:T0) (l_:(List T12)) (known_:(List T12)) (x_:Int) (r:T12 × Bool) (h:z110 N d_ l_ known_ x_=some r) :
 Fn Tryz.prog 110 ⟨5,[.a (cC0 0 1 2 d_),.S 3,.S 4,.I x_],(vV0 0 1 2 d_ [(3,.sl rR12 l_),(4,.sl rR12 known_)]),[],5,.t [.inr (cC12 r.1),.inl (.b r.2)],[],[]⟩:=by
 refine eFn func110 rfl (fun E F w=>?_)
 unfold z110 at h
 obtain ⟨K,h⟩|⟨K,h⟩:=oc h
 ·refine wH J 14 K ?_
  obtain ⟨x1,c,h⟩:=ob h
  refine wa J 3 (eCl (z83_ct N 0 _ c) [] [] ?_)
  cases h
  exact wr J 3 func110 []
 refine wH J 14 K ?_
 obtain ⟨K,h⟩|⟨K,h⟩:=oc' h
 ·refine wH J 8 K ?_
  obtain ⟨x5,d,h⟩:=ob h
  refine wa J 17 (eIx J oO12 d ?_)
  obtain ⟨x6,e,h⟩:=ob h
  refine wa J 3 (eIx J oO12 e (wa J 5 (eEnd ?_)))
  cases h
  exact eRet J func110 []
 refine wH J 8 K ?_
 obtain ⟨K,h⟩|⟨K,h⟩:=oc h
 ·refine wH J 10 K ?_
  obtain ⟨x2,f,h⟩:=ob h
  refine wa J 8 (eIx J oO12 f ?_)
  cases h
  exact wr J 4 func110 []
 refine wH J 10 K ?_
 obtain ⟨x3,g,h⟩:=ob h
 refine wa J 7 (eIx J oO12 g ?_)
 obtain ⟨x4,i,h⟩:=ob h
 refine wa J 3 (eIx J oO12 i (wa J 5 (eEnd ?_)))
 cases h
 exact eRet J func110 []
theorem z50_ct (N:Nat) (d_:T0) (l_:(List T12)) (known_:(List T12)) (part_:Int) (r:Bool) (h:z50 N d_ l_ known_ part_=some r) :
 Fn Tryz.prog 50 ⟨5,[.a (cC0 0 1 2 d_),.S 3,.S 4,.I part_],(vV0 0 1 2 d_ [(3,.sl rR12 l_),(4,.sl rR12 known_)]),[],5,.O r,[],[]⟩:=by
 refine eFn func50 rfl (fun E F w=>?_)
 unfold z50 at h
 obtain ⟨K,h⟩|⟨K,h⟩:=oc h
 ·refine wH J 20 K ?_
  obtain ⟨x1,c,h⟩:=ob h
  refine wa J 9 (eIx J (oP (oI .i64) (oI .i64)) c (wa J 9 (eAb 0 rfl ?_)))
  obtain ⟨x2,d,h⟩:=ob h
  refine wa J 1 (eCl (z110_ct N d_ l_ known_ x1.1 _ d) [] [(0,.sl 0),(1,.sl 1),(2,.sl 2),(3,.sl 3),(4,.sl 4)] (wa J 12 (eAb 1 rfl ?_)))
  obtain ⟨x3,e,h⟩:=ob h
  refine wa J 1 (eCl (z110_ct N d_ l_ known_ x1.2 _ e) [] [(0,.sl 0),(1,.sl 1),(2,.sl 2),(3,.sl 3),(4,.sl 4)] ?_)
  obtain ⟨K,h⟩|⟨K,h⟩:=oc' h
  ·refine wH J 11 K ?_
   cases h
   exact wr J 11 func50 []
  refine wH J 11 K ?_
  obtain ⟨K,h⟩|⟨K,h⟩:=oc h
  ·refine wH J 3 K ?_
   cases h
   exact wr J 8 func50 []
  refine wH J 3 K ?_
  cases h
  exact wr J 8 func50 []
 refine wH J 20 K ?_
 obtain ⟨x4,f,h⟩:=ob h
 refine wa J 8 (eIx J oO1 f ?_)
 obtain ⟨x5,g,h⟩:=ob h
 refine wa J 11 (eCl (z110_ct N d_ l_ known_ x4.X _ g) [] [(0,.sl 0),(1,.sl 1),(2,.sl 2),(3,.sl 3),(4,.sl 4)] ?_)
 obtain ⟨x6,i,h⟩:=ob h
 refine wa J 14 (eCl (z110_ct N d_ l_ known_ x4.Y _ i) [] [(0,.sl 0),(1,.sl 1),(2,.sl 2),(3,.sl 3),(4,.sl 4)] ?_)
 obtain ⟨K,h⟩|⟨K,h⟩:=oc' h
 ·refine wH J 11 K (wa J 13 (eEnd ?_))
  cases h
  exact eRet J func50 []
 refine wH J 11 K ?_
 obtain ⟨K,h⟩|⟨K,h⟩:=oc' h
 ·refine wH J 3 K (wa J 10 (eEnd ?_))
  cases h
  exact eRet J func50 []
 refine wH J 3 K ?_
 obtain ⟨x7,j,h⟩:=ob h
 refine wa J 1 (eCl (z109_ct N x5.1 _ j) [] [] ?_)
 obtain ⟨x8,k,h⟩:=ob h
 refine wa J 1 (eCl (z109_ct N x6.1 _ k) [] [] (wa J 6 (eEnd ?_)))
 cases h
 exact eRet J func50 []
theorem law41_BlameParts_ct (N:Nat) (g_:T5) (m_:T8) (l_:(List T3)) (r:Bool) (h:law41_BlameParts N g_ m_ l_=some r) :
 Fn Tryz.prog 11 ⟨8,[.a (cC5 0 1 2 3 g_),.a (cC8 4 5 6 m_),.S 7],((0,.sl rS g_.Roles)::(1,.sl rR0 g_.Decls)::(2,.sl rR2 g_.Edges)::(3,.sl rR11 g_.Timeouts)::vV8 4 5 6 m_ [(7,.sl rR3 l_)]),[],8,.O r,[],[]⟩:=by
 refine eFn func11 rfl (fun E F w=>?_)
 unfold law41_BlameParts at h
 obtain ⟨x1,c,h⟩:=ob h
 refine wa J 9 (eCl (z37_ct N _ c) [] [] ?_)
 obtain ⟨K,h⟩|⟨K,h⟩:=oc h
 ·refine wH J 2 K ?_
  cases h
  exact wr J 5 func11 []
 refine wH J 2 K ?_
 obtain ⟨x2,d,h⟩:=ob h
 refine wa J 8 (eCl (z38_ct N g_ m_ l_ _ d) [] [(0,.sl 0),(1,.sl 1),(2,.sl 2),(3,.sl 3),(4,.sl 4),(5,.sl 5),(6,.sl 6),(7,.sl 7)] ?_)
 obtain ⟨K,h⟩|⟨K,h⟩:=oc h
 ·refine wH J 2 K ?_
  cases h
  exact wr J 5 func11 []
 refine wH J 2 K ?_
 obtain ⟨x3,e,h⟩:=ob h
 refine wa J 7 (eCl (z39_ct N g_ m_ l_ _ e) [] [(0,.sl 0),(1,.sl 1),(2,.sl 2),(3,.sl 3),(4,.sl 4),(5,.sl 5),(6,.sl 6),(7,.sl 7)] ?_)
 obtain ⟨K,h⟩|⟨K,h⟩:=oc h
 ·refine wH J 15 K ?_
  cases h
  exact wr J 17 func11 []
 refine wH J 15 K ?_
 obtain ⟨K,h⟩|⟨K,h⟩:=oc h
 ·refine wH J 4 K ?_
  cases h
  exact wr J 13 func11 []
 refine wH J 4 K ?_
 obtain ⟨K,h⟩|⟨K,h⟩:=oc h
 ·refine wH J 5 K ?_
  cases h
  exact wr J 8 func11 []
 refine wH J 5 K ?_
 obtain ⟨x4,f,h⟩:=ob h
 refine wa J 9 (eIs J rR3 f ?_)
 obtain ⟨x5,g,h⟩:=ob h
 refine eCl (z15_ct N g_ m_ x4 _ g) [] [(0,.sl 0),(1,.sl 1),(2,.sl 2),(3,.sl 3),(4,.sl 4),(5,.sl 5),(6,.sl 6),(7,.sl 11)] (wa J 8 (eEnd ?_))
 obtain ⟨x6,i,h⟩:=ob h
 refine wa J 5 (eIx J oO3 i ?_)
 obtain ⟨K,h⟩|⟨K,h⟩:=oc h
 ·refine wH J 11 K ?_
  cases h
  exact wr J 21 func11 []
 refine wH J 11 K ?_
 obtain ⟨K,h⟩|⟨K,h⟩:=oc h
 ·refine wH J 8 K ?_
  cases h
  exact wr J 13 func11 []
 refine wH J 8 K ?_
 obtain ⟨x7,j,h⟩:=ob h
 refine wa J 4 (eCl (z48_ct N g_.Decls x5.1.Known _ j) [] [(0,.sl 1),(1,.sl 12)] ?_)
 obtain ⟨K,h⟩|⟨K,h⟩:=oc h
 ·refine wH J 3 K ?_
  cases h
  exact wr J 5 func11 []
 refine wH J 3 K ?_
 obtain ⟨x8,k,h⟩:=ob h
 refine wa J 8 (eIx J oO0 k ?_)
 obtain ⟨K,h⟩|⟨K,h⟩:=oc h
 ·refine wH J 16 K ?_
  obtain ⟨K,h⟩|⟨K,h⟩:=oc h
  ·refine wH J 11 K ?_
   cases h
   exact wr J 6 func11 []
  refine wH J 11 K ?_
  cases h
  exact wr J 6 func11 []
 refine wH J 16 K ?_
 obtain ⟨K,h⟩|⟨K,h⟩:=oc h
 ·refine wH J 6 K (wa J 6 (eCut (σ:=Unit) (fun st=>(zz22 x3.1 x6 x8 g_.Roles g_.Decls g_.Edges g_.Timeouts m_ l_ x6.Values [(7,.B 10 0),(13,.B 17 0),(14,.B 22 0)])) (fun st=>law41_BlameParts_k1 N x3 x6 x8=some r) ?_ (fun j1=>?_)))
  ·intro _ h
   replace h:law41_BlameParts_k1 N x3 x6 x8=some r:=h
   unfold law41_BlameParts_k1 at h
   obtain ⟨K,h⟩|⟨K,h⟩:=oc' h
   ·refine wH J 9 K (wa J 17 (eEnd ?_))
    cases h
    exact eRet J func11 []
   refine wH J 9 K ?_
   obtain ⟨l,m,h⟩:=ob h
   refine wa J 4 (eIx J oO4 m ?_)
   obtain ⟨o,p,h⟩:=ob h
   refine wa J 6 (eIx J oO12 p ?_)
   obtain ⟨q,s,h⟩:=ob h
   refine wa J 1 (eCl (z49_ct N l.Sort' o _ s) [] [] (wa J 3 (eEnd ?_)))
   cases h
   exact eRet J func11 []
  refine wa J 1 (eLoop (σ:=Int) (fun st=>(zz22 x3.1 x6 x8 g_.Roles g_.Decls g_.Edges g_.Timeouts m_ l_ x6.Values [(7,.B 10 0),(13,.B 17 0),(14,.B 22 0),(15,.I st)])) (fun n st=>law41_BlameParts_l2 N x3 x6 x8 n st) (r:=r) (fun _=>rfl) ?_ (fun ih=>?_))
  ·intro n2 ih3
   intro t h
   replace h:law41_BlameParts_l2 N x3 x6 x8 (n2+1) t=some r:=h
   unfold law41_BlameParts_l2 at h
   obtain ⟨K,h⟩|⟨K,h⟩:=oc' h
   ·exact wH J 8 K (wa J 2 (eSub [] (j1 () h)))
   refine wH J 8 K ?_
   obtain ⟨u,v,h⟩:=ob h
   refine wa J 9 (eIx J oO4 v ?_)
   obtain ⟨x,y,h⟩:=ob h
   refine wa J 5 (eIx J oO12 y ?_)
   obtain ⟨z,A,h⟩:=ob h
   refine wa J 1 (eCl (z49_ct N u.Sort' x _ A) [] [] (wa J 1 (eEnd ?_)))
   obtain ⟨K,h⟩|⟨K,h⟩:=oc h
   ·refine eK K ?_
    cases h
    exact wr J 5 func11 []
   exact eK K (wa J 8 (eSub [] (ih3 (w64 (t+1)) h)))
  exact eSub [] (ih N 0 h)
 refine wH J 6 K ?_
 obtain ⟨K,h⟩|⟨K,h⟩:=oc' h
 ·refine wH J 6 K ?_
  obtain ⟨K,h⟩|⟨K,h⟩:=oc' h
  ·refine wH J 12 K (wa J 36 (eEnd ?_))
   cases h
   exact eRet J func11 []
  refine wH J 12 K ?_
  obtain ⟨K,h⟩|⟨K,h⟩:=oc' h
  ·refine wH J 8 K (wa J 28 (eEnd ?_))
   cases h
   exact eRet J func11 []
  refine wH J 8 K ?_
  obtain ⟨C,D,h⟩:=ob h
  refine wa J 4 (eIx J oO12 D ?_)
  obtain ⟨G,H,h⟩:=ob h
  refine wa J 5 (eIx J oO12 H (wa J 1 (eEq ?_)))
  obtain ⟨K,h⟩|⟨K,h⟩:=oc' h
  ·refine wH J 2 K (wa J 13 (eEnd ?_))
   cases h
   exact eRet J func11 []
  refine wH J 2 K ?_
  obtain ⟨R,T,h⟩:=ob h
  refine wa J 4 (eIs J rR12 T ?_)
  obtain ⟨U,X,h⟩:=ob h
  refine wa J 4 (eIs J rR12 X ?_)
  obtain ⟨Y,Z,h⟩:=ob h
  refine eCl (z22_ct N R U _ Z) [] [(0,.sl 25),(1,.sl 26)] (wa J 2 (eEnd ?_))
  cases h
  exact eRet J func11 []
 refine wH J 6 K (wa J 6 (eCut (σ:=Unit) (fun st=>(zz23 x3.1 x5.1 x6 x8 g_.Roles g_.Decls g_.Edges g_.Timeouts m_.Finals m_.Moves m_.Timeouts l_ x6.Values [(7,.B 10 0),(10,.B 14 0),(13,.B 17 0),(14,.B 22 0)])) (fun st=>law41_BlameParts_k3 N x3 x5 x6 x8=some r) ?_ (fun j4=>?_)))
 ·intro _ h
  replace h:law41_BlameParts_k3 N x3 x5 x6 x8=some r:=h
  unfold law41_BlameParts_k3 at h
  obtain ⟨a0,b0,h⟩:=ob h
  refine wa J 5 (eCl (z51_ct N x8 _ b0) [] [(0,.sl 19),(1,.sl 20),(2,.sl 21)] ?_)
  obtain ⟨K,h⟩|⟨K,h⟩:=oc' h
  ·refine wH J 2 K (wa J 11 (eEnd ?_))
   cases h
   exact eRet J func11 []
  refine wH J 2 K ?_
  obtain ⟨c0,d0,h⟩:=ob h
  refine wa J 7 (eCl (z50_ct N x8 x6.Values x5.1.Known x3.1.Part _ d0) [] [(0,.sl 19),(1,.sl 20),(2,.sl 21),(3,.sl 16),(4,.sl 12)] (wa J 3 (eEnd ?_)))
  cases h
  exact eRet J func11 []
 refine wa J 1 (eLoop (σ:=Int) (fun st=>(zz23 x3.1 x5.1 x6 x8 g_.Roles g_.Decls g_.Edges g_.Timeouts m_.Finals m_.Moves m_.Timeouts l_ x6.Values [(7,.B 10 0),(10,.B 14 0),(13,.B 17 0),(14,.B 22 0),(16,.I st)])) (fun n st=>law41_BlameParts_l4 N x3 x5 x6 x8 n st) (r:=r) (fun _=>rfl) ?_ (fun ih=>?_))
 ·intro n4 ih6
  intro e0 h
  replace h:law41_BlameParts_l4 N x3 x5 x6 x8 (n4+1) e0=some r:=h
  unfold law41_BlameParts_l4 at h
  obtain ⟨K,h⟩|⟨K,h⟩:=oc' h
  ·exact wH J 8 K (wa J 2 (eSub [] (j4 () h)))
  refine wH J 8 K ?_
  obtain ⟨f0,g0,h⟩:=ob h
  refine wa J 12 (eCl (z50_ct N x8 x6.Values x5.1.Known e0 _ g0) [] [(0,.sl 19),(1,.sl 20),(2,.sl 21),(3,.sl 16),(4,.sl 12)] ?_)
  obtain ⟨K,h⟩|⟨K,h⟩:=oc h
  ·refine wH J 2 K ?_
   cases h
   exact wr J 5 func11 []
  exact wH J 2 K (wa J 8 (eSub [] (ih6 (w64 (e0+1)) h)))
 exact eSub [] (ih N 0 h)
end Gx
end
