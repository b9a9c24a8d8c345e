/- Each function of the statement computes what its plain definition says, part 2. -/
import Derived.Test.YtdomlpmomldmhaaGreatDoorBlameShowWalk1
set_option linter.all false
section
set_option maxRecDepth 10000
set_option maxHeartbeats 4000000
open Go Go.Kx Go.Proofs Tryz
namespace Gx
theorem z184_ct (N:Nat) (s_:ByteArray) (r:Bool) (h:z184 N s_=some r) :
 Fn Tryz.prog 184 ⟨0,[.c (.s s_)],[],[],0,.O r,[],[]⟩:=by
 refine eFn func184 rfl (fun E F w=>?_)
 unfold z184 at h
 obtain ⟨K,h⟩|⟨K,h⟩:=oc h
 ·refine wH J 10 K ?_
  cases h
  exact wr J 16 func184 []
 refine wH J 10 K ?_
 obtain ⟨x1,d,h⟩:=ob h
 refine wa J 1 (eSx J d ?_)
 obtain ⟨x2,e,h⟩:=ob h
 refine eCl (z238_ct N x1 _ e) [] [] ?_
 obtain ⟨K,h⟩|⟨K,h⟩:=oc h
 ·refine wH J 3 K ?_
  cases h
  exact wr J 10 func184 []
 refine wH J 3 K ?_
 obtain ⟨K,h⟩|⟨K,h⟩:=oc h
 ·refine wH J 5 K ?_
  cases h
  exact wr J 5 func184 []
 refine wH J 5 K (wa J 7 (eCut (σ:=Unit) (fun st=>(zz0 [])) (fun st=>z184_k1=some r) ?_ (fun j1=>?_)))
 ·intro _ h
  replace h:z184_k1=some r:=h
  unfold z184_k1 at h
  cases h
  exact wr J 4 func184 []
 refine wa J 1 (eLoop (σ:=Int) (fun st=>(zz0 [(0,.c (.s s_)),(3,.I st)])) (fun n st=>z184_l2 N s_ n st) (r:=r) (fun _=>rfl) ?_ (fun ih=>?_))
 ·intro n2 ih3
  intro f h
  replace h:z184_l2 N s_ (n2+1) f=some r:=h
  unfold z184_l2 at h
  obtain ⟨K,h⟩|⟨K,h⟩:=oc' h
  ·exact wH J 8 K (wa J 2 (eSub [] (j1 () h)))
  refine wH J 8 K ?_
  obtain ⟨g,i,h⟩:=ob h
  refine wa J 8 (eSx J i ?_)
  obtain ⟨j,k,h⟩:=ob h
  refine eCl (z239_ct N g _ k) [] [] ?_
  obtain ⟨K,h⟩|⟨K,h⟩:=oc h
  ·refine wH J 2 K ?_
   cases h
   exact wr J 5 func184 []
  exact wH J 2 K (wa J 8 (eSub [] (ih3 (w64 (f+1)) h)))
 exact eSub [] (ih N 0 h)
theorem z234_ct (N:Nat) (r:(List ByteArray)) (h:z234 N=some r) :
 Fn Tryz.prog 234 ⟨0,[],[],[],1,.S 0,[],[(0,.own rS r true)]⟩:=by
 refine eFn func234 rfl (fun E F w=>?_)
 unfold z234 at h
 refine wa J 6 (eBs J [] oS ([(str [97,103,97,105,110]),(str [97,110,100]),(str [97,115]),(str [97,116]),(str [99,97,108,108]),(str [99,104,111,105,99,101]),(str [101,108,115,101]),(str [102,114,111,109]),(str [105,102]),(str [105,110,116]),(str [108,101,110]),(str [108,111,111,112]),(str [109,101,115,115,97,103,101]),(str [111,102]),(str [111,102,102,101,114]),(str [111,110]),(str [111,114]),(str [112,97,114]),(str [112,108,97,121,115]),(str [112,114,111,116,111,99,111,108]),(str [115,101,114,118,105,99,101]),(str [116,101,120,116]),(str [116,105,109,101,115]),(str [116,111]),(str [118,97,114]),(str [119,104,101,114,101]),(str [119,104,105,108,101]),(str [119,105,116,104,105,110])]:List ByteArray) ?_)
 cases h
 exact wr J 2 func234 [(0,.sl 0)]
theorem z233_ct (N:Nat) (l_:(List ByteArray)) (s_:ByteArray) (r:Bool) (h:z233 N l_ s_=some r) :
 Fn Tryz.prog 233 ⟨1,[.S 0,.c (.s s_)],[(0,.sl rS l_)],[],1,.O r,[],[]⟩:=by
 refine eFn func233 rfl (fun E F w=>?_)
 unfold z233 at h
 refine wa J 9 (eCut (σ:=Unit) (fun st=>(zz2 l_ [])) (fun st=>z233_k1=some r) ?_ (fun j1=>?_))
 ·intro _ h
  replace h:z233_k1=some r:=h
  unfold z233_k1 at h
  cases h
  exact wr J 4 func233 []
 refine wa J 1 (eLoop (σ:=Int) (fun st=>(zz2 l_ [(0,.S 0),(1,.c (.s s_)),(5,.I st)])) (fun n st=>z233_l2 l_ s_ n st) (r:=r) (fun _=>rfl) ?_ (fun ih=>?_))
 ·intro n2 ih3
  intro d h
  replace h:z233_l2 l_ s_ (n2+1) d=some r:=h
  unfold z233_l2 at h
  obtain ⟨K,h⟩|⟨K,h⟩:=oc' h
  ·exact wH J 8 K (wa J 2 (eSub [] (j1 () h)))
  refine wH J 8 K ?_
  obtain ⟨x9,e,h⟩:=ob h
  refine wa J 8 (eIx J oS e ?_)
  obtain ⟨K,h⟩|⟨K,h⟩:=oc h
  ·refine wH J 4 K ?_
   cases h
   exact wr J 5 func233 []
  exact wH J 4 K (wa J 8 (eSub [] (ih3 (w64 (d+1)) h)))
 exact eSub [] (ih N 0 h)
theorem z172_ct (N:Nat) (s_:ByteArray) (r:Bool) (h:z172 N s_=some r) :
 Fn Tryz.prog 172 ⟨0,[.c (.s s_)],[],[],0,.O r,[],[]⟩:=by
 refine eFn func172 rfl (fun E F w=>?_)
 unfold z172 at h
 obtain ⟨x1,d,h⟩:=ob h
 refine wa J 7 (eCl (z184_ct N s_ _ d) [] [] ?_)
 obtain ⟨K,h⟩|⟨K,h⟩:=oc' h
 ·refine wH J 1 K ?_
  cases h
  exact wr J 7 func172 []
 refine wH J 1 K ?_
 obtain ⟨x2,e,h⟩:=ob h
 refine eCl (z234_ct N _ e) [] [] ?_
 obtain ⟨x3,f,h⟩:=ob h
 refine wa J 1 (eCb (z233_ct N x2 s_ _ f) [] [(0,.sl 0)] [0] (.inr ⟨rfl,trivial⟩) ?_)
 cases h
 exact wr J 4 func172 []
theorem z104_ct (N:Nat) (decls_:(List T0)) (r:Int) (h:z104 N decls_=some r) :
 Fn Tryz.prog 104 ⟨1,[.S 0],[(0,.sl rR0 decls_)],[],1,.I r,[],[]⟩:=by
 refine eFn func104 rfl (fun E F w=>?_)
 unfold z104 at h
 refine wa J 13 (eCut (σ:=Int) (fun st=>(zz1 decls_ [(3,.I st)])) (fun st=>z104_k1 st=some r) ?_ (fun j1=>?_))
 ·intro c h
  replace h:z104_k1 c=some r:=h
  unfold z104_k1 at h
  cases h
  exact wr J 5 func104 []
 refine wa J 1 (eLoop (σ:=Int × Int) (fun st=>(zz1 decls_ [(0,.S 0),(3,.I st.1),(4,.I st.2)])) (fun n st=>z104_l2 decls_ n st.1 st.2) (r:=r) (fun _=>rfl) ?_ (fun ih=>?_))
 ·intro n2 ih3
  rintro ⟨d,e⟩ h
  replace h:z104_l2 decls_ (n2+1) d e=some r:=h
  unfold z104_l2 at h
  obtain ⟨K,h⟩|⟨K,h⟩:=oc' h
  ·exact wH J 8 K (wa J 2 (eSub [] (j1 d h)))
  refine wH J 8 K ?_
  obtain ⟨x9,f,h⟩:=ob h
  exact wa J 8 (eIx J oO0 f (wa J 12 (eSub [] (ih3 ((w64 (d+(x9.Fields.length:Int))),(w64 (e+1))) h))))
 exact eSub [] (ih N (0,0) h)
theorem z171_ct (N:Nat) (s_:T10) (r:Bool) (h:z171 N s_=some r) :
 Fn Tryz.prog 171 ⟨0,[.a (cC10 s_)],[],[],0,.O r,[],[]⟩:=by
 refine eFn func171 rfl (fun E F w=>?_)
 unfold z171 at h
 refine wa J 17 (eCut (σ:=Int × Int) (fun st=>⟨[(1,.B 0 0),(3,.I st.1),(4,.I st.2)],[(0,.box (cC10 s_) 113)],[],1⟩) (fun st=>z171_k1 s_ st.1 st.2=some r) ?_ (fun j1=>?_))
 ·rintro ⟨c,d⟩ h
  replace h:z171_k1 s_ c d=some r:=h
  unfold z171_k1 at h
  obtain ⟨K,h⟩|⟨K,h⟩:=oc h
  ·refine wH J 6 K ?_
   obtain ⟨K,h⟩|⟨K,h⟩:=oc' h
   ·refine wH J 11 K ?_
    cases h
    exact wr J 14 func171 []
   refine wH J 11 K ?_
   obtain ⟨K,h⟩|⟨K,h⟩:=oc h
   ·refine wH J 6 K ?_
    cases h
    exact wr J 8 func171 []
   refine wH J 6 K ?_
   cases h
   exact wr J 8 func171 []
  refine wH J 6 K ?_
  obtain ⟨K,h⟩|⟨K,h⟩:=oc' h
  ·refine wH J 5 K ?_
   cases h
   exact wr J 20 func171 []
  refine wH J 5 K ?_
  obtain ⟨K,h⟩|⟨K,h⟩:=oc' h
  ·refine wH J 6 K ?_
   cases h
   exact wr J 14 func171 []
  refine wH J 6 K ?_
  obtain ⟨K,h⟩|⟨K,h⟩:=oc h
  ·refine wH J 6 K ?_
   cases h
   exact wr J 8 func171 []
  refine wH J 6 K ?_
  cases h
  exact wr J 8 func171 []
 obtain ⟨K,h⟩|⟨K,h⟩:=oc h
 ·exact eK K (wa J 5 (eSub [] (j1 (0,40) h)))
 exact eK K (wa J 2 (eSub [] (j1 ((-1000),1000) h)))
theorem z235_ct (N:Nat) (s_:ByteArray) (r:Bool) (h:z235 N s_=some r) :
 Fn Tryz.prog 235 ⟨0,[.c (.s s_)],[],[],0,.O r,[],[]⟩:=by
 refine eFn func235 rfl (fun E F w=>?_)
 unfold z235 at h
 obtain ⟨x1,d,h⟩:=ob h
 refine wa J 7 (eCl (z172_ct N s_ _ d) [] [] ?_)
 cases h
 exact wr J 2 func235 []
theorem z173_ct (N:Nat) (s_:ByteArray) (r:Bool) (h:z173 N s_=some r) :
 Fn Tryz.prog 173 ⟨0,[.c (.s s_)],[],[],0,.O r,[],[]⟩:=by
 refine eFn func173 rfl (fun E F w=>?_)
 unfold z173 at h
 refine wa J 13 (eCut (σ:=Unit) (fun st=>(zz0 [(0,.c (.s s_))])) (fun st=>z173_k1 s_=some r) ?_ (fun j1=>?_))
 ·intro _ h
  replace h:z173_k1 s_=some r:=h
  unfold z173_k1 at h
  cases h
  exact wr J 7 func173 []
 refine wa J 1 (eLoop (σ:=Int × Int) (fun st=>(zz0 [(0,.c (.s s_)),(3,.I st.1),(4,.I st.2)])) (fun n st=>z173_l2 N s_ n st.1 st.2) (r:=r) (fun _=>rfl) ?_ (fun ih=>?_))
 ·intro n2 ih6
  rintro ⟨d,e⟩ h
  replace h:z173_l2 N s_ (n2+1) d e=some r:=h
  unfold z173_l2 at h
  obtain ⟨K,h⟩|⟨K,h⟩:=oc' h
  ·exact wH J 8 K (wa J 2 (eSub [] (j1 () h)))
  refine wH J 8 K ?_
  refine wa J 11 (eCut (σ:=Bool) (fun st=>(zz0 [(0,.c (.s s_)),(3,.I d),(4,.I e),(20,.O st)])) (fun st=>z173_k3 N s_ d e (z173_l2 N s_ n2) st=some r) ?_ (fun j9=>?_))
  ·intro f h
   replace h:z173_k3 N s_ d e (z173_l2 N s_ n2) f=some r:=h
   unfold z173_k3 at h
   obtain ⟨K,h⟩|⟨K,h⟩:=oc' h
   ·exact eK K (wa J 8 (eSub [] (ih6 (d,(w64 (e+1))) h)))
   refine eK K ?_
   obtain ⟨g,i,h⟩:=ob h
   refine wa J 7 (eSs J i ?_)
   obtain ⟨j,k,h⟩:=ob h
   refine eCl (z235_ct N g _ k) [] [] ?_
   obtain ⟨K,h⟩|⟨K,h⟩:=oc h
   ·refine wH J 2 K ?_
    cases h
    exact wr J 5 func173 []
   exact wH J 2 K (wa J 13 (eSub [] (ih6 ((w64 (e+1)),(w64 (e+1))) h)))
  obtain ⟨K,h⟩|⟨K,h⟩:=oc h
  ·exact eK K (wa J 6 (eSub [] (j9 true h)))
  refine eK K ?_
  obtain ⟨l,m,h⟩:=ob h
  exact wa J 2 (eSx J m (wa J 3 (eSub [] (j9 (l==46) h))))
 exact eSub [] (ih N (0,0) h)
theorem z106_ct (N:Nat) (decls_:(List T0)) (x_:Int) (r:T4) (h:z106 N decls_ x_=some r) :
 Fn Tryz.prog 106 ⟨1,[.S 0,.I x_],[(0,.sl rR0 decls_)],[],1,.a (cC4 r),[],[]⟩:=by
 refine eFn func106 rfl (fun E F w=>?_)
 unfold z106 at h
 refine wa J 9 (eCut (σ:=Unit) (fun st=>⟨[(4,.B 1 0)],[(1,.box [.s (str []),.I 0,.I 0,.I 0] 115)],[(0,.sl rR0 decls_)],2⟩) (fun st=>z106_k1=some r) ?_ (fun j1=>?_))
 ·intro _ h
  replace h:z106_k1=some r:=h
  unfold z106_k1 at h
  cases h
  exact wr J 5 func106 []
 refine wa J 1 (eLoop (σ:=Int × Int) (fun st=>⟨[(0,.S 0),(1,.I st.1),(4,.B 1 0),(5,.I st.2)],[(1,.box [.s (str []),.I 0,.I 0,.I 0] 115)],[(0,.sl rR0 decls_)],2⟩) (fun n st=>z106_l2 decls_ n st.1 st.2) (r:=r) (fun _=>rfl) ?_ (fun ih=>?_))
 ·intro n2 ih3
  rintro ⟨c,d⟩ h
  replace h:z106_l2 decls_ (n2+1) c d=some r:=h
  unfold z106_l2 at h
  obtain ⟨K,h⟩|⟨K,h⟩:=oc' h
  ·exact wH J 8 K (wa J 2 (eSub [] (j1 () h)))
  refine wH J 8 K ?_
  obtain ⟨e,f,h⟩:=ob h
  refine wa J 10 (eIx J oO0 f ?_)
  obtain ⟨K,h⟩|⟨K,h⟩:=oc' h
  ·refine wH J 5 K ?_
   obtain ⟨g,i,h⟩:=ob h
   exact wa J 6 (eIx J oO0 i (wa J 12 (eSub [] (ih3 ((w64 (c-(g.Fields.length:Int))),(w64 (d+1))) h))))
  refine wH J 5 K ?_
  obtain ⟨j,k,h⟩:=ob h
  refine wa J 5 (eIx J oO0 k ?_)
  obtain ⟨l,m,h⟩:=ob h
  refine wa J 3 (eIx J oO4 m ?_)
  cases h
  exact wr J 3 func106 []
 exact eSub [] (ih N (x_,0) h)
theorem z236_ct (N:Nat) (decls_:(List T0)) (x_:Int) (r:Bool) (h:z236 N decls_ x_=some r) :
 Fn Tryz.prog 236 ⟨1,[.S 0,.I x_],[(0,.sl rR0 decls_)],[],1,.O r,[],[]⟩:=by
 refine eFn func236 rfl (fun E F w=>?_)
 unfold z236 at h
 obtain ⟨K,h⟩|⟨K,h⟩:=oc' h
 ·refine wH J 9 K ?_
  cases h
  exact wr J 15 func236 []
 refine wH J 9 K ?_
 obtain ⟨x1,c,h⟩:=ob h
 refine wa J 2 (eCl (z104_ct N decls_ _ c) [] [(0,.sl 0)] ?_)
 obtain ⟨K,h⟩|⟨K,h⟩:=oc' h
 ·refine wH J 3 K ?_
  cases h
  exact wr J 9 func236 []
 refine wH J 3 K ?_
 obtain ⟨x2,d,h⟩:=ob h
 refine wa J 2 (eCl (z106_ct N decls_ x_ _ d) [] [(0,.sl 0)] ?_)
 cases h
 exact wr J 6 func236 []
theorem z174_ct (N:Nat) (decls_:(List T0)) (g_:T6) (r:Bool) (h:z174 N decls_ g_=some r) :
 Fn Tryz.prog 174 ⟨3,[.S 0,.a [.sl 1,.sl 2]],[(0,.sl rR0 decls_),(1,.sl rR1 g_.Diffs),(2,.sl (rP (rI .i64) (rI .i64)) g_.Equals)],[],3,.O r,[],[]⟩:=by
 refine eFn func174 rfl (fun E F w=>?_)
 unfold z174 at h
 obtain ⟨x1,c,h⟩:=ob h
 refine wa J 8 (eCl (z104_ct N decls_ _ c) [] [(0,.sl 0)] (wa J 7 (eCut (σ:=Unit) (fun st=>(zz11 decls_ g_.Diffs g_.Equals [(0,.S 0),(3,.B 3 0)])) (fun st=>z174_k3 N decls_ g_=some r) ?_ (fun j1=>?_))))
 ·intro _ h
  replace h:z174_k3 N decls_ g_=some r:=h
  unfold z174_k3 at h
  refine wa J 5 (eCut (σ:=Unit) (fun st=>(zz11 decls_ g_.Diffs g_.Equals [(3,.B 3 0)])) (fun st=>z174_k1 g_=some r) ?_ (fun j3=>?_))
  ·intro _ h
   replace h:z174_k1 g_=some r:=h
   unfold z174_k1 at h
   obtain ⟨K,h⟩|⟨K,h⟩:=oc h
   ·refine wH J 7 K ?_
    cases h
    exact wr J 7 func174 []
   refine wH J 7 K ?_
   cases h
   exact wr J 7 func174 []
  refine wa J 1 (eLoop (σ:=Int) (fun st=>(zz11 decls_ g_.Diffs g_.Equals [(0,.S 0),(3,.B 3 0),(8,.I st)])) (fun n st=>z174_l2 N decls_ g_ n st) (r:=r) (fun _=>rfl) ?_ (fun ih=>?_))
  ·intro n3 ih5
   intro d h
   replace h:z174_l2 N decls_ g_ (n3+1) d=some r:=h
   unfold z174_l2 at h
   obtain ⟨K,h⟩|⟨K,h⟩:=oc' h
   ·exact wH J 9 K (wa J 2 (eSub [] (j3 () h)))
   refine wH J 9 K ?_
   obtain ⟨e,f,h⟩:=ob h
   refine wa J 10 (eIx J (oP (oI .i64) (oI .i64)) f (eAq 0 rfl ?_))
   obtain ⟨g,i,h⟩:=ob h
   refine wa J 1 (eCl (z236_ct N decls_ e.1 _ i) [] [(0,.sl 0)] ?_)
   obtain ⟨K,h⟩|⟨K,h⟩:=oc h
   ·refine wH J 2 K ?_
    cases h
    exact wr J 16 func174 []
   refine wH J 2 K ?_
   obtain ⟨j,k,h⟩:=ob h
   refine wa J 4 (eIx J (oP (oI .i64) (oI .i64)) k (eAq 1 rfl ?_))
   obtain ⟨l,m,h⟩:=ob h
   refine wa J 1 (eCl (z236_ct N decls_ j.2 _ m) [] [(0,.sl 0)] ?_)
   obtain ⟨K,h⟩|⟨K,h⟩:=oc h
   ·refine wH J 3 K ?_
    cases h
    exact wr J 5 func174 []
   exact wH J 3 K (wa J 8 (eSub [] (ih5 (w64 (d+1)) h)))
  exact eSub [] (ih N 0 h)
 refine wa J 1 (eLoop (σ:=Int) (fun st=>(zz11 decls_ g_.Diffs g_.Equals [(0,.S 0),(3,.B 3 0),(5,.I x1),(6,.I st)])) (fun n st=>z174_l4 N decls_ g_ x1 n st) (r:=r) (fun _=>rfl) ?_ (fun ih=>?_))
 ·intro n4 ih6
  intro o h
  replace h:z174_l4 N decls_ g_ x1 (n4+1) o=some r:=h
  unfold z174_l4 at h
  obtain ⟨K,h⟩|⟨K,h⟩:=oc' h
  ·exact wH J 9 K (wa J 2 (eSub [] (j1 () h)))
  refine wH J 9 K ?_
  obtain ⟨p,q,h⟩:=ob h
  refine wa J 9 (eIx J oO1 q ?_)
  obtain ⟨K,h⟩|⟨K,h⟩:=oc h
  ·refine wH J 10 K ?_
   cases h
   exact wr J 32 func174 []
  refine wH J 10 K ?_
  obtain ⟨K,h⟩|⟨K,h⟩:=oc h
  ·refine wH J 6 K ?_
   cases h
   exact wr J 26 func174 []
  refine wH J 6 K ?_
  obtain ⟨K,h⟩|⟨K,h⟩:=oc h
  ·refine wH J 5 K ?_
   cases h
   exact wr J 21 func174 []
  refine wH J 5 K ?_
  obtain ⟨K,h⟩|⟨K,h⟩:=oc h
  ·refine wH J 6 K ?_
   cases h
   exact wr J 15 func174 []
  refine wH J 6 K ?_
  obtain ⟨K,h⟩|⟨K,h⟩:=oc h
  ·refine wH J 5 K ?_
   cases h
   exact wr J 10 func174 []
  refine wH J 5 K ?_
  obtain ⟨K,h⟩|⟨K,h⟩:=oc h
  ·refine wH J 5 K ?_
   cases h
   exact wr J 5 func174 []
  exact wH J 5 K (wa J 8 (eSub [] (ih6 (w64 (o+1)) h)))
 exact eSub [] (ih N 0 h)
theorem z101_ct (N:Nat) (decls_:(List T0)) (r:Bool) (h:z101 N decls_=some r) :
 Fn Tryz.prog 101 ⟨1,[.S 0],[(0,.sl rR0 decls_)],[],1,.O r,[],[]⟩:=by
 refine eFn func101 rfl (fun E F w=>?_)
 unfold z101 at h
 obtain ⟨K,h⟩|⟨K,h⟩:=oc h
 ·refine wH J 11 K ?_
  cases h
  exact wr J 10 func101 []
 refine wH J 11 K ?_
 obtain ⟨x1,c,h⟩:=ob h
 refine wa J 1 (eCl (z104_ct N decls_ _ c) [] [(0,.sl 0)] ?_)
 obtain ⟨K,h⟩|⟨K,h⟩:=oc h
 ·refine wH J 3 K ?_
  cases h
  exact wr J 5 func101 []
 refine wH J 3 K (wa J 11 (eCut (σ:=Unit) (fun st=>(zz1 decls_ [])) (fun st=>z101_k1=some r) ?_ (fun j1=>?_)))
 ·intro _ h
  replace h:z101_k1=some r:=h
  unfold z101_k1 at h
  cases h
  exact wr J 4 func101 []
 refine wa J 1 (eLoop (σ:=Int × Int) (fun st=>(zz1 decls_ [(0,.S 0),(3,.I st.1),(4,.I st.2)])) (fun n st=>z101_l2 N decls_ n st.1 st.2) (r:=r) (fun _=>rfl) ?_ (fun ih=>?_))
 ·intro n82 ih75
  rintro ⟨d,e⟩ h
  replace h:z101_l2 N decls_ (n82+1) d e=some r:=h
  unfold z101_l2 at h
  obtain ⟨K,h⟩|⟨K,h⟩:=oc' h
  ·exact wH J 8 K (wa J 2 (eSub [] (j1 () h)))
  refine wH J 8 K ?_
  obtain ⟨f,g,h⟩:=ob h
  refine wa J 8 (eIx J oO0 g (wa J 9 (eCut (σ:=Unit) (fun st=>(zz12 f decls_ [(0,.S 0),(3,.I d),(4,.I e),(5,.B 5 0)])) (fun st=>z101_k7 N decls_ d e (z101_l2 N decls_ n82) f=some r) ?_ (fun j124=>?_))))
  ·intro _ h
   replace h:z101_k7 N decls_ d e (z101_l2 N decls_ n82) f=some r:=h
   unfold z101_k7 at h
   refine wa J 5 (eCut (σ:=Unit) (fun st=>(zz12 f decls_ [(0,.S 0),(3,.I d),(4,.I e),(5,.B 5 0)])) (fun st=>z101_k3 N decls_ d e (z101_l2 N decls_ n82) f=some r) ?_ (fun j126=>?_))
   ·intro _ h
    replace h:z101_k3 N decls_ d e (z101_l2 N decls_ n82) f=some r:=h
    unfold z101_k3 at h
    obtain ⟨i,j,h⟩:=ob h
    refine wa J 5 (eCl (z173_ct N f.Name _ j) [] [] ?_)
    obtain ⟨K,h⟩|⟨K,h⟩:=oc h
    ·refine wH J 2 K ?_
     cases h
     exact wr J 24 func101 []
    refine wH J 2 K ?_
    obtain ⟨K,h⟩|⟨K,h⟩:=oc h
    ·refine wH J 6 K ?_
     cases h
     exact wr J 18 func101 []
    refine wH J 6 K ?_
    obtain ⟨K,h⟩|⟨K,h⟩:=oc h
    ·refine wH J 6 K ?_
     cases h
     exact wr J 12 func101 []
    refine wH J 6 K ?_
    obtain ⟨k,l,h⟩:=ob h
    refine wa J 3 (eCl (z174_ct N decls_ f.Guard _ l) [] [(0,.sl 0),(1,.sl 3),(2,.sl 4)] ?_)
    obtain ⟨K,h⟩|⟨K,h⟩:=oc h
    ·refine wH J 3 K ?_
     cases h
     exact wr J 5 func101 []
    exact wH J 3 K (wa J 16 (eSub [] (ih75 ((w64 (d+(f.Fields.length:Int))),(w64 (e+1))) h)))
   refine wa J 1 (eLoop (σ:=Int) (fun st=>(zz12 f decls_ [(0,.S 0),(3,.I d),(4,.I e),(5,.B 5 0),(7,.I st)])) (fun n st=>z101_l4 N decls_ d e (z101_l2 N decls_ n82) f n st) (r:=r) (fun _=>rfl) ?_ (fun ih=>?_))
   ·intro n95 ih137
    intro m h
    replace h:z101_l4 N decls_ d e (z101_l2 N decls_ n82) f (n95+1) m=some r:=h
    unfold z101_l4 at h
    obtain ⟨K,h⟩|⟨K,h⟩:=oc' h
    ·exact wH J 9 K (wa J 2 (eSub [] (j126 () h)))
    refine wH J 9 K ?_
    obtain ⟨o,p,h⟩:=ob h
    refine wa J 10 (eIx J oO4 p ?_)
    obtain ⟨q,s,h⟩:=ob h
    refine wa J 2 (eCl (z171_ct N o.Sort' _ s) [] [] ?_)
    obtain ⟨K,h⟩|⟨K,h⟩:=oc h
    ·refine wH J 2 K ?_
     cases h
     exact wr J 15 func101 []
    refine wH J 2 K ?_
    obtain ⟨t,u,h⟩:=ob h
    refine wa J 3 (eIx J oO4 u ?_)
    obtain ⟨v,x,h⟩:=ob h
    refine wa J 2 (eCl (z172_ct N t.Name _ x) [] [] ?_)
    obtain ⟨K,h⟩|⟨K,h⟩:=oc h
    ·refine wH J 3 K ?_
     cases h
     exact wr J 5 func101 []
    refine wH J 3 K (wa J 6 (eCut (σ:=Unit) (fun st=>⟨[(0,.S 0),(3,.I d),(4,.I e),(5,.B 5 0),(7,.I m)],[(5,.box (cC0 2 3 4 f) 87)],((0,.sl rR0 decls_)::vV0 2 3 4 f []),8⟩) (fun st=>z101_k5 m (z101_l4 N decls_ d e (z101_l2 N decls_ n82) f n95)=some r) ?_ (fun j144=>?_)))
    ·intro _ h
     replace h:z101_k5 m (z101_l4 N decls_ d e (z101_l2 N decls_ n82) f n95)=some r:=h
     unfold z101_k5 at h
     exact wa J 6 (eSub [] (ih137 (w64 (m+1)) h))
    refine wa J 1 (eLoop (σ:=Int) (fun st=>⟨[(0,.S 0),(3,.I d),(4,.I e),(5,.B 5 0),(7,.I m),(8,.I st)],[(5,.box (cC0 2 3 4 f) 87)],((0,.sl rR0 decls_)::vV0 2 3 4 f []),8⟩) (fun n st=>z101_l6 f m (z101_l4 N decls_ d e (z101_l2 N decls_ n82) f n95) n st) (r:=r) (fun _=>rfl) ?_ (fun ih=>?_))
    ·intro n97 ih146
     intro y h
     replace h:z101_l6 f m (z101_l4 N decls_ d e (z101_l2 N decls_ n82) f n95) (n97+1) y=some r:=h
     unfold z101_l6 at h
     obtain ⟨K,h⟩|⟨K,h⟩:=oc' h
     ·exact wH J 7 K (wa J 2 (eSub [] (j144 () h)))
     refine wH J 7 K ?_
     obtain ⟨z,A,h⟩:=ob h
     refine wa J 9 (eIx J oO4 A ?_)
     obtain ⟨C,D,h⟩:=ob h
     refine wa J 5 (eIx J oO4 D (wa J 3 (eEnd ?_)))
     obtain ⟨K,h⟩|⟨K,h⟩:=oc h
     ·refine eK K ?_
      cases h
      exact wr J 5 func101 []
     exact eK K (wa J 8 (eSub [] (ih146 (w64 (y+1)) h)))
    exact eSub [] (ih N 0 h)
   exact eSub [] (ih N 0 h)
  refine wa J 1 (eLoop (σ:=Int) (fun st=>(zz12 f decls_ [(0,.S 0),(3,.I d),(4,.I e),(5,.B 5 0),(6,.I st)])) (fun n st=>z101_l8 N decls_ d e (z101_l2 N decls_ n82) f n st) (r:=r) (fun _=>rfl) ?_ (fun ih=>?_))
  ·intro n98 ih147
   intro G h
   replace h:z101_l8 N decls_ d e (z101_l2 N decls_ n82) f (n98+1) G=some r:=h
   unfold z101_l8 at h
   obtain ⟨K,h⟩|⟨K,h⟩:=oc' h
   ·exact wH J 7 K (wa J 2 (eSub [] (j124 () h)))
   refine wH J 7 K ?_
   obtain ⟨H,R,h⟩:=ob h
   refine wa J 8 (eIx J oO0 R (wa J 5 (eEnd ?_)))
   obtain ⟨K,h⟩|⟨K,h⟩:=oc h
   ·refine eK K ?_
    cases h
    exact wr J 5 func101 []
   exact eK K (wa J 8 (eSub [] (ih147 (w64 (G+1)) h)))
  exact eSub [] (ih N 0 h)
 exact eSub [] (ih N (0,0) h)
theorem z176_ct (N:Nat) (s_:ByteArray) (r:Bool) (h:z176 N s_=some r) :
 Fn Tryz.prog 176 ⟨0,[.c (.s s_)],[],[],0,.O r,[],[]⟩:=by
 refine eFn func176 rfl (fun E F w=>?_)
 unfold z176 at h
 refine wa J 9 (eCut (σ:=Unit) (fun st=>(zz0 [])) (fun st=>z176_k1=some r) ?_ (fun j1=>?_))
 ·intro _ h
  replace h:z176_k1=some r:=h
  unfold z176_k1 at h
  cases h
  exact wr J 4 func176 []
 refine wa J 1 (eLoop (σ:=Int) (fun st=>(zz0 [(0,.c (.s s_)),(3,.I st)])) (fun n st=>z176_l2 s_ n st) (r:=r) (fun _=>rfl) ?_ (fun ih=>?_))
 ·intro n2 ih3
  intro d h
  replace h:z176_l2 s_ (n2+1) d=some r:=h
  unfold z176_l2 at h
  obtain ⟨K,h⟩|⟨K,h⟩:=oc' h
  ·exact wH J 8 K (wa J 2 (eSub [] (j1 () h)))
  refine wH J 8 K ?_
  obtain ⟨e,f,h⟩:=ob h
  refine wa J 8 (eSx J f ?_)
  obtain ⟨K,h⟩|⟨K,h⟩:=oc h
  ·refine wH J 2 K ?_
   cases h
   exact wr J 11 func176 []
  refine wH J 2 K ?_
  obtain ⟨g,i,h⟩:=ob h
  refine wa J 2 (eSx J i ?_)
  obtain ⟨K,h⟩|⟨K,h⟩:=oc h
  ·refine wH J 3 K ?_
   cases h
   exact wr J 5 func176 []
  exact wH J 3 K (wa J 8 (eSub [] (ih3 (w64 (d+1)) h)))
 exact eSub [] (ih N 0 h)
theorem z108_ct (N:Nat) (v_:T12) (r:Bool) (h:z108 N v_=some r) :
 Fn Tryz.prog 108 ⟨0,[.a (cC12 v_)],[],[],0,.O r,[],[]⟩:=by
 refine eFn func108 rfl (fun E F w=>?_)
 unfold z108 at h
 obtain ⟨K,h⟩|⟨K,h⟩:=oc h
 ·refine wH J 17 K ?_
  obtain ⟨K,h⟩|⟨K,h⟩:=oc' h
  ·refine wH J 7 K ?_
   cases h
   exact wr J 11 func108 []
  refine wH J 7 K ?_
  obtain ⟨K,h⟩|⟨K,h⟩:=oc h
  ·refine wH J 5 K ?_
   cases h
   exact wr J 6 func108 []
  refine wH J 5 K ?_
  cases h
  exact wr J 6 func108 []
 refine wH J 17 K ?_
 obtain ⟨K,h⟩|⟨K,h⟩:=oc' h
 ·refine wH J 6 K ?_
  cases h
  exact wr J 7 func108 []
 refine wH J 6 K ?_
 obtain ⟨K,h⟩|⟨K,h⟩:=oc' h
 ·refine wH J 7 K ?_
  cases h
  exact wr J 12 func108 []
 refine wH J 7 K ?_
 obtain ⟨K,h⟩|⟨K,h⟩:=oc' h
 ·refine wH J 6 K ?_
  cases h
  exact wr J 6 func108 []
 refine wH J 6 K ?_
 obtain ⟨x1,c,h⟩:=ob h
 refine wa J 2 (eCl (z176_ct N v_.S _ c) [] [] ?_)
 cases h
 exact wr J 3 func108 []
theorem z51_ct (N:Nat) (d_:T0) (r:Int) (h:z51 N d_=some r) :
 Fn Tryz.prog 51 ⟨3,[.a (cC0 0 1 2 d_)],(vV0 0 1 2 d_ []),[],3,.I r,[],[]⟩:=by
 refine eFn func51 rfl (fun E F w=>?_)
 unfold z51 at h
 cases h
 exact wr J 18 func51 []
theorem z96_ct (N:Nat) (g_:T5) (i_:Int) (r:ByteArray) (h:z96 N g_ i_=some r) :
 Fn Tryz.prog 96 ⟨4,[.a (cC5 0 1 2 3 g_),.I i_],(vV5 0 1 2 3 g_ []),[],4,.c (.s r),[],[]⟩:=by
 refine eFn func96 rfl (fun E F w=>?_)
 unfold z96 at h
 obtain ⟨K,h⟩|⟨K,h⟩:=oc h
 ·refine wH J 11 K ?_
  cases h
  exact wr J 12 func96 []
 refine wH J 11 K ?_
 obtain ⟨K,h⟩|⟨K,h⟩:=oc h
 ·refine wH J 7 K ?_
  cases h
  exact wr J 5 func96 []
 refine wH J 7 K ?_
 obtain ⟨x1,d,h⟩:=ob h
 refine wa J 7 (eIx J oO0 d ?_)
 cases h
 exact wr J 4 func96 []
theorem z166_b_ct (N:Nat) (rc:Int→Option ByteArray) (rc_ref15_digits_ct:(∀ (n_:Int) (r:ByteArray),rc n_=some r→Fn Tryz.prog 166 ⟨0,[.I n_],[],[],0,.c (.s r),[],[]⟩)) (n_:Int) (r:ByteArray) (h:z166_b N rc n_=some r) :
 Fn Tryz.prog 166 ⟨0,[.I n_],[],[],0,.c (.s r),[],[]⟩:=by
 refine eFn func166 rfl (fun E F w=>?_)
 unfold z166_b at h
 obtain ⟨K,h⟩|⟨K,h⟩:=oc h
 ·refine wH J 12 K ?_
  obtain ⟨x1,d,h⟩:=ob h
  refine wa J 5 (eCl (rc_ref15_digits_ct (w64 (n_.tdiv 10)) _ d) [] [] (wa J 4 (eCr ?_)))
  obtain ⟨x2,e,h⟩:=ob h
  refine eCa e ?_
  cases h
  exact wr J 2 func166 []
 refine wH J 12 K ?_
 obtain ⟨K,h⟩|⟨K,h⟩:=oc h
 ·refine wH J 7 K (wa J 6 (eCr ?_))
  obtain ⟨x3,f,h⟩:=ob h
  refine eCa f ?_
  cases h
  exact wr J 2 func166 []
 refine wH J 7 K ?_
 obtain ⟨K,h⟩|⟨K,h⟩:=oc h
 ·refine wH J 7 K (wa J 6 (eCr ?_))
  cases h
  exact wr J 2 func166 []
 refine wH J 7 K ?_
 obtain ⟨x4,g,h⟩:=ob h
 refine wa J 7 (eCl (rc_ref15_digits_ct (w64 (n_.tdiv 10)) _ g) [] [] (wa J 4 (eCr ?_)))
 obtain ⟨x5,i,h⟩:=ob h
 refine eCa i ?_
 cases h
 exact wr J 2 func166 []
theorem z166_rct:∀ (N:Nat) (n_:Int) (r:ByteArray) (h:z166_r N n_=some r),Fn Tryz.prog 166 ⟨0,[.I n_],[],[],0,.c (.s r),[],[]⟩:=by
 intro N
 induction N with
 | zero=>intros;rename_i h;cases h
 | succ N ih=>intro n_ r h;exact z166_b_ct N (z166_r N) ih n_ r h
theorem z166_ct (N:Nat) (n_:Int) (r:ByteArray) (h:z166 N n_=some r):Fn Tryz.prog 166 ⟨0,[.I n_],[],[],0,.c (.s r),[],[]⟩:=z166_rct N n_ r h
theorem z91_ct (N:Nat) (v_:T12) (r:ByteArray) (h:z91 N v_=some r) :
 Fn Tryz.prog 91 ⟨0,[.a (cC12 v_)],[],[],0,.c (.s r),[],[]⟩:=by
 refine eFn func91 rfl (fun E F w=>?_)
 unfold z91 at h
 obtain ⟨x1,d,h⟩:=ob h
 refine wa J 9 (eCl (z108_ct N v_ _ d) [] [] ?_)
 obtain ⟨K,h⟩|⟨K,h⟩:=oc h
 ·refine wH J 2 K ?_
  cases h
  exact wr J 5 func91 []
 refine wH J 2 K ?_
 obtain ⟨K,h⟩|⟨K,h⟩:=oc h
 ·refine wH J 9 K ?_
  obtain ⟨x2,e,h⟩:=ob h
  refine wa J 5 (eCl (z166_ct N v_.N _ e) [] [] ?_)
  cases h
  exact wr J 2 func91 []
 refine wH J 9 K (wa J 11 (eCut (σ:=ByteArray) (fun st=>⟨[(3,.c (.s st))],[],[],1⟩) (fun st=>z91_k1 st=some r) ?_ (fun j1=>?_)))
 ·intro f h
  replace h:z91_k1 f=some r:=h
  unfold z91_k1 at h
  obtain ⟨g,i,h⟩:=ob h
  refine wa J 3 (eCa i ?_)
  cases h
  exact wr J 2 func91 []
 refine wa J 1 (eLoop (σ:=ByteArray × Int) (fun st=>⟨[(1,.B 0 0),(3,.c (.s st.1)),(4,.I st.2)],[(0,.box (cC12 v_) 89)],[],1⟩) (fun n st=>z91_l2 v_ n st.1 st.2) (r:=r) (fun _=>rfl) ?_ (fun ih=>?_))
 ·intro n2 ih6
  rintro ⟨j,k⟩ h
  replace h:z91_l2 v_ (n2+1) j k=some r:=h
  unfold z91_l2 at h
  obtain ⟨K,h⟩|⟨K,h⟩:=oc' h
  ·exact wH J 9 K (wa J 2 (eSub [] (j1 j h)))
  refine wH J 9 K ?_
  obtain ⟨l,m,h⟩:=ob h
  refine wa J 10 (eSx J m ?_)
  refine wa J 2 (eCut (σ:=Bool) (fun st=>⟨[(1,.B 0 0),(3,.c (.s j)),(4,.I k),(32,.O st)],[(0,.box (cC12 v_) 89)],[],1⟩) (fun st=>z91_k3 v_ j k (z91_l2 v_ n2) st=some r) ?_ (fun j9=>?_))
  ·intro o h
   replace h:z91_k3 v_ j k (z91_l2 v_ n2) o=some r:=h
   unfold z91_k3 at h
   obtain ⟨K,h⟩|⟨K,h⟩:=oc' h
   ·refine eK K ?_
    obtain ⟨p,q,h⟩:=ob h
    refine wa J 9 (eSs J q ?_)
    obtain ⟨t,u,h⟩:=ob h
    exact eCa u (wa J 8 (eSub [] (ih6 (t,(w64 (k+1))) h)))
   refine eK K ?_
   obtain ⟨v,x,h⟩:=ob h
   refine wa J 3 (eCa x ?_)
   obtain ⟨y,z,h⟩:=ob h
   refine wa J 9 (eSs J z ?_)
   obtain ⟨A,C,h⟩:=ob h
   exact eCa C (wa J 8 (eSub [] (ih6 (A,(w64 (k+1))) h)))
  obtain ⟨K,h⟩|⟨K,h⟩:=oc h
  ·exact eK K (wa J 7 (eSub [] (j9 true h)))
  refine eK K ?_
  obtain ⟨D,G,h⟩:=ob h
  exact wa J 3 (eSx J G (wa J 3 (eSub [] (j9 (D==92) h))))
 exact eSub [] (ih N ((str [34]),0) h)
theorem z97_ct (N:Nat) (l_:(List T12)) (r:ByteArray) (h:z97 N l_=some r) :
 Fn Tryz.prog 97 ⟨1,[.S 0],[(0,.sl rR12 l_)],[],1,.c (.s r),[],[]⟩:=by
 refine eFn func97 rfl (fun E F w=>?_)
 unfold z97 at h
 refine wa J 13 (eCut (σ:=ByteArray) (fun st=>⟨[(3,.c (.s st))],[],[(0,.sl rR12 l_)],1⟩) (fun st=>z97_k1 st=some r) ?_ (fun j1=>?_))
 ·intro d h
  replace h:z97_k1 d=some r:=h
  unfold z97_k1 at h
  obtain ⟨e,f,h⟩:=ob h
  refine wa J 3 (eCa f ?_)
  cases h
  exact wr J 2 func97 []
 refine wa J 1 (eLoop (σ:=ByteArray × Int) (fun st=>⟨[(0,.S 0),(3,.c (.s st.1)),(4,.I st.2)],[],[(0,.sl rR12 l_)],1⟩) (fun n st=>z97_l2 N l_ n st.1 st.2) (r:=r) (fun _=>rfl) ?_ (fun ih=>?_))
 ·intro n2 ih3
  rintro ⟨g,i⟩ h
  replace h:z97_l2 N l_ (n2+1) g i=some r:=h
  unfold z97_l2 at h
  obtain ⟨K,h⟩|⟨K,h⟩:=oc' h
  ·exact wH J 8 K (wa J 2 (eSub [] (j1 g h)))
  refine wH J 8 K ?_
  obtain ⟨K,h⟩|⟨K,h⟩:=oc' h
  ·refine wH J 10 K ?_
   obtain ⟨j,k,h⟩:=ob h
   refine wa J 6 (eIx J oO12 k ?_)
   obtain ⟨l,m,h⟩:=ob h
   refine wa J 1 (eCl (z91_ct N j _ m) [] [] ?_)
   obtain ⟨o,p,h⟩:=ob h
   exact eCa p (wa J 8 (eSub [] (ih3 (o,(w64 (i+1))) h)))
  refine wH J 10 K ?_
  obtain ⟨q,t,h⟩:=ob h
  refine wa J 3 (eCa t ?_)
  obtain ⟨u,v,h⟩:=ob h
  refine wa J 6 (eIx J oO12 v ?_)
  obtain ⟨x,y,h⟩:=ob h
  refine wa J 1 (eCl (z91_ct N u _ y) [] [] ?_)
  obtain ⟨z,A,h⟩:=ob h
  exact eCa A (wa J 8 (eSub [] (ih3 (z,(w64 (i+1))) h)))
 exact eSub [] (ih N ((str [40]),0) h)
theorem z89_ct (N:Nat) (g_:T5) (i_:Int) (r:ByteArray) (h:z89 N g_ i_=some r) :
 Fn Tryz.prog 89 ⟨4,[.a (cC5 0 1 2 3 g_),.I i_],(vV5 0 1 2 3 g_ []),[],4,.c (.s r),[],[]⟩:=by
 refine eFn func89 rfl (fun E F w=>?_)
 unfold z89 at h
 obtain ⟨K,h⟩|⟨K,h⟩:=oc h
 ·refine wH J 11 K ?_
  cases h
  exact wr J 12 func89 []
 refine wH J 11 K ?_
 obtain ⟨K,h⟩|⟨K,h⟩:=oc h
 ·refine wH J 7 K ?_
  cases h
  exact wr J 5 func89 []
 refine wH J 7 K ?_
 obtain ⟨x1,d,h⟩:=ob h
 refine wa J 7 (eIx J oS d ?_)
 cases h
 exact wr J 3 func89 []
theorem z45_ct (N:Nat) (g_:T5) (x_:T3) (r:ByteArray) (h:z45 N g_ x_=some r) :
 Fn Tryz.prog 45 ⟨5,[.a (cC5 0 1 2 3 g_),.a (cC3 4 x_)],(vV5 0 1 2 3 g_ [(4,.sl rR12 x_.Values)]),[],5,.c (.s r),[],[]⟩:=by
 refine eFn func45 rfl (fun E F w=>?_)
 unfold z45 at h
 obtain ⟨x1,d,h⟩:=ob h
 refine wa J 11 (eCl (z96_ct N g_ x_.Label _ d) [] [(0,.sl 0),(1,.sl 1),(2,.sl 2),(3,.sl 3)] ?_)
 obtain ⟨x2,e,h⟩:=ob h
 refine wa J 2 (eCl (z97_ct N x_.Values _ e) [] [(0,.sl 4)] ?_)
 obtain ⟨x3,f,h⟩:=ob h
 refine eCa f (wa J 1 (eEnd ?_))
 obtain ⟨K,h⟩|⟨K,h⟩:=oc h
 ·refine wH J 6 K ?_
  obtain ⟨x4,g,h⟩:=ob h
  refine wa J 6 (eCl (z89_ct N g_ x_.Role _ g) [] [(0,.sl 0),(1,.sl 1),(2,.sl 2),(3,.sl 3)] ?_)
  obtain ⟨x5,i,h⟩:=ob h
  refine eCa i ?_
  obtain ⟨x6,j,h⟩:=ob h
  refine wa J 1 (eCa j ?_)
  obtain ⟨x7,k,h⟩:=ob h
  refine eCa k ?_
  obtain ⟨x8,l,h⟩:=ob h
  refine wa J 3 (eCl (z89_ct N g_ x_.Peer _ l) [] [(0,.sl 0),(1,.sl 1),(2,.sl 2),(3,.sl 3)] ?_)
  obtain ⟨x9,m,h⟩:=ob h
  refine eCa m (wa J 1 (eEnd ?_))
  cases h
  exact eRet J func45 []
 refine wH J 6 K ?_
 obtain ⟨o,p,h⟩:=ob h
 refine wa J 7 (eCl (z89_ct N g_ x_.Role _ p) [] [(0,.sl 0),(1,.sl 1),(2,.sl 2),(3,.sl 3)] ?_)
 obtain ⟨q,t,h⟩:=ob h
 refine eCa t ?_
 obtain ⟨u,v,h⟩:=ob h
 refine wa J 1 (eCa v ?_)
 obtain ⟨x,y,h⟩:=ob h
 refine eCa y ?_
 obtain ⟨z,A,h⟩:=ob h
 refine wa J 3 (eCl (z89_ct N g_ x_.Peer _ A) [] [(0,.sl 0),(1,.sl 1),(2,.sl 2),(3,.sl 3)] ?_)
 obtain ⟨C,D,h⟩:=ob h
 refine eCa D (wa J 1 (eEnd ?_))
 cases h
 exact eRet J func45 []
theorem z90_b_ct (N:Nat) (rc:Int→Option ByteArray) (rc_ref09_Digits_ct:(∀ (n_:Int) (r:ByteArray),rc n_=some r→Fn Tryz.prog 90 ⟨0,[.I n_],[],[],0,.c (.s r),[],[]⟩)) (n_:Int) (r:ByteArray) (h:z90_b N rc n_=some r) :
 Fn Tryz.prog 90 ⟨0,[.I n_],[],[],0,.c (.s r),[],[]⟩:=by
 refine eFn func90 rfl (fun E F w=>?_)
 unfold z90_b at h
 obtain ⟨K,h⟩|⟨K,h⟩:=oc h
 ·refine wH J 12 K ?_
  obtain ⟨x1,d,h⟩:=ob h
  refine wa J 5 (eCl (rc_ref09_Digits_ct (w64 (n_.tdiv 10)) _ d) [] [] (wa J 4 (eCr ?_)))
  obtain ⟨x2,e,h⟩:=ob h
  refine eCa e ?_
  cases h
  exact wr J 2 func90 []
 refine wH J 12 K ?_
 obtain ⟨K,h⟩|⟨K,h⟩:=oc h
 ·refine wH J 7 K (wa J 6 (eCr ?_))
  obtain ⟨x3,f,h⟩:=ob h
  refine eCa f ?_
  cases h
  exact wr J 2 func90 []
 refine wH J 7 K ?_
 obtain ⟨K,h⟩|⟨K,h⟩:=oc h
 ·refine wH J 7 K (wa J 6 (eCr ?_))
  cases h
  exact wr J 2 func90 []
 refine wH J 7 K ?_
 obtain ⟨x4,g,h⟩:=ob h
 refine wa J 7 (eCl (rc_ref09_Digits_ct (w64 (n_.tdiv 10)) _ g) [] [] (wa J 4 (eCr ?_)))
 obtain ⟨x5,i,h⟩:=ob h
 refine eCa i ?_
 cases h
 exact wr J 2 func90 []
theorem z90_rct:∀ (N:Nat) (n_:Int) (r:ByteArray) (h:z90_r N n_=some r),Fn Tryz.prog 90 ⟨0,[.I n_],[],[],0,.c (.s r),[],[]⟩:=by
 intro N
 induction N with
 | zero=>intros;rename_i h;cases h
 | succ N ih=>intro n_ r h;exact z90_b_ct N (z90_r N) ih n_ r h
theorem z90_ct (N:Nat) (n_:Int) (r:ByteArray) (h:z90 N n_=some r):Fn Tryz.prog 90 ⟨0,[.I n_],[],[],0,.c (.s r),[],[]⟩:=z90_rct N n_ r h
theorem z102_ct (N:Nat) (decls_:(List T0)) (x_:Int) (r:ByteArray × Bool) (h:z102 N decls_ x_=some r) :
 Fn Tryz.prog 102 ⟨1,[.S 0,.I x_],[(0,.sl rR0 decls_)],[],1,.t [.inl (.s r.1),.inl (.b r.2)],[],[]⟩:=by
 refine eFn func102 rfl (fun E F w=>?_)
 unfold z102 at h
 refine wa J 10 (eCut (σ:=Unit) (fun st=>(zz1 decls_ [])) (fun st=>z102_k1=some r) ?_ (fun j1=>?_))
 ·intro _ h
  replace h:z102_k1=some r:=h
  unfold z102_k1 at h
  cases h
  exact wr J 5 func102 []
 refine wa J 1 (eLoop (σ:=Int) (fun st=>(zz1 decls_ [(0,.S 0),(1,.I x_),(6,.I st)])) (fun n st=>z102_l2 decls_ x_ n st) (r:=r) (fun _=>rfl) ?_ (fun ih=>?_))
 ·intro n2 ih3
  intro c h
  replace h:z102_l2 decls_ x_ (n2+1) c=some r:=h
  unfold z102_l2 at h
  obtain ⟨K,h⟩|⟨K,h⟩:=oc' h
  ·exact wH J 8 K (wa J 2 (eSub [] (j1 () h)))
  refine wH J 8 K ?_
  obtain ⟨d,e,h⟩:=ob h
  refine wa J 8 (eIx J oO0 e ?_)
  obtain ⟨K,h⟩|⟨K,h⟩:=oc' h
  ·exact wH J 11 K (wa J 18 (eSub [] (ih3 (w64 (c+1)) h)))
  refine wH J 11 K ?_
  obtain ⟨K,h⟩|⟨K,h⟩:=oc' h
  ·exact wH J 10 K (wa J 8 (eSub [] (ih3 (w64 (c+1)) h)))
  refine wH J 10 K ?_
  obtain ⟨f,g,h⟩:=ob h
  refine wa J 9 (eIx J oO4 g ?_)
  obtain ⟨i,j,h⟩:=ob h
  refine wa J 8 (eCa j ?_)
  obtain ⟨k,l,h⟩:=ob h
  refine wa J 2 (eCa l (wa J 6 (eEnd ?_)))
  cases h
  exact eRet J func102 []
 exact eSub [] (ih N 0 h)
theorem z103_ct (N:Nat) (decls_:(List T0)) (x_:Int) (r:ByteArray) (h:z103 N decls_ x_=some r) :
 Fn Tryz.prog 103 ⟨1,[.S 0,.I x_],[(0,.sl rR0 decls_)],[],1,.c (.s r),[],[]⟩:=by
 refine eFn func103 rfl (fun E F w=>?_)
 unfold z103 at h
 obtain ⟨x1,d,h⟩:=ob h
 refine wa J 8 (eCl (z102_ct N decls_ x_ _ d) [] [(0,.sl 0)] ?_)
 obtain ⟨K,h⟩|⟨K,h⟩:=oc' h
 ·refine wH J 11 K ?_
  cases h
  exact wr J 7 func103 []
 refine wH J 11 K ?_
 obtain ⟨x2,e,h⟩:=ob h
 refine wa J 4 (eCa e ?_)
 obtain ⟨x3,f,h⟩:=ob h
 refine eCa f ?_
 cases h
 exact wr J 2 func103 []
theorem z47_ct (N:Nat) (decls_:(List T0)) (at_:Int) (part_:Int) (r:ByteArray) (h:z47 N decls_ at_ part_=some r) :
 Fn Tryz.prog 47 ⟨1,[.S 0,.I at_,.I part_],[(0,.sl rR0 decls_)],[],1,.c (.s r),[],[]⟩:=by
 refine eFn func47 rfl (fun E F w=>?_)
 unfold z47 at h
 obtain ⟨x1,d,h⟩:=ob h
 refine wa J 8 (eCl (z101_ct N decls_ _ d) [] [(0,.sl 0)] ?_)
 obtain ⟨K,h⟩|⟨K,h⟩:=oc h
 ·refine wH J 2 K ?_
  cases h
  exact wr J 28 func47 []
 refine wH J 2 K ?_
 obtain ⟨K,h⟩|⟨K,h⟩:=oc h
 ·refine wH J 4 K ?_
  cases h
  exact wr J 24 func47 []
 refine wH J 4 K ?_
 obtain ⟨K,h⟩|⟨K,h⟩:=oc h
 ·refine wH J 6 K ?_
  cases h
  exact wr J 18 func47 []
 refine wH J 6 K ?_
 obtain ⟨K,h⟩|⟨K,h⟩:=oc h
 ·refine wH J 4 K ?_
  cases h
  exact wr J 14 func47 []
 refine wH J 4 K ?_
 obtain ⟨x2,e,h⟩:=ob h
 refine wa J 3 (eIx J oO0 e ?_)
 obtain ⟨x3,f,h⟩:=ob h
 refine wa J 1 (eCl (z51_ct N x2 _ f) [] [(0,.sl 2),(1,.sl 3),(2,.sl 4)] ?_)
 obtain ⟨K,h⟩|⟨K,h⟩:=oc h
 ·refine wH J 3 K ?_
  cases h
  exact wr J 5 func47 []
 refine wH J 3 K ?_
 obtain ⟨x4,g,h⟩:=ob h
 refine wa J 7 (eIx J oO0 g ?_)
 obtain ⟨K,h⟩|⟨K,h⟩:=oc h
 ·refine wH J 12 K ?_
  obtain ⟨x5,i,h⟩:=ob h
  refine wa J 5 (eIx J oO0 i ?_)
  obtain ⟨x6,j,h⟩:=ob h
  refine wa J 6 (eIx J (oP (oI .i64) (oI .i64)) j (wa J 7 (eAb 0 rfl ?_)))
  obtain ⟨x7,k,h⟩:=ob h
  refine wa J 1 (eCl (z102_ct N decls_ x6.1 _ k) [] [(0,.sl 0)] (wa J 9 (eAb 1 rfl ?_)))
  obtain ⟨x8,l,h⟩:=ob h
  refine wa J 1 (eCl (z102_ct N decls_ x6.2 _ l) [] [(0,.sl 0)] ?_)
  obtain ⟨x9,m,h⟩:=ob h
  refine wa J 9 (eCa m ?_)
  obtain ⟨o,p,h⟩:=ob h
  refine wa J 1 (eCa p ?_)
  cases h
  exact wr J 2 func47 []
 refine wH J 12 K ?_
 obtain ⟨q,t,h⟩:=ob h
 refine wa J 6 (eIx J oO0 t ?_)
 obtain ⟨u,v,h⟩:=ob h
 refine wa J 4 (eIx J oO1 v ?_)
 obtain ⟨K,h⟩|⟨K,h⟩:=oc' h
 ·refine wH J 12 K ?_
  obtain ⟨K,h⟩|⟨K,h⟩:=oc h
  ·refine wH J 14 K ?_
   obtain ⟨x,y,h⟩:=ob h
   refine wa J 6 (eCl (z103_ct N decls_ u.X _ y) [] [(0,.sl 0)] ?_)
   obtain ⟨z,A,h⟩:=ob h
   refine eCa A ?_
   obtain ⟨D,G,h⟩:=ob h
   refine wa J 2 (eCl (z90_ct N u.C _ G) [] [] ?_)
   obtain ⟨H,R,h⟩:=ob h
   refine eCa R (wa J 1 (eEnd ?_))
   cases h
   exact eRet J func47 []
  refine wH J 14 K ?_
  obtain ⟨K,h⟩|⟨K,h⟩:=oc h
  ·refine wH J 8 K ?_
   obtain ⟨T,U,h⟩:=ob h
   refine wa J 6 (eCl (z103_ct N decls_ u.Y _ U) [] [(0,.sl 0)] ?_)
   obtain ⟨Z,a0,h⟩:=ob h
   refine eCa a0 ?_
   obtain ⟨b0,c0,h⟩:=ob h
   refine wa J 3 (eCl (z90_ct N (w64 (0-u.C)) _ c0) [] [] ?_)
   obtain ⟨d0,e0,h⟩:=ob h
   refine eCa e0 (wa J 1 (eEnd ?_))
   cases h
   exact eRet J func47 []
  refine wH J 8 K ?_
  obtain ⟨f0,g0,h⟩:=ob h
  refine wa J 8 (eCl (z103_ct N decls_ u.X _ g0) [] [(0,.sl 0)] ?_)
  obtain ⟨i0,j0,h⟩:=ob h
  refine eCa j0 ?_
  obtain ⟨k0,l0,h⟩:=ob h
  refine wa J 3 (eCl (z103_ct N decls_ u.Y _ l0) [] [(0,.sl 0)] ?_)
  obtain ⟨m0,o0,h⟩:=ob h
  refine eCa o0 (wa J 1 (eEnd ?_))
  obtain ⟨K,h⟩|⟨K,h⟩:=oc h
  ·refine wH J 9 K ?_
   obtain ⟨p0,q0,h⟩:=ob h
   refine wa J 4 (eCa q0 ?_)
   obtain ⟨s0,t0,h⟩:=ob h
   refine wa J 2 (eCl (z90_ct N u.C _ t0) [] [] ?_)
   obtain ⟨u0,v0,h⟩:=ob h
   refine eCa v0 ?_
   cases h
   exact wr J 2 func47 []
  refine wH J 9 K ?_
  obtain ⟨K,h⟩|⟨K,h⟩:=oc' h
  ·refine wH J 8 K ?_
   cases h
   exact wr J 8 func47 []
  refine wH J 8 K ?_
  obtain ⟨x0,y0,h⟩:=ob h
  refine wa J 4 (eCa y0 ?_)
  obtain ⟨z0,A0,h⟩:=ob h
  refine wa J 3 (eCl (z90_ct N (w64 (0-u.C)) _ A0) [] [] ?_)
  obtain ⟨B0,C0,h⟩:=ob h
  refine eCa C0 ?_
  cases h
  exact wr J 2 func47 []
 refine wH J 12 K ?_
 obtain ⟨K,h⟩|⟨K,h⟩:=oc h
 ·refine wH J 6 K ?_
  obtain ⟨D0,G0,h⟩:=ob h
  refine wa J 5 (eCl (z90_ct N u.C _ G0) [] [] ?_)
  obtain ⟨H0,I0,h⟩:=ob h
  refine eCa I0 ?_
  cases h
  exact wr J 2 func47 []
 refine wH J 6 K ?_
 obtain ⟨K,h⟩|⟨K,h⟩:=oc h
 ·refine wH J 8 K ?_
  obtain ⟨L0,M0,h⟩:=ob h
  refine wa J 6 (eCl (z103_ct N decls_ u.X _ M0) [] [(0,.sl 0)] ?_)
  obtain ⟨O0,R0,h⟩:=ob h
  refine eCa R0 ?_
  obtain ⟨S0,T0,h⟩:=ob h
  refine wa J 2 (eCl (z90_ct N u.C _ T0) [] [] ?_)
  obtain ⟨U0,V0,h⟩:=ob h
  refine eCa V0 (wa J 1 (eEnd ?_))
  cases h
  exact eRet J func47 []
 refine wH J 8 K ?_
 obtain ⟨K,h⟩|⟨K,h⟩:=oc h
 ·refine wH J 8 K ?_
  obtain ⟨X0,Y0,h⟩:=ob h
  refine wa J 6 (eCl (z103_ct N decls_ u.Y _ Y0) [] [(0,.sl 0)] ?_)
  obtain ⟨Z0,a1,h⟩:=ob h
  refine eCa a1 ?_
  obtain ⟨b1,c1,h⟩:=ob h
  refine wa J 3 (eCl (z90_ct N (w64 (0-u.C)) _ c1) [] [] ?_)
  obtain ⟨d1,e1,h⟩:=ob h
  refine eCa e1 (wa J 1 (eEnd ?_))
  cases h
  exact eRet J func47 []
 refine wH J 8 K ?_
 obtain ⟨f1,g1,h⟩:=ob h
 refine wa J 8 (eCl (z103_ct N decls_ u.X _ g1) [] [(0,.sl 0)] ?_)
 obtain ⟨i1,j1,h⟩:=ob h
 refine eCa j1 ?_
 obtain ⟨k1,l1,h⟩:=ob h
 refine wa J 3 (eCl (z103_ct N decls_ u.Y _ l1) [] [(0,.sl 0)] ?_)
 obtain ⟨m1,o1,h⟩:=ob h
 refine eCa o1 (wa J 1 (eEnd ?_))
 obtain ⟨K,h⟩|⟨K,h⟩:=oc h
 ·refine wH J 9 K ?_
  obtain ⟨p1,q1,h⟩:=ob h
  refine wa J 4 (eCa q1 ?_)
  obtain ⟨s1,t1,h⟩:=ob h
  refine wa J 2 (eCl (z90_ct N u.C _ t1) [] [] ?_)
  obtain ⟨u1,v1,h⟩:=ob h
  refine eCa v1 ?_
  cases h
  exact wr J 2 func47 []
 refine wH J 9 K ?_
 obtain ⟨K,h⟩|⟨K,h⟩:=oc' h
 ·refine wH J 8 K ?_
  cases h
  exact wr J 8 func47 []
 refine wH J 8 K ?_
 obtain ⟨y1,z1,h⟩:=ob h
 refine wa J 4 (eCa z1 ?_)
 obtain ⟨A1,B1,h⟩:=ob h
 refine wa J 3 (eCl (z90_ct N (w64 (0-u.C)) _ B1) [] [] ?_)
 obtain ⟨C1,D1,h⟩:=ob h
 refine eCa D1 ?_
 cases h
 exact wr J 2 func47 []
theorem law41_BlameShow_ct (N:Nat) (g_:T5) (x_:T3) (at_:(Int × Int)) (r:Bool) (h:law41_BlameShow N g_ x_ at_=some r) :
 Fn Tryz.prog 9 ⟨6,[.a (cC5 0 1 2 3 g_),.a (cC3 4 x_),.a [.I at_.1,.I at_.2]],(vV5 0 1 2 3 g_ [(4,.sl rR12 x_.Values)]),[(5,.abs powT)],6,.O r,[],[(5,.abs powT)]⟩:=by
 refine eFn func9 rfl (fun E F w=>?_)
 unfold law41_BlameShow at h
 obtain ⟨x1,c,h⟩:=ob h
 refine wa J 10 (eCl (z37_ct N _ c) [] [(0,.sl 5)] ?_)
 obtain ⟨K,h⟩|⟨K,h⟩:=oc h
 ·refine wH J 2 K ?_
  cases h
  exact wr J 5 func9 []
 refine wH J 2 K ?_
 obtain ⟨x2,d,h⟩:=ob h
 refine wa J 6 (eCl (z43_ct N g_ _ d) [] [(0,.sl 0),(1,.sl 1),(2,.sl 2),(3,.sl 3)] ?_)
 obtain ⟨K,h⟩|⟨K,h⟩:=oc h
 ·refine wH J 2 K ?_
  cases h
  exact wr J 11 func9 []
 refine wH J 2 K ?_
 obtain ⟨x3,e,h⟩:=ob h
 refine wa J 2 (eCl (z20_ct N x_.Values _ e) [] [(0,.sl 4)] ?_)
 obtain ⟨K,h⟩|⟨K,h⟩:=oc h
 ·refine wH J 3 K ?_
  cases h
  exact wr J 5 func9 []
 refine wH J 3 K ?_
 obtain ⟨x4,f,h⟩:=ob h
 refine wa J 6 (eCl (z44_ct N g_ x_ _ f) [] [(0,.sl 0),(1,.sl 1),(2,.sl 2),(3,.sl 3),(4,.sl 4),(5,.sl 5)] ?_)
 obtain ⟨x5,g,h⟩:=ob h
 refine wa J 2 (eCl (z45_ct N g_ x_ _ g) [] [(0,.sl 0),(1,.sl 1),(2,.sl 2),(3,.sl 3),(4,.sl 4)] ?_)
 obtain ⟨K,h⟩|⟨K,h⟩:=oc' h
 ·refine wH J 2 K (wa J 17 (eEnd ?_))
  cases h
  exact eRet J func9 []
 refine wH J 2 K (wa J 2 (eAb 0 rfl (wa J 1 (eAb 1 rfl ?_))))
 obtain ⟨x6,i,h⟩:=ob h
 refine wa J 1 (eCl (z46_ct N g_.Decls at_.1 at_.2 _ i) [] [(0,.sl 1),(1,.sl 5)] (wa J 2 (eAb 0 rfl (wa J 1 (eAb 1 rfl ?_)))))
 obtain ⟨x7,j,h⟩:=ob h
 refine wa J 1 (eCl (z47_ct N g_.Decls at_.1 at_.2 _ j) [] [(0,.sl 1)] (wa J 3 (eEnd ?_)))
 cases h
 exact eRet J func9 []
end Gx
end
