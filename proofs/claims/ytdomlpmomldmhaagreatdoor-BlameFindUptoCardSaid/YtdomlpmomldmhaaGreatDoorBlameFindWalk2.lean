/- Each function of the statement computes what its plain definition says, part 2. -/
import Derived.Test.YtdomlpmomldmhaaGreatDoorBlameFindWalk1
set_option linter.all false
section
set_option maxRecDepth 10000
set_option maxHeartbeats 4000000
open Go Go.Kx Go.Proofs Tryz
namespace Gx
theorem z38_ct (N:Nat) (g_:T5) (m_:T8) (l_:(List T3)) (r:Bool) (h:z38 N g_ m_ l_=some r) :
 Fn Tryz.prog 38 ⟨8,[.a (cC5 0 1 2 3 g_),.a (cC8 4 5 6 m_),.S 7],((0,.sl rS g_.Roles)::(1,.sl rR0 g_.Decls)::(2,.sl rR2 g_.Edges)::(3,.sl rR11 g_.Timeouts)::vV8 4 5 6 m_ [(7,.sl rR3 l_)]),[],8,.O r,[],[]⟩:=by
 refine eFn func38 rfl (fun E F w=>?_)
 unfold z38 at h
 obtain ⟨x1,c,h⟩:=ob h
 refine wa J 9 (eCl (z43_ct N g_ _ c) [] [(0,.sl 0),(1,.sl 1),(2,.sl 2),(3,.sl 3)] ?_)
 obtain ⟨K,h⟩|⟨K,h⟩:=oc' h
 ·refine wH J 1 K ?_
  cases h
  exact wr J 9 func38 []
 refine wH J 1 K ?_
 obtain ⟨x2,d,h⟩:=ob h
 refine wa J 1 (eCl (z54_ct N m_ _ d) [] [(0,.sl 4),(1,.sl 5),(2,.sl 6)] ?_)
 obtain ⟨K,h⟩|⟨K,h⟩:=oc' h
 ·refine wH J 2 K ?_
  cases h
  exact wr J 5 func38 []
 refine wH J 2 K ?_
 obtain ⟨x3,e,h⟩:=ob h
 refine wa J 1 (eCl (z55_ct N l_ _ e) [] [(0,.sl 7)] ?_)
 cases h
 exact wr J 3 func38 []
theorem z238_ct (N:Nat) (c_:Int) (r:Bool) (h:z238 N c_=some r) :
 Fn Tryz.prog 238 ⟨0,[.c (.i .u8 c_)],[],[],0,.O r,[],[]⟩:=by
 refine eFn func238 rfl (fun E F w=>?_)
 unfold z238 at h
 obtain ⟨K,h⟩|⟨K,h⟩:=oc' h
 ·refine wH J 9 K ?_
  obtain ⟨K,h⟩|⟨K,h⟩:=oc h
  ·refine wH J 7 K ?_
   cases h
   exact wr J 6 func238 []
  refine wH J 7 K ?_
  cases h
  exact wr J 6 func238 []
 refine wH J 9 K ?_
 obtain ⟨K,h⟩|⟨K,h⟩:=oc h
 ·refine wH J 4 K ?_
  cases h
  exact wr J 9 func238 []
 refine wH J 4 K ?_
 obtain ⟨K,h⟩|⟨K,h⟩:=oc h
 ·refine wH J 3 K ?_
  cases h
  exact wr J 6 func238 []
 refine wH J 3 K ?_
 cases h
 exact wr J 6 func238 []
theorem z274_ct (N:Nat) (c_:Int) (r:Bool) (h:z274 N c_=some r) :
 Fn Tryz.prog 274 ⟨0,[.c (.i .u8 c_)],[],[],0,.O r,[],[]⟩:=by
 refine eFn func274 rfl (fun E F w=>?_)
 unfold z274 at h
 obtain ⟨K,h⟩|⟨K,h⟩:=oc h
 ·refine wH J 9 K ?_
  cases h
  exact wr J 5 func274 []
 refine wH J 9 K ?_
 cases h
 exact wr J 5 func274 []
theorem z239_ct (N:Nat) (c_:Int) (r:Bool) (h:z239 N c_=some r) :
 Fn Tryz.prog 239 ⟨0,[.c (.i .u8 c_)],[],[],0,.O r,[],[]⟩:=by
 refine eFn func239 rfl (fun E F w=>?_)
 unfold z239 at h
 obtain ⟨x1,d,h⟩:=ob h
 refine wa J 7 (eCl (z238_ct N c_ _ d) [] [] ?_)
 obtain ⟨K,h⟩|⟨K,h⟩:=oc h
 ·refine wH J 1 K ?_
  cases h
  exact wr J 9 func239 []
 refine wH J 1 K ?_
 obtain ⟨x2,e,h⟩:=ob h
 refine wa J 1 (eCl (z274_ct N c_ _ e) [] [] ?_)
 obtain ⟨K,h⟩|⟨K,h⟩:=oc h
 ·refine wH J 2 K ?_
  cases h
  exact wr J 5 func239 []
 refine wH J 2 K ?_
 cases h
 exact wr J 5 func239 []
theorem z184_ct (N:Nat) (s_:ByteArray) (r:Bool) (h:z184 N s_=some r) :
 Fn Tryz.prog 184 ⟨0,[.c (.s s_)],[],[],0,.O r,[],[]⟩:=by
 refine eFn func184 rfl (fun E F w=>?_)
 unfold z184 at h
 obtain ⟨K,h⟩|⟨K,h⟩:=oc h
 ·refine wH J 10 K ?_
  cases h
  exact wr J 16 func184 []
 refine wH J 10 K ?_
 obtain ⟨x1,d,h⟩:=ob h
 refine wa J 1 (eSx J d ?_)
 obtain ⟨x2,e,h⟩:=ob h
 refine eCl (z238_ct N x1 _ e) [] [] ?_
 obtain ⟨K,h⟩|⟨K,h⟩:=oc h
 ·refine wH J 3 K ?_
  cases h
  exact wr J 10 func184 []
 refine wH J 3 K ?_
 obtain ⟨K,h⟩|⟨K,h⟩:=oc h
 ·refine wH J 5 K ?_
  cases h
  exact wr J 5 func184 []
 refine wH J 5 K (wa J 7 (eCut (σ:=Unit) (fun st=>(zz0 [])) (fun st=>z184_k1=some r) ?_ (fun j1=>?_)))
 ·intro _ h
  replace h:z184_k1=some r:=h
  unfold z184_k1 at h
  cases h
  exact wr J 4 func184 []
 refine wa J 1 (eLoop (σ:=Int) (fun st=>(zz0 [(0,.c (.s s_)),(3,.I st)])) (fun n st=>z184_l2 N s_ n st) (r:=r) (fun _=>rfl) ?_ (fun ih=>?_))
 ·intro n2 ih3
  intro f h
  replace h:z184_l2 N s_ (n2+1) f=some r:=h
  unfold z184_l2 at h
  obtain ⟨K,h⟩|⟨K,h⟩:=oc' h
  ·exact wH J 8 K (wa J 2 (eSub [] (j1 () h)))
  refine wH J 8 K ?_
  obtain ⟨g,i,h⟩:=ob h
  refine wa J 8 (eSx J i ?_)
  obtain ⟨j,k,h⟩:=ob h
  refine eCl (z239_ct N g _ k) [] [] ?_
  obtain ⟨K,h⟩|⟨K,h⟩:=oc h
  ·refine wH J 2 K ?_
   cases h
   exact wr J 5 func184 []
  exact wH J 2 K (wa J 8 (eSub [] (ih3 (w64 (f+1)) h)))
 exact eSub [] (ih N 0 h)
theorem z234_ct (N:Nat) (r:(List ByteArray)) (h:z234 N=some r) :
 Fn Tryz.prog 234 ⟨0,[],[],[],1,.S 0,[],[(0,.own rS r true)]⟩:=by
 refine eFn func234 rfl (fun E F w=>?_)
 unfold z234 at h
 refine wa J 6 (eBs J [] oS ([(str [97,103,97,105,110]),(str [97,110,100]),(str [97,115]),(str [97,116]),(str [99,97,108,108]),(str [99,104,111,105,99,101]),(str [101,108,115,101]),(str [102,114,111,109]),(str [105,102]),(str [105,110,116]),(str [108,101,110]),(str [108,111,111,112]),(str [109,101,115,115,97,103,101]),(str [111,102]),(str [111,102,102,101,114]),(str [111,110]),(str [111,114]),(str [112,97,114]),(str [112,108,97,121,115]),(str [112,114,111,116,111,99,111,108]),(str [115,101,114,118,105,99,101]),(str [116,101,120,116]),(str [116,105,109,101,115]),(str [116,111]),(str [118,97,114]),(str [119,104,101,114,101]),(str [119,104,105,108,101]),(str [119,105,116,104,105,110])]:List ByteArray) ?_)
 cases h
 exact wr J 2 func234 [(0,.sl 0)]
theorem z233_ct (N:Nat) (l_:(List ByteArray)) (s_:ByteArray) (r:Bool) (h:z233 N l_ s_=some r) :
 Fn Tryz.prog 233 ⟨1,[.S 0,.c (.s s_)],[(0,.sl rS l_)],[],1,.O r,[],[]⟩:=by
 refine eFn func233 rfl (fun E F w=>?_)
 unfold z233 at h
 refine wa J 9 (eCut (σ:=Unit) (fun st=>(zz2 l_ [])) (fun st=>z233_k1=some r) ?_ (fun j1=>?_))
 ·intro _ h
  replace h:z233_k1=some r:=h
  unfold z233_k1 at h
  cases h
  exact wr J 4 func233 []
 refine wa J 1 (eLoop (σ:=Int) (fun st=>(zz2 l_ [(0,.S 0),(1,.c (.s s_)),(5,.I st)])) (fun n st=>z233_l2 l_ s_ n st) (r:=r) (fun _=>rfl) ?_ (fun ih=>?_))
 ·intro n2 ih3
  intro d h
  replace h:z233_l2 l_ s_ (n2+1) d=some r:=h
  unfold z233_l2 at h
  obtain ⟨K,h⟩|⟨K,h⟩:=oc' h
  ·exact wH J 8 K (wa J 2 (eSub [] (j1 () h)))
  refine wH J 8 K ?_
  obtain ⟨x9,e,h⟩:=ob h
  refine wa J 8 (eIx J oS e ?_)
  obtain ⟨K,h⟩|⟨K,h⟩:=oc h
  ·refine wH J 4 K ?_
   cases h
   exact wr J 5 func233 []
  exact wH J 4 K (wa J 8 (eSub [] (ih3 (w64 (d+1)) h)))
 exact eSub [] (ih N 0 h)
theorem z172_ct (N:Nat) (s_:ByteArray) (r:Bool) (h:z172 N s_=some r) :
 Fn Tryz.prog 172 ⟨0,[.c (.s s_)],[],[],0,.O r,[],[]⟩:=by
 refine eFn func172 rfl (fun E F w=>?_)
 unfold z172 at h
 obtain ⟨x1,d,h⟩:=ob h
 refine wa J 7 (eCl (z184_ct N s_ _ d) [] [] ?_)
 obtain ⟨K,h⟩|⟨K,h⟩:=oc' h
 ·refine wH J 1 K ?_
  cases h
  exact wr J 7 func172 []
 refine wH J 1 K ?_
 obtain ⟨x2,e,h⟩:=ob h
 refine eCl (z234_ct N _ e) [] [] ?_
 obtain ⟨x3,f,h⟩:=ob h
 refine wa J 1 (eCb (z233_ct N x2 s_ _ f) [] [(0,.sl 0)] [0] (.inr ⟨rfl,trivial⟩) ?_)
 cases h
 exact wr J 4 func172 []
theorem z178_ct (N:Nat) (l_:(List ByteArray)) (s_:ByteArray) (r:Int) (h:z178 N l_ s_=some r) :
 Fn Tryz.prog 178 ⟨1,[.S 0,.c (.s s_)],[(0,.sl rS l_)],[],1,.I r,[],[]⟩:=by
 refine eFn func178 rfl (fun E F w=>?_)
 unfold z178 at h
 refine wa J 9 (eCut (σ:=Unit) (fun st=>(zz2 l_ [])) (fun st=>z178_k1=some r) ?_ (fun j1=>?_))
 ·intro _ h
  replace h:z178_k1=some r:=h
  unfold z178_k1 at h
  cases h
  exact wr J 4 func178 []
 refine wa J 1 (eLoop (σ:=Int) (fun st=>(zz2 l_ [(0,.S 0),(1,.c (.s s_)),(5,.I st)])) (fun n st=>z178_l2 l_ s_ n st) (r:=r) (fun _=>rfl) ?_ (fun ih=>?_))
 ·intro n2 ih3
  intro d h
  replace h:z178_l2 l_ s_ (n2+1) d=some r:=h
  unfold z178_l2 at h
  obtain ⟨K,h⟩|⟨K,h⟩:=oc' h
  ·exact wH J 8 K (wa J 2 (eSub [] (j1 () h)))
  refine wH J 8 K ?_
  obtain ⟨x9,e,h⟩:=ob h
  refine wa J 8 (eIx J oS e ?_)
  obtain ⟨K,h⟩|⟨K,h⟩:=oc h
  ·refine wH J 4 K ?_
   cases h
   exact wr J 6 func178 []
  exact wH J 4 K (wa J 8 (eSub [] (ih3 (w64 (d+1)) h)))
 exact eSub [] (ih N 0 h)
theorem z104_ct (N:Nat) (decls_:(List T0)) (r:Int) (h:z104 N decls_=some r) :
 Fn Tryz.prog 104 ⟨1,[.S 0],[(0,.sl rR0 decls_)],[],1,.I r,[],[]⟩:=by
 refine eFn func104 rfl (fun E F w=>?_)
 unfold z104 at h
 refine wa J 13 (eCut (σ:=Int) (fun st=>(zz6 decls_ [(3,.I st)])) (fun st=>z104_k1 st=some r) ?_ (fun j1=>?_))
 ·intro c h
  replace h:z104_k1 c=some r:=h
  unfold z104_k1 at h
  cases h
  exact wr J 5 func104 []
 refine wa J 1 (eLoop (σ:=Int × Int) (fun st=>(zz6 decls_ [(0,.S 0),(3,.I st.1),(4,.I st.2)])) (fun n st=>z104_l2 decls_ n st.1 st.2) (r:=r) (fun _=>rfl) ?_ (fun ih=>?_))
 ·intro n2 ih3
  rintro ⟨d,e⟩ h
  replace h:z104_l2 decls_ (n2+1) d e=some r:=h
  unfold z104_l2 at h
  obtain ⟨K,h⟩|⟨K,h⟩:=oc' h
  ·exact wH J 8 K (wa J 2 (eSub [] (j1 d h)))
  refine wH J 8 K ?_
  obtain ⟨x9,f,h⟩:=ob h
  exact wa J 8 (eIx J oO0 f (wa J 12 (eSub [] (ih3 ((w64 (d+(x9.Fields.length:Int))),(w64 (e+1))) h))))
 exact eSub [] (ih N (0,0) h)
theorem z171_ct (N:Nat) (s_:T10) (r:Bool) (h:z171 N s_=some r) :
 Fn Tryz.prog 171 ⟨0,[.a (cC10 s_)],[],[],0,.O r,[],[]⟩:=by
 refine eFn func171 rfl (fun E F w=>?_)
 unfold z171 at h
 refine wa J 17 (eCut (σ:=Int × Int) (fun st=>⟨[(1,.B 0 0),(3,.I st.1),(4,.I st.2)],[(0,.box (cC10 s_) 113)],[],1⟩) (fun st=>z171_k1 s_ st.1 st.2=some r) ?_ (fun j1=>?_))
 ·rintro ⟨c,d⟩ h
  replace h:z171_k1 s_ c d=some r:=h
  unfold z171_k1 at h
  obtain ⟨K,h⟩|⟨K,h⟩:=oc h
  ·refine wH J 6 K ?_
   obtain ⟨K,h⟩|⟨K,h⟩:=oc' h
   ·refine wH J 11 K ?_
    cases h
    exact wr J 14 func171 []
   refine wH J 11 K ?_
   obtain ⟨K,h⟩|⟨K,h⟩:=oc h
   ·refine wH J 6 K ?_
    cases h
    exact wr J 8 func171 []
   refine wH J 6 K ?_
   cases h
   exact wr J 8 func171 []
  refine wH J 6 K ?_
  obtain ⟨K,h⟩|⟨K,h⟩:=oc' h
  ·refine wH J 5 K ?_
   cases h
   exact wr J 20 func171 []
  refine wH J 5 K ?_
  obtain ⟨K,h⟩|⟨K,h⟩:=oc' h
  ·refine wH J 6 K ?_
   cases h
   exact wr J 14 func171 []
  refine wH J 6 K ?_
  obtain ⟨K,h⟩|⟨K,h⟩:=oc h
  ·refine wH J 6 K ?_
   cases h
   exact wr J 8 func171 []
  refine wH J 6 K ?_
  cases h
  exact wr J 8 func171 []
 obtain ⟨K,h⟩|⟨K,h⟩:=oc h
 ·exact eK K (wa J 5 (eSub [] (j1 (0,40) h)))
 exact eK K (wa J 2 (eSub [] (j1 ((-1000),1000) h)))
theorem z235_ct (N:Nat) (s_:ByteArray) (r:Bool) (h:z235 N s_=some r) :
 Fn Tryz.prog 235 ⟨0,[.c (.s s_)],[],[],0,.O r,[],[]⟩:=by
 refine eFn func235 rfl (fun E F w=>?_)
 unfold z235 at h
 obtain ⟨x1,d,h⟩:=ob h
 refine wa J 7 (eCl (z172_ct N s_ _ d) [] [] ?_)
 cases h
 exact wr J 2 func235 []
theorem z173_ct (N:Nat) (s_:ByteArray) (r:Bool) (h:z173 N s_=some r) :
 Fn Tryz.prog 173 ⟨0,[.c (.s s_)],[],[],0,.O r,[],[]⟩:=by
 refine eFn func173 rfl (fun E F w=>?_)
 unfold z173 at h
 refine wa J 13 (eCut (σ:=Unit) (fun st=>(zz0 [(0,.c (.s s_))])) (fun st=>z173_k1 s_=some r) ?_ (fun j1=>?_))
 ·intro _ h
  replace h:z173_k1 s_=some r:=h
  unfold z173_k1 at h
  cases h
  exact wr J 7 func173 []
 refine wa J 1 (eLoop (σ:=Int × Int) (fun st=>(zz0 [(0,.c (.s s_)),(3,.I st.1),(4,.I st.2)])) (fun n st=>z173_l2 N s_ n st.1 st.2) (r:=r) (fun _=>rfl) ?_ (fun ih=>?_))
 ·intro n2 ih6
  rintro ⟨d,e⟩ h
  replace h:z173_l2 N s_ (n2+1) d e=some r:=h
  unfold z173_l2 at h
  obtain ⟨K,h⟩|⟨K,h⟩:=oc' h
  ·exact wH J 8 K (wa J 2 (eSub [] (j1 () h)))
  refine wH J 8 K ?_
  refine wa J 11 (eCut (σ:=Bool) (fun st=>(zz0 [(0,.c (.s s_)),(3,.I d),(4,.I e),(20,.O st)])) (fun st=>z173_k3 N s_ d e (z173_l2 N s_ n2) st=some r) ?_ (fun j9=>?_))
  ·intro f h
   replace h:z173_k3 N s_ d e (z173_l2 N s_ n2) f=some r:=h
   unfold z173_k3 at h
   obtain ⟨K,h⟩|⟨K,h⟩:=oc' h
   ·exact eK K (wa J 8 (eSub [] (ih6 (d,(w64 (e+1))) h)))
   refine eK K ?_
   obtain ⟨g,i,h⟩:=ob h
   refine wa J 7 (eSs J i ?_)
   obtain ⟨j,k,h⟩:=ob h
   refine eCl (z235_ct N g _ k) [] [] ?_
   obtain ⟨K,h⟩|⟨K,h⟩:=oc h
   ·refine wH J 2 K ?_
    cases h
    exact wr J 5 func173 []
   exact wH J 2 K (wa J 13 (eSub [] (ih6 ((w64 (e+1)),(w64 (e+1))) h)))
  obtain ⟨K,h⟩|⟨K,h⟩:=oc h
  ·exact eK K (wa J 6 (eSub [] (j9 true h)))
  refine eK K ?_
  obtain ⟨l,m,h⟩:=ob h
  exact wa J 2 (eSx J m (wa J 3 (eSub [] (j9 (l==46) h))))
 exact eSub [] (ih N (0,0) h)
theorem z106_ct (N:Nat) (decls_:(List T0)) (x_:Int) (r:T4) (h:z106 N decls_ x_=some r) :
 Fn Tryz.prog 106 ⟨1,[.S 0,.I x_],[(0,.sl rR0 decls_)],[],1,.a (cC4 r),[],[]⟩:=by
 refine eFn func106 rfl (fun E F w=>?_)
 unfold z106 at h
 refine wa J 9 (eCut (σ:=Unit) (fun st=>⟨[(4,.B 1 0)],[(1,.box [.s (str []),.I 0,.I 0,.I 0] 115)],[(0,.sl rR0 decls_)],2⟩) (fun st=>z106_k1=some r) ?_ (fun j1=>?_))
 ·intro _ h
  replace h:z106_k1=some r:=h
  unfold z106_k1 at h
  cases h
  exact wr J 5 func106 []
 refine wa J 1 (eLoop (σ:=Int × Int) (fun st=>⟨[(0,.S 0),(1,.I st.1),(4,.B 1 0),(5,.I st.2)],[(1,.box [.s (str []),.I 0,.I 0,.I 0] 115)],[(0,.sl rR0 decls_)],2⟩) (fun n st=>z106_l2 decls_ n st.1 st.2) (r:=r) (fun _=>rfl) ?_ (fun ih=>?_))
 ·intro n2 ih3
  rintro ⟨c,d⟩ h
  replace h:z106_l2 decls_ (n2+1) c d=some r:=h
  unfold z106_l2 at h
  obtain ⟨K,h⟩|⟨K,h⟩:=oc' h
  ·exact wH J 8 K (wa J 2 (eSub [] (j1 () h)))
  refine wH J 8 K ?_
  obtain ⟨e,f,h⟩:=ob h
  refine wa J 10 (eIx J oO0 f ?_)
  obtain ⟨K,h⟩|⟨K,h⟩:=oc' h
  ·refine wH J 5 K ?_
   obtain ⟨g,i,h⟩:=ob h
   exact wa J 6 (eIx J oO0 i (wa J 12 (eSub [] (ih3 ((w64 (c-(g.Fields.length:Int))),(w64 (d+1))) h))))
  refine wH J 5 K ?_
  obtain ⟨j,k,h⟩:=ob h
  refine wa J 5 (eIx J oO0 k ?_)
  obtain ⟨l,m,h⟩:=ob h
  refine wa J 3 (eIx J oO4 m ?_)
  cases h
  exact wr J 3 func106 []
 exact eSub [] (ih N (x_,0) h)
theorem z236_ct (N:Nat) (decls_:(List T0)) (x_:Int) (r:Bool) (h:z236 N decls_ x_=some r) :
 Fn Tryz.prog 236 ⟨1,[.S 0,.I x_],[(0,.sl rR0 decls_)],[],1,.O r,[],[]⟩:=by
 refine eFn func236 rfl (fun E F w=>?_)
 unfold z236 at h
 obtain ⟨K,h⟩|⟨K,h⟩:=oc' h
 ·refine wH J 9 K ?_
  cases h
  exact wr J 15 func236 []
 refine wH J 9 K ?_
 obtain ⟨x1,c,h⟩:=ob h
 refine wa J 2 (eCl (z104_ct N decls_ _ c) [] [(0,.sl 0)] ?_)
 obtain ⟨K,h⟩|⟨K,h⟩:=oc' h
 ·refine wH J 3 K ?_
  cases h
  exact wr J 9 func236 []
 refine wH J 3 K ?_
 obtain ⟨x2,d,h⟩:=ob h
 refine wa J 2 (eCl (z106_ct N decls_ x_ _ d) [] [(0,.sl 0)] ?_)
 cases h
 exact wr J 6 func236 []
theorem z174_ct (N:Nat) (decls_:(List T0)) (g_:T6) (r:Bool) (h:z174 N decls_ g_=some r) :
 Fn Tryz.prog 174 ⟨3,[.S 0,.a [.sl 1,.sl 2]],[(0,.sl rR0 decls_),(1,.sl rR1 g_.Diffs),(2,.sl (rP (rI .i64) (rI .i64)) g_.Equals)],[],3,.O r,[],[]⟩:=by
 refine eFn func174 rfl (fun E F w=>?_)
 unfold z174 at h
 obtain ⟨x1,c,h⟩:=ob h
 refine wa J 8 (eCl (z104_ct N decls_ _ c) [] [(0,.sl 0)] (wa J 7 (eCut (σ:=Unit) (fun st=>(zz17 decls_ g_.Diffs g_.Equals [(0,.S 0),(3,.B 3 0)])) (fun st=>z174_k3 N decls_ g_=some r) ?_ (fun j1=>?_))))
 ·intro _ h
  replace h:z174_k3 N decls_ g_=some r:=h
  unfold z174_k3 at h
  refine wa J 5 (eCut (σ:=Unit) (fun st=>(zz17 decls_ g_.Diffs g_.Equals [(3,.B 3 0)])) (fun st=>z174_k1 g_=some r) ?_ (fun j3=>?_))
  ·intro _ h
   replace h:z174_k1 g_=some r:=h
   unfold z174_k1 at h
   obtain ⟨K,h⟩|⟨K,h⟩:=oc h
   ·refine wH J 7 K ?_
    cases h
    exact wr J 7 func174 []
   refine wH J 7 K ?_
   cases h
   exact wr J 7 func174 []
  refine wa J 1 (eLoop (σ:=Int) (fun st=>(zz17 decls_ g_.Diffs g_.Equals [(0,.S 0),(3,.B 3 0),(8,.I st)])) (fun n st=>z174_l2 N decls_ g_ n st) (r:=r) (fun _=>rfl) ?_ (fun ih=>?_))
  ·intro n3 ih5
   intro d h
   replace h:z174_l2 N decls_ g_ (n3+1) d=some r:=h
   unfold z174_l2 at h
   obtain ⟨K,h⟩|⟨K,h⟩:=oc' h
   ·exact wH J 9 K (wa J 2 (eSub [] (j3 () h)))
   refine wH J 9 K ?_
   obtain ⟨e,f,h⟩:=ob h
   refine wa J 10 (eIx J (oP (oI .i64) (oI .i64)) f (eAq 0 rfl ?_))
   obtain ⟨g,i,h⟩:=ob h
   refine wa J 1 (eCl (z236_ct N decls_ e.1 _ i) [] [(0,.sl 0)] ?_)
   obtain ⟨K,h⟩|⟨K,h⟩:=oc h
   ·refine wH J 2 K ?_
    cases h
    exact wr J 16 func174 []
   refine wH J 2 K ?_
   obtain ⟨j,k,h⟩:=ob h
   refine wa J 4 (eIx J (oP (oI .i64) (oI .i64)) k (eAq 1 rfl ?_))
   obtain ⟨l,m,h⟩:=ob h
   refine wa J 1 (eCl (z236_ct N decls_ j.2 _ m) [] [(0,.sl 0)] ?_)
   obtain ⟨K,h⟩|⟨K,h⟩:=oc h
   ·refine wH J 3 K ?_
    cases h
    exact wr J 5 func174 []
   exact wH J 3 K (wa J 8 (eSub [] (ih5 (w64 (d+1)) h)))
  exact eSub [] (ih N 0 h)
 refine wa J 1 (eLoop (σ:=Int) (fun st=>(zz17 decls_ g_.Diffs g_.Equals [(0,.S 0),(3,.B 3 0),(5,.I x1),(6,.I st)])) (fun n st=>z174_l4 N decls_ g_ x1 n st) (r:=r) (fun _=>rfl) ?_ (fun ih=>?_))
 ·intro n4 ih6
  intro o h
  replace h:z174_l4 N decls_ g_ x1 (n4+1) o=some r:=h
  unfold z174_l4 at h
  obtain ⟨K,h⟩|⟨K,h⟩:=oc' h
  ·exact wH J 9 K (wa J 2 (eSub [] (j1 () h)))
  refine wH J 9 K ?_
  obtain ⟨p,q,h⟩:=ob h
  refine wa J 9 (eIx J oO1 q ?_)
  obtain ⟨K,h⟩|⟨K,h⟩:=oc h
  ·refine wH J 10 K ?_
   cases h
   exact wr J 32 func174 []
  refine wH J 10 K ?_
  obtain ⟨K,h⟩|⟨K,h⟩:=oc h
  ·refine wH J 6 K ?_
   cases h
   exact wr J 26 func174 []
  refine wH J 6 K ?_
  obtain ⟨K,h⟩|⟨K,h⟩:=oc h
  ·refine wH J 5 K ?_
   cases h
   exact wr J 21 func174 []
  refine wH J 5 K ?_
  obtain ⟨K,h⟩|⟨K,h⟩:=oc h
  ·refine wH J 6 K ?_
   cases h
   exact wr J 15 func174 []
  refine wH J 6 K ?_
  obtain ⟨K,h⟩|⟨K,h⟩:=oc h
  ·refine wH J 5 K ?_
   cases h
   exact wr J 10 func174 []
  refine wH J 5 K ?_
  obtain ⟨K,h⟩|⟨K,h⟩:=oc h
  ·refine wH J 5 K ?_
   cases h
   exact wr J 5 func174 []
  exact wH J 5 K (wa J 8 (eSub [] (ih6 (w64 (o+1)) h)))
 exact eSub [] (ih N 0 h)
theorem z101_ct (N:Nat) (decls_:(List T0)) (r:Bool) (h:z101 N decls_=some r) :
 Fn Tryz.prog 101 ⟨1,[.S 0],[(0,.sl rR0 decls_)],[],1,.O r,[],[]⟩:=by
 refine eFn func101 rfl (fun E F w=>?_)
 unfold z101 at h
 obtain ⟨K,h⟩|⟨K,h⟩:=oc h
 ·refine wH J 11 K ?_
  cases h
  exact wr J 10 func101 []
 refine wH J 11 K ?_
 obtain ⟨x1,c,h⟩:=ob h
 refine wa J 1 (eCl (z104_ct N decls_ _ c) [] [(0,.sl 0)] ?_)
 obtain ⟨K,h⟩|⟨K,h⟩:=oc h
 ·refine wH J 3 K ?_
  cases h
  exact wr J 5 func101 []
 refine wH J 3 K (wa J 11 (eCut (σ:=Unit) (fun st=>(zz6 decls_ [])) (fun st=>z101_k1=some r) ?_ (fun j1=>?_)))
 ·intro _ h
  replace h:z101_k1=some r:=h
  unfold z101_k1 at h
  cases h
  exact wr J 4 func101 []
 refine wa J 1 (eLoop (σ:=Int × Int) (fun st=>(zz6 decls_ [(0,.S 0),(3,.I st.1),(4,.I st.2)])) (fun n st=>z101_l2 N decls_ n st.1 st.2) (r:=r) (fun _=>rfl) ?_ (fun ih=>?_))
 ·intro n82 ih75
  rintro ⟨d,e⟩ h
  replace h:z101_l2 N decls_ (n82+1) d e=some r:=h
  unfold z101_l2 at h
  obtain ⟨K,h⟩|⟨K,h⟩:=oc' h
  ·exact wH J 8 K (wa J 2 (eSub [] (j1 () h)))
  refine wH J 8 K ?_
  obtain ⟨f,g,h⟩:=ob h
  refine wa J 8 (eIx J oO0 g (wa J 9 (eCut (σ:=Unit) (fun st=>(zz18 f decls_ [(0,.S 0),(3,.I d),(4,.I e),(5,.B 5 0)])) (fun st=>z101_k7 N decls_ d e (z101_l2 N decls_ n82) f=some r) ?_ (fun j124=>?_))))
  ·intro _ h
   replace h:z101_k7 N decls_ d e (z101_l2 N decls_ n82) f=some r:=h
   unfold z101_k7 at h
   refine wa J 5 (eCut (σ:=Unit) (fun st=>(zz18 f decls_ [(0,.S 0),(3,.I d),(4,.I e),(5,.B 5 0)])) (fun st=>z101_k3 N decls_ d e (z101_l2 N decls_ n82) f=some r) ?_ (fun j126=>?_))
   ·intro _ h
    replace h:z101_k3 N decls_ d e (z101_l2 N decls_ n82) f=some r:=h
    unfold z101_k3 at h
    obtain ⟨i,j,h⟩:=ob h
    refine wa J 5 (eCl (z173_ct N f.Name _ j) [] [] ?_)
    obtain ⟨K,h⟩|⟨K,h⟩:=oc h
    ·refine wH J 2 K ?_
     cases h
     exact wr J 24 func101 []
    refine wH J 2 K ?_
    obtain ⟨K,h⟩|⟨K,h⟩:=oc h
    ·refine wH J 6 K ?_
     cases h
     exact wr J 18 func101 []
    refine wH J 6 K ?_
    obtain ⟨K,h⟩|⟨K,h⟩:=oc h
    ·refine wH J 6 K ?_
     cases h
     exact wr J 12 func101 []
    refine wH J 6 K ?_
    obtain ⟨k,l,h⟩:=ob h
    refine wa J 3 (eCl (z174_ct N decls_ f.Guard _ l) [] [(0,.sl 0),(1,.sl 3),(2,.sl 4)] ?_)
    obtain ⟨K,h⟩|⟨K,h⟩:=oc h
    ·refine wH J 3 K ?_
     cases h
     exact wr J 5 func101 []
    exact wH J 3 K (wa J 16 (eSub [] (ih75 ((w64 (d+(f.Fields.length:Int))),(w64 (e+1))) h)))
   refine wa J 1 (eLoop (σ:=Int) (fun st=>(zz18 f decls_ [(0,.S 0),(3,.I d),(4,.I e),(5,.B 5 0),(7,.I st)])) (fun n st=>z101_l4 N decls_ d e (z101_l2 N decls_ n82) f n st) (r:=r) (fun _=>rfl) ?_ (fun ih=>?_))
   ·intro n95 ih137
    intro m h
    replace h:z101_l4 N decls_ d e (z101_l2 N decls_ n82) f (n95+1) m=some r:=h
    unfold z101_l4 at h
    obtain ⟨K,h⟩|⟨K,h⟩:=oc' h
    ·exact wH J 9 K (wa J 2 (eSub [] (j126 () h)))
    refine wH J 9 K ?_
    obtain ⟨o,p,h⟩:=ob h
    refine wa J 10 (eIx J oO4 p ?_)
    obtain ⟨q,s,h⟩:=ob h
    refine wa J 2 (eCl (z171_ct N o.Sort' _ s) [] [] ?_)
    obtain ⟨K,h⟩|⟨K,h⟩:=oc h
    ·refine wH J 2 K ?_
     cases h
     exact wr J 15 func101 []
    refine wH J 2 K ?_
    obtain ⟨t,u,h⟩:=ob h
    refine wa J 3 (eIx J oO4 u ?_)
    obtain ⟨v,x,h⟩:=ob h
    refine wa J 2 (eCl (z172_ct N t.Name _ x) [] [] ?_)
    obtain ⟨K,h⟩|⟨K,h⟩:=oc h
    ·refine wH J 3 K ?_
     cases h
     exact wr J 5 func101 []
    refine wH J 3 K (wa J 6 (eCut (σ:=Unit) (fun st=>⟨[(0,.S 0),(3,.I d),(4,.I e),(5,.B 5 0),(7,.I m)],[(5,.box (cC0 2 3 4 f) 87)],((0,.sl rR0 decls_)::vV0 2 3 4 f []),8⟩) (fun st=>z101_k5 m (z101_l4 N decls_ d e (z101_l2 N decls_ n82) f n95)=some r) ?_ (fun j144=>?_)))
    ·intro _ h
     replace h:z101_k5 m (z101_l4 N decls_ d e (z101_l2 N decls_ n82) f n95)=some r:=h
     unfold z101_k5 at h
     exact wa J 6 (eSub [] (ih137 (w64 (m+1)) h))
    refine wa J 1 (eLoop (σ:=Int) (fun st=>⟨[(0,.S 0),(3,.I d),(4,.I e),(5,.B 5 0),(7,.I m),(8,.I st)],[(5,.box (cC0 2 3 4 f) 87)],((0,.sl rR0 decls_)::vV0 2 3 4 f []),8⟩) (fun n st=>z101_l6 f m (z101_l4 N decls_ d e (z101_l2 N decls_ n82) f n95) n st) (r:=r) (fun _=>rfl) ?_ (fun ih=>?_))
    ·intro n97 ih146
     intro y h
     replace h:z101_l6 f m (z101_l4 N decls_ d e (z101_l2 N decls_ n82) f n95) (n97+1) y=some r:=h
     unfold z101_l6 at h
     obtain ⟨K,h⟩|⟨K,h⟩:=oc' h
     ·exact wH J 7 K (wa J 2 (eSub [] (j144 () h)))
     refine wH J 7 K ?_
     obtain ⟨z,A,h⟩:=ob h
     refine wa J 9 (eIx J oO4 A ?_)
     obtain ⟨C,D,h⟩:=ob h
     refine wa J 5 (eIx J oO4 D (wa J 3 (eEnd ?_)))
     obtain ⟨K,h⟩|⟨K,h⟩:=oc h
     ·refine eK K ?_
      cases h
      exact wr J 5 func101 []
     exact eK K (wa J 8 (eSub [] (ih146 (w64 (y+1)) h)))
    exact eSub [] (ih N 0 h)
   exact eSub [] (ih N 0 h)
  refine wa J 1 (eLoop (σ:=Int) (fun st=>(zz18 f decls_ [(0,.S 0),(3,.I d),(4,.I e),(5,.B 5 0),(6,.I st)])) (fun n st=>z101_l8 N decls_ d e (z101_l2 N decls_ n82) f n st) (r:=r) (fun _=>rfl) ?_ (fun ih=>?_))
  ·intro n98 ih147
   intro G h
   replace h:z101_l8 N decls_ d e (z101_l2 N decls_ n82) f (n98+1) G=some r:=h
   unfold z101_l8 at h
   obtain ⟨K,h⟩|⟨K,h⟩:=oc' h
   ·exact wH J 7 K (wa J 2 (eSub [] (j124 () h)))
   refine wH J 7 K ?_
   obtain ⟨H,R,h⟩:=ob h
   refine wa J 8 (eIx J oO0 R (wa J 5 (eEnd ?_)))
   obtain ⟨K,h⟩|⟨K,h⟩:=oc h
   ·refine eK K ?_
    cases h
    exact wr J 5 func101 []
   exact eK K (wa J 8 (eSub [] (ih147 (w64 (G+1)) h)))
  exact eSub [] (ih N 0 h)
 exact eSub [] (ih N (0,0) h)
theorem z115_ct (N:Nat) (g_:T5) (r:Bool) (h:z115 N g_=some r) :
 Fn Tryz.prog 115 ⟨4,[.a (cC5 0 1 2 3 g_)],(vV5 0 1 2 3 g_ []),[],4,.O r,[],[]⟩:=by
 refine eFn func115 rfl (fun E F w=>?_)
 unfold z115 at h
 refine wa J 10 (eCut (σ:=Unit) (fun st=>(zz1 g_ [(1,.B 4 0)])) (fun st=>z115_k1 N g_=some r) ?_ (fun j1=>?_))
 ·intro _ h
  replace h:z115_k1 N g_=some r:=h
  unfold z115_k1 at h
  obtain ⟨c,d,h⟩:=ob h
  refine wa J 4 (eCl (z172_ct N g_.Name _ d) [] [] ?_)
  obtain ⟨K,h⟩|⟨K,h⟩:=oc' h
  ·refine wH J 1 K ?_
   cases h
   exact wr J 18 func115 []
  refine wH J 1 K ?_
  obtain ⟨K,h⟩|⟨K,h⟩:=oc' h
  ·refine wH J 6 K ?_
   cases h
   exact wr J 12 func115 []
  refine wH J 6 K ?_
  obtain ⟨K,h⟩|⟨K,h⟩:=oc' h
  ·refine wH J 6 K ?_
   cases h
   exact wr J 6 func115 []
  refine wH J 6 K ?_
  obtain ⟨e,f,h⟩:=ob h
  refine wa J 2 (eCl (z101_ct N g_.Decls _ f) [] [(0,.sl 1)] ?_)
  cases h
  exact wr J 3 func115 []
 refine wa J 1 (eLoop (σ:=Int) (fun st=>(zz1 g_ [(1,.B 4 0),(3,.I st)])) (fun n st=>z115_l2 N g_ n st) (r:=r) (fun _=>rfl) ?_ (fun ih=>?_))
 ·intro n2 ih3
  intro g h
  replace h:z115_l2 N g_ (n2+1) g=some r:=h
  unfold z115_l2 at h
  obtain ⟨K,h⟩|⟨K,h⟩:=oc' h
  ·exact wH J 9 K (wa J 2 (eSub [] (j1 () h)))
  refine wH J 9 K ?_
  obtain ⟨i,j,h⟩:=ob h
  refine wa J 9 (eIx J oS j ?_)
  obtain ⟨k,l,h⟩:=ob h
  refine wa J 1 (eCl (z172_ct N i _ l) [] [] ?_)
  obtain ⟨K,h⟩|⟨K,h⟩:=oc h
  ·refine wH J 2 K (wa J 11 (eEnd ?_))
   cases h
   exact wr J 5 func115 []
  refine wH J 2 K ?_
  obtain ⟨m,o,h⟩:=ob h
  refine wa J 5 (eIx J oS o ?_)
  obtain ⟨p,q,h⟩:=ob h
  refine wa J 1 (eCl (z178_ct N g_.Roles m _ q) [] [(0,.sl 0)] (wa J 3 (eEnd ?_)))
  obtain ⟨K,h⟩|⟨K,h⟩:=oc h
  ·refine eK K ?_
   cases h
   exact wr J 5 func115 []
  exact eK K (wa J 8 (eSub [] (ih3 (w64 (g+1)) h)))
 exact eSub [] (ih N 0 h)
theorem z179_ct (N:Nat) (g_:T5) (s_:Int) (r:Bool) (h:z179 N g_ s_=some r) :
 Fn Tryz.prog 179 ⟨4,[.a (cC5 0 1 2 3 g_),.I s_],(vV5 0 1 2 3 g_ []),[],4,.O r,[],[]⟩:=by
 refine eFn func179 rfl (fun E F w=>?_)
 unfold z179 at h
 obtain ⟨K,h⟩|⟨K,h⟩:=oc h
 ·refine wH J 10 K ?_
  cases h
  exact wr J 7 func179 []
 refine wH J 10 K ?_
 cases h
 exact wr J 7 func179 []
theorem z116_ct (N:Nat) (g_:T5) (r:Bool) (h:z116 N g_=some r) :
 Fn Tryz.prog 116 ⟨4,[.a (cC5 0 1 2 3 g_)],(vV5 0 1 2 3 g_ []),[],4,.O r,[],[]⟩:=by
 refine eFn func116 rfl (fun E F w=>?_)
 unfold z116 at h
 refine wa J 10 (eCut (σ:=Unit) (fun st=>(zz1 g_ [(1,.B 4 0)])) (fun st=>z116_k1 N g_=some r) ?_ (fun j1=>?_))
 ·intro _ h
  replace h:z116_k1 N g_=some r:=h
  unfold z116_k1 at h
  obtain ⟨K,h⟩|⟨K,h⟩:=oc' h
  ·refine wH J 6 K ?_
   cases h
   exact wr J 24 func116 []
  refine wH J 6 K ?_
  obtain ⟨K,h⟩|⟨K,h⟩:=oc' h
  ·refine wH J 5 K ?_
   cases h
   exact wr J 19 func116 []
  refine wH J 5 K ?_
  obtain ⟨c,d,h⟩:=ob h
  refine wa J 3 (eCl (z179_ct N g_ g_.Start _ d) [] [(0,.sl 0),(1,.sl 1),(2,.sl 2),(3,.sl 3)] ?_)
  obtain ⟨K,h⟩|⟨K,h⟩:=oc' h
  ·refine wH J 2 K ?_
   cases h
   exact wr J 13 func116 []
  refine wH J 2 K ?_
  obtain ⟨e,f,h⟩:=ob h
  refine wa J 3 (eCl (z179_ct N g_ g_.End _ f) [] [(0,.sl 0),(1,.sl 1),(2,.sl 2),(3,.sl 3)] ?_)
  obtain ⟨K,h⟩|⟨K,h⟩:=oc h
  ·refine wH J 2 K ?_
   cases h
   exact wr J 7 func116 []
  refine wH J 2 K ?_
  cases h
  exact wr J 7 func116 []
 refine wa J 1 (eLoop (σ:=Int) (fun st=>(zz1 g_ [(1,.B 4 0),(3,.I st)])) (fun n st=>z116_l2 N g_ n st) (r:=r) (fun _=>rfl) ?_ (fun ih=>?_))
 ·intro n2 ih3
  intro g h
  replace h:z116_l2 N g_ (n2+1) g=some r:=h
  unfold z116_l2 at h
  obtain ⟨K,h⟩|⟨K,h⟩:=oc' h
  ·exact wH J 9 K (wa J 2 (eSub [] (j1 () h)))
  refine wH J 9 K ?_
  obtain ⟨i,j,h⟩:=ob h
  refine wa J 9 (eIx J oO2 j ?_)
  obtain ⟨k,l,h⟩:=ob h
  refine wa J 9 (eCl (z179_ct N g_ i.From _ l) [] [(0,.sl 0),(1,.sl 1),(2,.sl 2),(3,.sl 3)] ?_)
  obtain ⟨K,h⟩|⟨K,h⟩:=oc h
  ·refine wH J 2 K ?_
   cases h
   exact wr J 66 func116 []
  refine wH J 2 K ?_
  obtain ⟨m,o,h⟩:=ob h
  refine wa J 3 (eCl (z179_ct N g_ i.To _ o) [] [(0,.sl 0),(1,.sl 1),(2,.sl 2),(3,.sl 3)] ?_)
  obtain ⟨K,h⟩|⟨K,h⟩:=oc h
  ·refine wH J 3 K ?_
   cases h
   exact wr J 59 func116 []
  refine wH J 3 K ?_
  obtain ⟨K,h⟩|⟨K,h⟩:=oc h
  ·refine wH J 6 K ?_
   cases h
   exact wr J 53 func116 []
  refine wH J 6 K ?_
  obtain ⟨K,h⟩|⟨K,h⟩:=oc h
  ·refine wH J 9 K ?_
   cases h
   exact wr J 44 func116 []
  refine wH J 9 K ?_
  obtain ⟨K,h⟩|⟨K,h⟩:=oc h
  ·refine wH J 6 K ?_
   cases h
   exact wr J 38 func116 []
  refine wH J 6 K ?_
  obtain ⟨K,h⟩|⟨K,h⟩:=oc h
  ·refine wH J 9 K ?_
   cases h
   exact wr J 29 func116 []
  refine wH J 9 K ?_
  obtain ⟨K,h⟩|⟨K,h⟩:=oc h
  ·refine wH J 9 K ?_
   cases h
   exact wr J 20 func116 []
  refine wH J 9 K ?_
  obtain ⟨K,h⟩|⟨K,h⟩:=oc h
  ·refine wH J 6 K ?_
   cases h
   exact wr J 14 func116 []
  refine wH J 6 K ?_
  obtain ⟨K,h⟩|⟨K,h⟩:=oc h
  ·refine wH J 9 K ?_
   cases h
   exact wr J 5 func116 []
  exact wH J 9 K (wa J 8 (eSub [] (ih3 (w64 (g+1)) h)))
 exact eSub [] (ih N 0 h)
theorem z117_ct (N:Nat) (g_:T5) (r:Bool) (h:z117 N g_=some r) :
 Fn Tryz.prog 117 ⟨4,[.a (cC5 0 1 2 3 g_)],(vV5 0 1 2 3 g_ []),[],4,.O r,[],[]⟩:=by
 refine eFn func117 rfl (fun E F w=>?_)
 unfold z117 at h
 refine wa J 10 (eCut (σ:=Unit) (fun st=>(zz8 g_ [])) (fun st=>z117_k1=some r) ?_ (fun j1=>?_))
 ·intro _ h
  replace h:z117_k1=some r:=h
  unfold z117_k1 at h
  cases h
  exact wr J 4 func117 []
 refine wa J 1 (eLoop (σ:=Int) (fun st=>(zz1 g_ [(1,.B 4 0),(3,.I st)])) (fun n st=>z117_l2 N g_ n st) (r:=r) (fun _=>rfl) ?_ (fun ih=>?_))
 ·intro n12 ih33
  intro c h
  replace h:z117_l2 N g_ (n12+1) c=some r:=h
  unfold z117_l2 at h
  obtain ⟨K,h⟩|⟨K,h⟩:=oc' h
  ·exact wH J 9 K (wa J 2 (eSub [] (j1 () h)))
  refine wH J 9 K ?_
  obtain ⟨d,e,h⟩:=ob h
  refine wa J 9 (eIx J oO2 e ?_)
  refine wa J 10 (eCut (σ:=Bool) (fun st=>(zz13 g_ d [(1,.B 4 0),(3,.I c),(4,.B 6 0),(27,.O st)])) (fun st=>z117_k6 N g_ c (z117_l2 N g_ n12) d st=some r) ?_ (fun j54=>?_))
  ·intro f h
   replace h:z117_k6 N g_ c (z117_l2 N g_ n12) d f=some r:=h
   unfold z117_k6 at h
   obtain ⟨K,h⟩|⟨K,h⟩:=oc h
   ·refine eK K ?_
    cases h
    exact wr J 5 func117 []
   refine eK K (wa J 6 (eCut (σ:=Unit) (fun st=>⟨[(1,.B 4 0),(3,.I c)],[(4,.box (cC5 0 1 2 3 g_) 27)],(vV5 0 1 2 3 g_ []),7⟩) (fun st=>z117_k3 c (z117_l2 N g_ n12)=some r) ?_ (fun j55=>?_)))
   ·intro _ h
    replace h:z117_k3 c (z117_l2 N g_ n12)=some r:=h
    unfold z117_k3 at h
    exact wa J 6 (eSub [] (ih33 (w64 (c+1)) h))
   refine wa J 1 (eLoop (σ:=Int) (fun st=>(zz13 g_ d [(1,.B 4 0),(3,.I c),(4,.B 6 0),(5,.I st)])) (fun n st=>z117_l4 g_ c (z117_l2 N g_ n12) d n st) (r:=r) (fun _=>rfl) ?_ (fun ih=>?_))
   ·intro n14 ih60
    intro g h
    replace h:z117_l4 g_ c (z117_l2 N g_ n12) d (n14+1) g=some r:=h
    unfold z117_l4 at h
    obtain ⟨K,h⟩|⟨K,h⟩:=oc' h
    ·exact wH J 9 K (wa J 2 (eSub [] (j55 () h)))
    refine wH J 9 K ?_
    obtain ⟨i,j,h⟩:=ob h
    refine wa J 9 (eIx J oO2 j ?_)
    refine wa J 11 (eCut (σ:=Bool) (fun st=>(zz26 g_ d i [(1,.B 4 0),(3,.I c),(4,.B 6 0),(5,.I g),(6,.B 8 0),(69,.O st)])) (fun st=>z117_k5 d g (z117_l4 g_ c (z117_l2 N g_ n12) d n14) i st=some r) ?_ (fun j63=>?_))
    ·intro k h
     replace h:z117_k5 d g (z117_l4 g_ c (z117_l2 N g_ n12) d n14) i k=some r:=h
     unfold z117_k5 at h
     obtain ⟨K,h⟩|⟨K,h⟩:=oc h
     ·refine eK K ?_
      cases h
      exact wr J 5 func117 []
     refine eK K ?_
     obtain ⟨K,h⟩|⟨K,h⟩:=oc' h
     ·exact wH J 7 K (wa J 33 (eSub [] (ih60 (w64 (g+1)) h)))
     refine wH J 7 K ?_
     obtain ⟨K,h⟩|⟨K,h⟩:=oc' h
     ·exact wH J 7 K (wa J 26 (eSub [] (ih60 (w64 (g+1)) h)))
     refine wH J 7 K ?_
     obtain ⟨K,h⟩|⟨K,h⟩:=oc h
     ·refine wH J 8 K ?_
      cases h
      exact wr J 15 func117 []
     refine wH J 8 K ?_
     obtain ⟨K,h⟩|⟨K,h⟩:=oc h
     ·refine wH J 10 K ?_
      cases h
      exact wr J 5 func117 []
     exact wH J 10 K (wa J 8 (eSub [] (ih60 (w64 (g+1)) h)))
    obtain ⟨K,h⟩|⟨K,h⟩:=oc' h
    ·exact eK K (wa J 27 (eSub [] (j63 false h)))
    refine eK K ?_
    obtain ⟨K,h⟩|⟨K,h⟩:=oc' h
    ·exact wH J 7 K (wa J 20 (eSub [] (j63 false h)))
    refine wH J 7 K (wa J 4 (eEq ?_))
    obtain ⟨K,h⟩|⟨K,h⟩:=oc h
    ·exact wH J 1 K (wa J 14 (eSub [] (j63 true h)))
    refine wH J 1 K ?_
    obtain ⟨K,h⟩|⟨K,h⟩:=oc h
    ·exact wH J 9 K (wa J 5 (eSub [] (j63 true h)))
    exact wH J 9 K (wa J 5 (eSub [] (j63 d.Again h)))
   exact eSub [] (ih N 0 h)
  obtain ⟨K,h⟩|⟨K,h⟩:=oc h
  ·exact eK K (wa J 7 (eSub [] (j54 (d.From==g_.Start) h)))
  exact eK K (wa J 7 (eSub [] (j54 false h)))
 exact eSub [] (ih N 0 h)
theorem z180_ct (N:Nat) (g_:T5) (r:(List Int)) (h:z180 N g_=some r) :
 Fn Tryz.prog 180 ⟨4,[.a (cC5 0 1 2 3 g_)],(vV5 0 1 2 3 g_ []),[],5,.S 4,[],[(4,.own (rI .i64) r true)]⟩:=by
 refine eFn func180 rfl (fun E F w=>?_)
 unfold z180 at h
 obtain ⟨x1,c,h⟩:=ob h
 refine wa J 9 (eMk J (oI .i64) c (wa J 7 (eCut (σ:=(List Int)) (fun st=>(zz21 g_ st [(1,.B 4 0),(3,.S 5)])) (fun st=>z180_k5 N g_ st=some r) ?_ (fun j1=>?_))))
 ·intro d h
  replace h:z180_k5 N g_ d=some r:=h
  unfold z180_k5 at h
  obtain ⟨x6,e,h⟩:=ob h
  refine wa J 5 (eIo J (rI .i64) e (eSt J [] (oI .i64) 0 e (wa J 6 (eCut (σ:=(List Int)) (fun st=>⟨[(3,.S 5)],[(5,.own (rI .i64) st true)],(vV5 0 1 2 3 g_ []),7⟩) (fun st=>z180_k1 st=some r) ?_ (fun j3=>?_)))))
  ·intro f h
   replace h:z180_k1 f=some r:=h
   unfold z180_k1 at h
   cases h
   exact wr J 5 func180 [(4,.sl 5)]
  refine wa J 1 (eLoop (σ:=(List Int) × Int) (fun st=>(zz11 g_ st.1 [(1,.B 4 0),(3,.S 5),(5,.I st.2)])) (fun n st=>z180_l2 N g_ n st.1 st.2) (r:=r) (fun _=>rfl) ?_ (fun ih=>?_))
  ·intro n13 ih14
   rintro ⟨g,i⟩ h
   replace h:z180_l2 N g_ (n13+1) g i=some r:=h
   unfold z180_l2 at h
   obtain ⟨K,h⟩|⟨K,h⟩:=oc' h
   ·exact wH J 8 K (wa J 2 (eSub [] (j3 g h)))
   refine wH J 8 K (wa J 8 (eCut (σ:=(List Int)) (fun st=>(zz11 g_ st [(1,.B 4 0),(3,.S 5),(5,.I i)])) (fun st=>z180_k3 i (z180_l2 N g_ n13) st=some r) ?_ (fun j21=>?_)))
   ·intro j h
    replace h:z180_k3 i (z180_l2 N g_ n13) j=some r:=h
    unfold z180_k3 at h
    exact wa J 6 (eSub [] (ih14 (j,(w64 (i+1))) h))
   refine wa J 1 (eLoop (σ:=(List Int) × Int) (fun st=>(zz11 g_ st.1 [(1,.B 4 0),(3,.S 5),(5,.I i),(6,.I st.2)])) (fun n st=>z180_l4 g_ i (z180_l2 N g_ n13) n st.1 st.2) (r:=r) (fun _=>rfl) ?_ (fun ih=>?_))
   ·intro n15 ih23
    rintro ⟨k,l⟩ h
    replace h:z180_l4 g_ i (z180_l2 N g_ n13) (n15+1) k l=some r:=h
    unfold z180_l4 at h
    obtain ⟨K,h⟩|⟨K,h⟩:=oc' h
    ·exact wH J 9 K (wa J 2 (eSub [] (j21 k h)))
    refine wH J 9 K ?_
    obtain ⟨m,o,h⟩:=ob h
    refine wa J 9 (eIx J oO2 o ?_)
    obtain ⟨p,q,h⟩:=ob h
    refine wa J 9 (eIo J (rI .i64) q (eLd J (oI .i64) q ?_))
    obtain ⟨K,h⟩|⟨K,h⟩:=oc' h
    ·exact wH J 3 K (wa J 16 (eSub [] (ih23 (k,(w64 (l+1))) h)))
    refine wH J 3 K ?_
    obtain ⟨s,t,h⟩:=ob h
    refine wa J 3 (eIo J (rI .i64) t (eLd J (oI .i64) t ?_))
    obtain ⟨K,h⟩|⟨K,h⟩:=oc' h
    ·exact wH J 3 K (wa J 8 (eSub [] (ih23 (k,(w64 (l+1))) h)))
    refine wH J 3 K ?_
    obtain ⟨u,v,h⟩:=ob h
    exact wa J 7 (eIo J (rI .i64) v (eSt J [] (oI .i64) (w64 (i+1)) v (wa J 7 (eSub [] (ih23 ((setL' k m.From (w64 (i+1))),(w64 (l+1))) h)))))
   exact eSub [] (ih N (g,0) h)
  exact eSub [] (ih N ((setL' d g_.End 0),0) h)
 refine wa J 1 (eLoop (σ:=(List Int) × Int) (fun st=>(zz21 g_ st.1 [(1,.B 4 0),(3,.S 5),(4,.I st.2)])) (fun n st=>z180_l6 N g_ n st.1 st.2) (r:=r) (fun _=>rfl) ?_ (fun ih=>?_))
 ·intro n16 ih24
  rintro ⟨x,y⟩ h
  replace h:z180_l6 N g_ (n16+1) x y=some r:=h
  unfold z180_l6 at h
  obtain ⟨K,h⟩|⟨K,h⟩:=oc' h
  ·exact wH J 8 K (wa J 2 (eSub [] (j1 x h)))
  refine wH J 8 K ?_
  obtain ⟨z,A,h⟩:=ob h
  exact wa J 7 (eIo J (rI .i64) A (eSt J [] (oI .i64) (-1) A (wa J 7 (eSub [] (ih24 ((setL' x y (-1)),(w64 (y+1))) h)))))
 exact eSub [] (ih N (x1,0) h)
theorem z237_ct (N:Nat) (g_:T5) (i_:Int) (k_:Int) (r:Bool) (h:z237 N g_ i_ k_=some r) :
 Fn Tryz.prog 237 ⟨4,[.a (cC5 0 1 2 3 g_),.I i_,.I k_],(vV5 0 1 2 3 g_ []),[],4,.O r,[],[]⟩:=by
 refine eFn func237 rfl (fun E F w=>?_)
 unfold z237 at h
 obtain ⟨x1,c,h⟩:=ob h
 refine wa J 10 (eIx J oO2 c ?_)
 obtain ⟨x2,d,h⟩:=ob h
 refine wa J 5 (eIx J oO2 d (wa J 6 (eEnd ?_)))
 obtain ⟨K,h⟩|⟨K,h⟩:=oc h
 ·refine wH J 9 K ?_
  cases h
  exact wr J 10 func237 []
 refine wH J 9 K ?_
 obtain ⟨K,h⟩|⟨K,h⟩:=oc h
 ·refine wH J 11 K ?_
  cases h
  exact wr J 10 func237 []
 refine wH J 11 K ?_
 cases h
 exact wr J 9 func237 []
theorem z181_ct (N:Nat) (g_:T5) (s_:Int) (r:(List Int)) (h:z181 N g_ s_=some r) :
 Fn Tryz.prog 181 ⟨4,[.a (cC5 0 1 2 3 g_),.I s_],(vV5 0 1 2 3 g_ []),[],5,.S 4,[],[(4,.own (rI .i64) r true)]⟩:=by
 refine eFn func181 rfl (fun E F w=>?_)
 unfold z181 at h
 refine wa J 14 (eCut (σ:=(List Int)) (fun st=>⟨[(5,.S 5)],[(5,.own (rI .i64) st true)],(vV5 0 1 2 3 g_ []),6⟩) (fun st=>z181_k1 st=some r) ?_ (fun j1=>?_))
 ·intro c h
  replace h:z181_k1 c=some r:=h
  unfold z181_k1 at h
  cases h
  exact wr J 5 func181 [(4,.sl 5)]
 refine wa J 1 (eLoop (σ:=(List Int) × Int) (fun st=>(zz21 g_ st.1 [(1,.I s_),(2,.B 4 0),(5,.S 5),(6,.I st.2)])) (fun n st=>z181_l2 N g_ s_ n st.1 st.2) (r:=r) (fun _=>rfl) ?_ (fun ih=>?_))
 ·intro n12 ih12
  rintro ⟨d,e⟩ h
  replace h:z181_l2 N g_ s_ (n12+1) d e=some r:=h
  unfold z181_l2 at h
  obtain ⟨K,h⟩|⟨K,h⟩:=oc' h
  ·exact wH J 9 K (wa J 2 (eSub [] (j1 d h)))
  refine wH J 9 K ?_
  obtain ⟨f,g,h⟩:=ob h
  refine wa J 10 (eIx J oO2 g ?_)
  obtain ⟨K,h⟩|⟨K,h⟩:=oc h
  ·exact wH J 5 K (wa J 7 (eSub [] (ih12 (d,(w64 (e+1))) h)))
  refine wH J 5 K (wa J 7 (eCut (σ:=Int) (fun st=>(zz11 g_ d [(1,.I s_),(2,.B 4 0),(5,.S 5),(6,.I e),(7,.I st)])) (fun st=>z181_k3 d e (z181_l2 N g_ s_ n12) st=some r) ?_ (fun j19=>?_)))
  ·intro i h
   replace h:z181_k3 d e (z181_l2 N g_ s_ n12) i=some r:=h
   unfold z181_k3 at h
   obtain ⟨j,k,h⟩:=ob h
   refine wa J 3 (eVw J (rI .i64) k (wa J 1 (eBs J [] (oI .i64) ([e]:List Int) ?_)))
   obtain ⟨l,m,h⟩:=ob h
   refine wa J 2 (eVw J (rI .i64) m ?_)
   obtain ⟨o,p,h⟩:=ob h
   refine eAv J (rI .i64) m p ?_
   obtain ⟨q,s,h⟩:=ob h
   exact eAz J (rI .i64) k s (wa J 1 (eEnd (wa J 6 (eSub [(5,.sl 11)] (ih12 (q,(w64 (e+1))) h)))))
  refine wa J 1 (eLoop (σ:=Int) (fun st=>(zz11 g_ d [(1,.I s_),(2,.B 4 0),(5,.S 5),(6,.I e),(7,.I st)])) (fun n st=>z181_l4 N g_ d e (z181_l2 N g_ s_ n12) n st) (r:=r) (fun _=>rfl) ?_ (fun ih=>?_))
  ·intro n14 ih21
   intro t h
   replace h:z181_l4 N g_ d e (z181_l2 N g_ s_ n12) (n14+1) t=some r:=h
   unfold z181_l4 at h
   obtain ⟨K,h⟩|⟨K,h⟩:=oc' h
   ·exact wH J 8 K (wa J 8 (eEnd (wa J 2 (eSub [] (j19 t h)))))
   refine wH J 8 K ?_
   obtain ⟨u,v,h⟩:=ob h
   refine wa J 3 (eIo J (rI .i64) v (eLd J (oI .i64) v ?_))
   obtain ⟨x,y,h⟩:=ob h
   refine wa J 1 (eCl (z237_ct N g_ u e _ y) [] [(0,.sl 0),(1,.sl 1),(2,.sl 2),(3,.sl 3)] (wa J 1 (eEnd ?_)))
   obtain ⟨K,h⟩|⟨K,h⟩:=oc h
   ·exact eK K (wa J 9 (eSub [] (ih21 (w64 (t+1)) h)))
   exact eK K (wa J 2 (eSub [] (j19 t h)))
  exact eSub [] (ih N 0 h)
 exact eSub [(5,.nil)] (ih N (([]:List Int),0) h)
theorem z118_ct (N:Nat) (g_:T5) (r:Bool) (h:z118 N g_=some r) :
 Fn Tryz.prog 118 ⟨4,[.a (cC5 0 1 2 3 g_)],(vV5 0 1 2 3 g_ []),[],4,.O r,[],[]⟩:=by
 refine eFn func118 rfl (fun E F w=>?_)
 unfold z118 at h
 obtain ⟨x1,c,h⟩:=ob h
 refine wa J 9 (eMk J oB c ?_)
 obtain ⟨x2,d,h⟩:=ob h
 refine wa J 7 (eIo J rB d (eSt J [] oB true d (wa J 6 (eCut (σ:=(List Bool)) (fun st=>(zz19 g_ st [(1,.B 4 0),(3,.S 5)])) (fun st=>z118_k3 N g_ st=some r) ?_ (fun j1=>?_)))))
 ·intro e h
  replace h:z118_k3 N g_ e=some r:=h
  unfold z118_k3 at h
  obtain ⟨f,g,h⟩:=ob h
  refine wa J 3 (eCl (z180_ct N g_ _ g) [] [(0,.sl 0),(1,.sl 1),(2,.sl 2),(3,.sl 3)] (wa J 7 (eCut (σ:=Unit) (fun st=>⟨[(1,.B 4 0)],[(4,.box (cC5 0 1 2 3 g_) 27)],(vV5 0 1 2 3 g_ []),8⟩) (fun st=>z118_k1 N g_=some r) ?_ (fun j12=>?_))))
  ·intro _ h
   replace h:z118_k1 N g_=some r:=h
   unfold z118_k1 at h
   obtain ⟨i,j,h⟩:=ob h
   refine wa J 5 (eCl (z181_ct N g_ g_.End _ j) [] [(0,.sl 0),(1,.sl 1),(2,.sl 2),(3,.sl 3)] ?_)
   cases h
   exact wr J 4 func118 []
  refine wa J 1 (eLoop (σ:=Int) (fun st=>⟨[(1,.B 4 0),(3,.S 5),(6,.S 7),(7,.I st)],[(4,.box (cC5 0 1 2 3 g_) 27),(5,.own rB e true),(7,.own (rI .i64) f true)],(vV5 0 1 2 3 g_ []),8⟩) (fun n st=>z118_l2 N g_ e f n st) (r:=r) (fun _=>rfl) ?_ (fun ih=>?_))
  ·intro n9 ih14
   intro k h
   replace h:z118_l2 N g_ e f (n9+1) k=some r:=h
   unfold z118_l2 at h
   obtain ⟨K,h⟩|⟨K,h⟩:=oc' h
   ·exact wH J 8 K (wa J 2 (eSub [] (j12 () h)))
   refine wH J 8 K ?_
   obtain ⟨l,m,h⟩:=ob h
   refine wa J 8 (eIo J rB m (eLd J oB m ?_))
   obtain ⟨K,h⟩|⟨K,h⟩:=oc h
   ·refine wH J 2 K ?_
    cases h
    exact wr J 12 func118 []
   refine wH J 2 K ?_
   obtain ⟨o,p,h⟩:=ob h
   refine wa J 2 (eIo J (rI .i64) p (eLd J (oI .i64) p ?_))
   obtain ⟨K,h⟩|⟨K,h⟩:=oc h
   ·refine wH J 3 K ?_
    cases h
    exact wr J 5 func118 []
   exact wH J 3 K (wa J 8 (eSub [] (ih14 (w64 (k+1)) h)))
  exact eSub [] (ih N 0 h)
 refine wa J 1 (eLoop (σ:=(List Bool) × Int) (fun st=>(zz19 g_ st.1 [(1,.B 4 0),(3,.S 5),(4,.I st.2)])) (fun n st=>z118_l4 N g_ n st.1 st.2) (r:=r) (fun _=>rfl) ?_ (fun ih=>?_))
 ·intro n14 ih15
  rintro ⟨q,s⟩ h
  replace h:z118_l4 N g_ (n14+1) q s=some r:=h
  unfold z118_l4 at h
  obtain ⟨K,h⟩|⟨K,h⟩:=oc' h
  ·exact wH J 8 K (wa J 2 (eSub [] (j1 q h)))
  refine wH J 8 K (wa J 8 (eCut (σ:=(List Bool)) (fun st=>(zz19 g_ st [(1,.B 4 0),(3,.S 5),(4,.I s)])) (fun st=>z118_k5 s (z118_l4 N g_ n14) st=some r) ?_ (fun j22=>?_)))
  ·intro t h
   replace h:z118_k5 s (z118_l4 N g_ n14) t=some r:=h
   unfold z118_k5 at h
   exact wa J 6 (eSub [] (ih15 (t,(w64 (s+1))) h))
  refine wa J 1 (eLoop (σ:=(List Bool) × Int) (fun st=>(zz19 g_ st.1 [(1,.B 4 0),(3,.S 5),(4,.I s),(5,.I st.2)])) (fun n st=>z118_l6 g_ s (z118_l4 N g_ n14) n st.1 st.2) (r:=r) (fun _=>rfl) ?_ (fun ih=>?_))
  ·intro n16 ih24
   rintro ⟨u,v⟩ h
   replace h:z118_l6 g_ s (z118_l4 N g_ n14) (n16+1) u v=some r:=h
   unfold z118_l6 at h
   obtain ⟨K,h⟩|⟨K,h⟩:=oc' h
   ·exact wH J 9 K (wa J 2 (eSub [] (j22 u h)))
   refine wH J 9 K ?_
   obtain ⟨x,y,h⟩:=ob h
   refine wa J 9 (eIx J oO2 y ?_)
   obtain ⟨z,A,h⟩:=ob h
   refine wa J 6 (eIx J oO2 A ?_)
   obtain ⟨C,D,h⟩:=ob h
   refine wa J 2 (eIo J rB D (eLd J oB D ?_))
   obtain ⟨K,h⟩|⟨K,h⟩:=oc h
   ·refine wH J 1 K ?_
    obtain ⟨G,H,h⟩:=ob h
    exact wa J 10 (eIo J rB H (eSt J [] oB true H (eEnd (wa J 6 (eSub [] (ih24 ((setL' u x.To true),(w64 (v+1))) h))))))
   refine wH J 1 K ?_
   obtain ⟨R,T,h⟩:=ob h
   refine wa J 4 (eIx J oO2 T ?_)
   obtain ⟨U,X,h⟩:=ob h
   refine wa J 2 (eIo J rB X (eLd J oB X ?_))
   obtain ⟨Y,Z,h⟩:=ob h
   exact wa J 1 (eIo J rB Z (eSt J [] oB U Z (eEnd (wa J 6 (eSub [] (ih24 ((setL' u x.To U),(w64 (v+1))) h))))))
  exact eSub [] (ih N (q,0) h)
 exact eSub [] (ih N ((setL' x1 g_.Start true),0) h)
theorem z119_ct (N:Nat) (g_:T5) (r:Bool) (h:z119 N g_=some r) :
 Fn Tryz.prog 119 ⟨4,[.a (cC5 0 1 2 3 g_)],(vV5 0 1 2 3 g_ []),[],4,.O r,[],[]⟩:=by
 refine eFn func119 rfl (fun E F w=>?_)
 unfold z119 at h
 refine wa J 10 (eCut (σ:=Unit) (fun st=>(zz8 g_ [])) (fun st=>z119_k1=some r) ?_ (fun j1=>?_))
 ·intro _ h
  replace h:z119_k1=some r:=h
  unfold z119_k1 at h
  cases h
  exact wr J 4 func119 []
 refine wa J 1 (eLoop (σ:=Int) (fun st=>(zz1 g_ [(1,.B 4 0),(3,.I st)])) (fun n st=>z119_l2 N g_ n st) (r:=r) (fun _=>rfl) ?_ (fun ih=>?_))
 ·intro n2 ih3
  intro c h
  replace h:z119_l2 N g_ (n2+1) c=some r:=h
  unfold z119_l2 at h
  obtain ⟨K,h⟩|⟨K,h⟩:=oc' h
  ·exact wH J 9 K (wa J 2 (eSub [] (j1 () h)))
  refine wH J 9 K ?_
  obtain ⟨d,e,h⟩:=ob h
  refine wa J 9 (eIx J oO11 e ?_)
  obtain ⟨f,g,h⟩:=ob h
  refine wa J 9 (eCl (z179_ct N g_ d.State _ g) [] [(0,.sl 0),(1,.sl 1),(2,.sl 2),(3,.sl 3)] ?_)
  obtain ⟨K,h⟩|⟨K,h⟩:=oc h
  ·refine wH J 2 K (wa J 59 (eEnd ?_))
   cases h
   exact wr J 5 func119 []
  refine wH J 2 K ?_
  obtain ⟨K,h⟩|⟨K,h⟩:=oc' h
  ·refine wH J 3 K ?_
   obtain ⟨K,h⟩|⟨K,h⟩:=oc h
   ·refine wH J 18 K (wa J 38 (eEnd ?_))
    cases h
    exact wr J 5 func119 []
   refine wH J 18 K ?_
   obtain ⟨K,h⟩|⟨K,h⟩:=oc h
   ·refine wH J 5 K (wa J 33 (eEnd ?_))
    cases h
    exact wr J 5 func119 []
   refine wH J 5 K ?_
   obtain ⟨K,h⟩|⟨K,h⟩:=oc h
   ·refine wH J 5 K (wa J 28 (eEnd ?_))
    cases h
    exact wr J 5 func119 []
   refine wH J 5 K ?_
   obtain ⟨K,h⟩|⟨K,h⟩:=oc h
   ·refine wH J 8 K (wa J 20 (eEnd ?_))
    cases h
    exact wr J 5 func119 []
   refine wH J 8 K ?_
   obtain ⟨i,j,h⟩:=ob h
   refine wa J 4 (eIx J oO2 j ?_)
   obtain ⟨K,h⟩|⟨K,h⟩:=oc h
   ·refine wH J 7 K (wa J 8 (eEnd ?_))
    cases h
    exact wr J 5 func119 []
   refine wH J 7 K ?_
   obtain ⟨k,l,h⟩:=ob h
   refine wa J 4 (eIx J oO2 l (wa J 3 (eEnd ?_)))
   obtain ⟨K,h⟩|⟨K,h⟩:=oc h
   ·refine eK K ?_
    cases h
    exact wr J 5 func119 []
   exact eK K (wa J 8 (eSub [] (ih3 (w64 (c+1)) h)))
  refine wH J 3 K ?_
  obtain ⟨m,o,h⟩:=ob h
  refine wa J 6 (eIx J oO11 o ?_)
  obtain ⟨K,h⟩|⟨K,h⟩:=oc h
  ·refine wH J 6 K (wa J 43 (eEnd ?_))
   cases h
   exact wr J 5 func119 []
  refine wH J 6 K ?_
  obtain ⟨K,h⟩|⟨K,h⟩:=oc h
  ·refine wH J 5 K (wa J 38 (eEnd ?_))
   cases h
   exact wr J 5 func119 []
  refine wH J 5 K ?_
  obtain ⟨K,h⟩|⟨K,h⟩:=oc h
  ·refine wH J 5 K (wa J 33 (eEnd ?_))
   cases h
   exact wr J 5 func119 []
  refine wH J 5 K ?_
  obtain ⟨K,h⟩|⟨K,h⟩:=oc h
  ·refine wH J 5 K (wa J 28 (eEnd ?_))
   cases h
   exact wr J 5 func119 []
  refine wH J 5 K ?_
  obtain ⟨K,h⟩|⟨K,h⟩:=oc h
  ·refine wH J 8 K (wa J 20 (eEnd ?_))
   cases h
   exact wr J 5 func119 []
  refine wH J 8 K ?_
  obtain ⟨p,q,h⟩:=ob h
  refine wa J 4 (eIx J oO2 q ?_)
  obtain ⟨K,h⟩|⟨K,h⟩:=oc h
  ·refine wH J 7 K (wa J 8 (eEnd ?_))
   cases h
   exact wr J 5 func119 []
  refine wH J 7 K ?_
  obtain ⟨s,t,h⟩:=ob h
  refine wa J 4 (eIx J oO2 t (wa J 3 (eEnd ?_)))
  obtain ⟨K,h⟩|⟨K,h⟩:=oc h
  ·refine eK K ?_
   cases h
   exact wr J 5 func119 []
  exact eK K (wa J 8 (eSub [] (ih3 (w64 (c+1)) h)))
 exact eSub [] (ih N 0 h)
theorem z59_ct (N:Nat) (g_:T5) (r:Bool) (h:z59 N g_=some r) :
 Fn Tryz.prog 59 ⟨4,[.a (cC5 0 1 2 3 g_)],(vV5 0 1 2 3 g_ []),[],4,.O r,[],[]⟩:=by
 refine eFn func59 rfl (fun E F w=>?_)
 unfold z59 at h
 obtain ⟨x1,c,h⟩:=ob h
 refine wa J 8 (eCl (z115_ct N g_ _ c) [] [(0,.sl 0),(1,.sl 1),(2,.sl 2),(3,.sl 3)] ?_)
 obtain ⟨K,h⟩|⟨K,h⟩:=oc' h
 ·refine wH J 1 K ?_
  cases h
  exact wr J 17 func59 []
 refine wH J 1 K ?_
 obtain ⟨x2,d,h⟩:=ob h
 refine wa J 1 (eCl (z116_ct N g_ _ d) [] [(0,.sl 0),(1,.sl 1),(2,.sl 2),(3,.sl 3)] ?_)
 obtain ⟨K,h⟩|⟨K,h⟩:=oc' h
 ·refine wH J 2 K ?_
  cases h
  exact wr J 13 func59 []
 refine wH J 2 K ?_
 obtain ⟨x3,e,h⟩:=ob h
 refine wa J 1 (eCl (z117_ct N g_ _ e) [] [(0,.sl 0),(1,.sl 1),(2,.sl 2),(3,.sl 3)] ?_)
 obtain ⟨K,h⟩|⟨K,h⟩:=oc' h
 ·refine wH J 2 K ?_
  cases h
  exact wr J 9 func59 []
 refine wH J 2 K ?_
 obtain ⟨x4,f,h⟩:=ob h
 refine wa J 1 (eCl (z118_ct N g_ _ f) [] [(0,.sl 0),(1,.sl 1),(2,.sl 2),(3,.sl 3)] ?_)
 obtain ⟨K,h⟩|⟨K,h⟩:=oc' h
 ·refine wH J 2 K ?_
  cases h
  exact wr J 5 func59 []
 refine wH J 2 K ?_
 obtain ⟨x5,g,h⟩:=ob h
 refine wa J 1 (eCl (z119_ct N g_ _ g) [] [(0,.sl 0),(1,.sl 1),(2,.sl 2),(3,.sl 3)] ?_)
 cases h
 exact wr J 3 func59 []
theorem z120_ct (N:Nat) (m_:T8) (r:Bool) (h:z120 N m_=some r) :
 Fn Tryz.prog 120 ⟨3,[.a (cC8 0 1 2 m_)],(vV8 0 1 2 m_ []),[],3,.O r,[],[]⟩:=by
 refine eFn func120 rfl (fun E F w=>?_)
 unfold z120 at h
 obtain ⟨K,h⟩|⟨K,h⟩:=oc h
 ·refine wH J 12 K ?_
  cases h
  exact wr J 46 func120 []
 refine wH J 12 K ?_
 obtain ⟨K,h⟩|⟨K,h⟩:=oc h
 ·refine wH J 5 K ?_
  cases h
  exact wr J 41 func120 []
 refine wH J 5 K ?_
 obtain ⟨K,h⟩|⟨K,h⟩:=oc h
 ·refine wH J 5 K ?_
  cases h
  exact wr J 36 func120 []
 refine wH J 5 K ?_
 obtain ⟨K,h⟩|⟨K,h⟩:=oc h
 ·refine wH J 5 K ?_
  cases h
  exact wr J 31 func120 []
 refine wH J 5 K ?_
 obtain ⟨K,h⟩|⟨K,h⟩:=oc h
 ·refine wH J 5 K ?_
  cases h
  exact wr J 26 func120 []
 refine wH J 5 K ?_
 obtain ⟨K,h⟩|⟨K,h⟩:=oc h
 ·refine wH J 7 K ?_
  cases h
  exact wr J 19 func120 []
 refine wH J 7 K ?_
 obtain ⟨K,h⟩|⟨K,h⟩:=oc h
 ·refine wH J 8 K ?_
  cases h
  exact wr J 11 func120 []
 refine wH J 8 K ?_
 obtain ⟨K,h⟩|⟨K,h⟩:=oc h
 ·refine wH J 6 K ?_
  cases h
  exact wr J 5 func120 []
 refine wH J 6 K (wa J 7 (eCut (σ:=Unit) (fun st=>⟨[],[],(vV8 0 1 2 m_ []),4⟩) (fun st=>z120_k1=some r) ?_ (fun j1=>?_)))
 ·intro _ h
  replace h:z120_k1=some r:=h
  unfold z120_k1 at h
  cases h
  exact wr J 4 func120 []
 refine wa J 1 (eLoop (σ:=Int) (fun st=>(zz15 m_ [(1,.B 3 0),(3,.I st)])) (fun n st=>z120_l2 m_ n st) (r:=r) (fun _=>rfl) ?_ (fun ih=>?_))
 ·intro n2 ih3
  intro c h
  replace h:z120_l2 m_ (n2+1) c=some r:=h
  unfold z120_l2 at h
  obtain ⟨K,h⟩|⟨K,h⟩:=oc' h
  ·exact wH J 9 K (wa J 2 (eSub [] (j1 () h)))
  refine wH J 9 K ?_
  obtain ⟨x9,d,h⟩:=ob h
  refine wa J 9 (eIx J oO9 d ?_)
  obtain ⟨K,h⟩|⟨K,h⟩:=oc h
  ·refine wH J 10 K ?_
   cases h
   exact wr J 51 func120 []
  refine wH J 10 K ?_
  obtain ⟨K,h⟩|⟨K,h⟩:=oc h
  ·refine wH J 7 K ?_
   cases h
   exact wr J 44 func120 []
  refine wH J 7 K ?_
  obtain ⟨K,h⟩|⟨K,h⟩:=oc h
  ·refine wH J 5 K ?_
   cases h
   exact wr J 39 func120 []
  refine wH J 5 K ?_
  obtain ⟨K,h⟩|⟨K,h⟩:=oc h
  ·refine wH J 7 K ?_
   cases h
   exact wr J 32 func120 []
  refine wH J 7 K ?_
  obtain ⟨K,h⟩|⟨K,h⟩:=oc h
  ·refine wH J 5 K ?_
   cases h
   exact wr J 27 func120 []
  refine wH J 5 K ?_
  obtain ⟨K,h⟩|⟨K,h⟩:=oc h
  ·refine wH J 5 K ?_
   cases h
   exact wr J 22 func120 []
  refine wH J 5 K ?_
  obtain ⟨K,h⟩|⟨K,h⟩:=oc h
  ·refine wH J 7 K ?_
   cases h
   exact wr J 15 func120 []
  refine wH J 7 K ?_
  obtain ⟨K,h⟩|⟨K,h⟩:=oc h
  ·refine wH J 5 K ?_
   cases h
   exact wr J 10 func120 []
  refine wH J 5 K ?_
  obtain ⟨K,h⟩|⟨K,h⟩:=oc h
  ·refine wH J 5 K ?_
   cases h
   exact wr J 5 func120 []
  exact wH J 5 K (wa J 8 (eSub [] (ih3 (w64 (c+1)) h)))
 exact eSub [] (ih N 0 h)
theorem z121_ct (N:Nat) (m_:T8) (r:Bool) (h:z121 N m_=some r) :
 Fn Tryz.prog 121 ⟨3,[.a (cC8 0 1 2 m_)],(vV8 0 1 2 m_ []),[],3,.O r,[],[]⟩:=by
 refine eFn func121 rfl (fun E F w=>?_)
 unfold z121 at h
 refine wa J 10 (eCut (σ:=Unit) (fun st=>⟨[],[],(vV8 0 1 2 m_ []),4⟩) (fun st=>z121_k1=some r) ?_ (fun j1=>?_))
 ·intro _ h
  replace h:z121_k1=some r:=h
  unfold z121_k1 at h
  cases h
  exact wr J 4 func121 []
 refine wa J 1 (eLoop (σ:=Int) (fun st=>(zz15 m_ [(1,.B 3 0),(3,.I st)])) (fun n st=>z121_l2 N m_ n st) (r:=r) (fun _=>rfl) ?_ (fun ih=>?_))
 ·intro n12 ih33
  intro c h
  replace h:z121_l2 N m_ (n12+1) c=some r:=h
  unfold z121_l2 at h
  obtain ⟨K,h⟩|⟨K,h⟩:=oc' h
  ·exact wH J 9 K (wa J 2 (eSub [] (j1 () h)))
  refine wH J 9 K ?_
  obtain ⟨d,e,h⟩:=ob h
  refine wa J 9 (eIx J oO9 e ?_)
  refine wa J 10 (eCut (σ:=Bool) (fun st=>⟨[(1,.B 3 0),(3,.I c),(4,.B 5 0),(40,.O st)],[(3,.box (cC8 0 1 2 m_) 31),(5,.box (cC9 d) 93)],(vV8 0 1 2 m_ []),6⟩) (fun st=>z121_k6 N m_ c (z121_l2 N m_ n12) d st=some r) ?_ (fun j54=>?_))
  ·intro f h
   replace h:z121_k6 N m_ c (z121_l2 N m_ n12) d f=some r:=h
   unfold z121_k6 at h
   obtain ⟨K,h⟩|⟨K,h⟩:=oc h
   ·refine eK K ?_
    cases h
    exact wr J 5 func121 []
   refine eK K (wa J 6 (eCut (σ:=Unit) (fun st=>⟨[(1,.B 3 0),(3,.I c)],[(3,.box (cC8 0 1 2 m_) 31)],(vV8 0 1 2 m_ []),6⟩) (fun st=>z121_k3 c (z121_l2 N m_ n12)=some r) ?_ (fun j55=>?_)))
   ·intro _ h
    replace h:z121_k3 c (z121_l2 N m_ n12)=some r:=h
    unfold z121_k3 at h
    exact wa J 6 (eSub [] (ih33 (w64 (c+1)) h))
   refine wa J 1 (eLoop (σ:=Int) (fun st=>⟨[(1,.B 3 0),(3,.I c),(4,.B 5 0),(5,.I st)],[(3,.box (cC8 0 1 2 m_) 31),(5,.box (cC9 d) 93)],(vV8 0 1 2 m_ []),6⟩) (fun n st=>z121_l4 m_ c (z121_l2 N m_ n12) d n st) (r:=r) (fun _=>rfl) ?_ (fun ih=>?_))
   ·intro n14 ih60
    intro g h
    replace h:z121_l4 m_ c (z121_l2 N m_ n12) d (n14+1) g=some r:=h
    unfold z121_l4 at h
    obtain ⟨K,h⟩|⟨K,h⟩:=oc' h
    ·exact wH J 9 K (wa J 2 (eSub [] (j55 () h)))
    refine wH J 9 K ?_
    obtain ⟨i,j,h⟩:=ob h
    refine wa J 9 (eIx J oO9 j ?_)
    refine wa J 11 (eCut (σ:=Bool) (fun st=>⟨[(1,.B 3 0),(3,.I c),(4,.B 5 0),(5,.I g),(6,.B 7 0),(87,.O st)],[(3,.box (cC8 0 1 2 m_) 31),(5,.box (cC9 d) 93),(7,.box (cC9 i) 93)],(vV8 0 1 2 m_ []),8⟩) (fun st=>z121_k5 d g (z121_l4 m_ c (z121_l2 N m_ n12) d n14) i st=some r) ?_ (fun j63=>?_))
    ·intro k h
     replace h:z121_k5 d g (z121_l4 m_ c (z121_l2 N m_ n12) d n14) i k=some r:=h
     unfold z121_k5 at h
     obtain ⟨K,h⟩|⟨K,h⟩:=oc h
     ·refine eK K ?_
      cases h
      exact wr J 5 func121 []
     refine eK K ?_
     obtain ⟨K,h⟩|⟨K,h⟩:=oc' h
     ·exact wH J 7 K (wa J 27 (eSub [] (ih60 (w64 (g+1)) h)))
     refine wH J 7 K ?_
     obtain ⟨K,h⟩|⟨K,h⟩:=oc' h
     ·exact wH J 7 K (wa J 20 (eSub [] (ih60 (w64 (g+1)) h)))
     refine wH J 7 K ?_
     obtain ⟨K,h⟩|⟨K,h⟩:=oc h
     ·refine wH J 4 K ?_
      cases h
      exact wr J 13 func121 []
     refine wH J 4 K ?_
     obtain ⟨K,h⟩|⟨K,h⟩:=oc h
     ·refine wH J 8 K ?_
      cases h
      exact wr J 5 func121 []
     exact wH J 8 K (wa J 8 (eSub [] (ih60 (w64 (g+1)) h)))
    obtain ⟨K,h⟩|⟨K,h⟩:=oc' h
    ·exact eK K (wa J 32 (eSub [] (j63 false h)))
    refine eK K ?_
    obtain ⟨K,h⟩|⟨K,h⟩:=oc' h
    ·exact wH J 7 K (wa J 25 (eSub [] (j63 false h)))
    refine wH J 7 K ?_
    obtain ⟨K,h⟩|⟨K,h⟩:=oc h
    ·exact wH J 6 K (wa J 19 (eSub [] (j63 true h)))
    refine wH J 6 K ?_
    obtain ⟨K,h⟩|⟨K,h⟩:=oc' h
    ·exact wH J 6 K (wa J 13 (eSub [] (j63 d.Again h)))
    refine wH J 6 K ?_
    obtain ⟨K,h⟩|⟨K,h⟩:=oc h
    ·exact wH J 8 K (wa J 5 (eSub [] (j63 true h)))
    exact wH J 8 K (wa J 5 (eSub [] (j63 d.Again h)))
   exact eSub [] (ih N 0 h)
  obtain ⟨K,h⟩|⟨K,h⟩:=oc' h
  ·exact eK K (wa J 20 (eSub [] (j54 false h)))
  refine eK K ?_
  obtain ⟨K,h⟩|⟨K,h⟩:=oc h
  ·exact wH J 4 K (wa J 16 (eSub [] (j54 true h)))
  refine wH J 4 K ?_
  obtain ⟨K,h⟩|⟨K,h⟩:=oc h
  ·exact wH J 7 K (wa J 9 (eSub [] (j54 true h)))
  refine wH J 7 K ?_
  obtain ⟨l,m,h⟩:=ob h
  exact wa J 4 (eIx J oB m (wa J 4 (eSub [] (j54 l h))))
 exact eSub [] (ih N 0 h)
theorem z122_ct (N:Nat) (m_:T8) (r:Bool) (h:z122 N m_=some r) :
 Fn Tryz.prog 122 ⟨3,[.a (cC8 0 1 2 m_)],(vV8 0 1 2 m_ []),[],3,.O r,[],[]⟩:=by
 refine eFn func122 rfl (fun E F w=>?_)
 unfold z122 at h
 refine wa J 10 (eCut (σ:=Unit) (fun st=>⟨[],[],(vV8 0 1 2 m_ []),4⟩) (fun st=>z122_k1=some r) ?_ (fun j1=>?_))
 ·intro _ h
  replace h:z122_k1=some r:=h
  unfold z122_k1 at h
  cases h
  exact wr J 4 func122 []
 refine wa J 1 (eLoop (σ:=Int) (fun st=>(zz15 m_ [(1,.B 3 0),(3,.I st)])) (fun n st=>z122_l2 m_ n st) (r:=r) (fun _=>rfl) ?_ (fun ih=>?_))
 ·intro n2 ih6
  intro c h
  replace h:z122_l2 m_ (n2+1) c=some r:=h
  unfold z122_l2 at h
  obtain ⟨K,h⟩|⟨K,h⟩:=oc' h
  ·exact wH J 9 K (wa J 2 (eSub [] (j1 () h)))
  refine wH J 9 K ?_
  obtain ⟨d,e,h⟩:=ob h
  refine wa J 9 (eIx J oO11 e ?_)
  refine wa J 11 (eCut (σ:=Bool) (fun st=>⟨[(1,.B 3 0),(3,.I c),(4,.B 5 0),(54,.O st)],[(3,.box (cC8 0 1 2 m_) 31),(5,.box (cC11 d) 235)],(vV8 0 1 2 m_ []),6⟩) (fun st=>z122_k3 m_ c (z122_l2 m_ n2) d st=some r) ?_ (fun j9=>?_))
  ·intro f h
   replace h:z122_k3 m_ c (z122_l2 m_ n2) d f=some r:=h
   unfold z122_k3 at h
   obtain ⟨K,h⟩|⟨K,h⟩:=oc h
   ·refine eK K ?_
    cases h
    exact wr J 5 func122 []
   refine eK K ?_
   obtain ⟨g,i,h⟩:=ob h
   refine wa J 8 (eIx J oO9 i ?_)
   obtain ⟨K,h⟩|⟨K,h⟩:=oc h
   ·refine wH J 12 K ?_
    cases h
    exact wr J 14 func122 []
   refine wH J 12 K ?_
   obtain ⟨K,h⟩|⟨K,h⟩:=oc h
   ·refine wH J 5 K ?_
    cases h
    exact wr J 9 func122 []
   refine wH J 5 K ?_
   obtain ⟨K,h⟩|⟨K,h⟩:=oc h
   ·refine wH J 4 K ?_
    cases h
    exact wr J 5 func122 []
   exact wH J 4 K (wa J 8 (eSub [] (ih6 (w64 (c+1)) h)))
  obtain ⟨K,h⟩|⟨K,h⟩:=oc h
  ·exact eK K (wa J 33 (eEnd (eSub [] (j9 true h))))
  refine eK K ?_
  obtain ⟨K,h⟩|⟨K,h⟩:=oc h
  ·exact wH J 5 K (wa J 28 (eEnd (eSub [] (j9 true h))))
  refine wH J 5 K ?_
  obtain ⟨K,h⟩|⟨K,h⟩:=oc h
  ·exact wH J 5 K (wa J 23 (eEnd (eSub [] (j9 true h))))
  refine wH J 5 K ?_
  obtain ⟨K,h⟩|⟨K,h⟩:=oc h
  ·exact wH J 8 K (wa J 15 (eEnd (eSub [] (j9 true h))))
  refine wH J 8 K ?_
  obtain ⟨K,h⟩|⟨K,h⟩:=oc' h
  ·exact wH J 3 K (wa J 12 (eEnd (eSub [] (j9 false h))))
  refine wH J 3 K ?_
  obtain ⟨j,k,h⟩:=ob h
  exact wa J 6 (eIx J oO11 k (wa J 5 (eEnd (eSub [] (j9 (decide (d.State≤j.State)) h)))))
 exact eSub [] (ih N 0 h)
theorem z182_ct (N:Nat) (l_:(List Int)) (n_:Int) (r:Bool) (h:z182 N l_ n_=some r) :
 Fn Tryz.prog 182 ⟨1,[.S 0,.I n_],[(0,.sl (rI .i64) l_)],[],1,.O r,[],[]⟩:=by
 refine eFn func182 rfl (fun E F w=>?_)
 unfold z182 at h
 refine wa J 9 (eCut (σ:=Unit) (fun st=>(zz7 l_ [])) (fun st=>z182_k1=some r) ?_ (fun j1=>?_))
 ·intro _ h
  replace h:z182_k1=some r:=h
  unfold z182_k1 at h
  cases h
  exact wr J 4 func182 []
 refine wa J 1 (eLoop (σ:=Int) (fun st=>(zz7 l_ [(0,.S 0),(1,.I n_),(5,.I st)])) (fun n st=>z182_l2 l_ n_ n st) (r:=r) (fun _=>rfl) ?_ (fun ih=>?_))
 ·intro n2 ih3
  intro c h
  replace h:z182_l2 l_ n_ (n2+1) c=some r:=h
  unfold z182_l2 at h
  obtain ⟨K,h⟩|⟨K,h⟩:=oc' h
  ·exact wH J 8 K (wa J 2 (eSub [] (j1 () h)))
  refine wH J 8 K ?_
  obtain ⟨x9,d,h⟩:=ob h
  refine wa J 8 (eIx J (oI .i64) d ?_)
  obtain ⟨K,h⟩|⟨K,h⟩:=oc h
  ·refine wH J 4 K ?_
   cases h
   exact wr J 5 func182 []
  exact wH J 4 K (wa J 8 (eSub [] (ih3 (w64 (c+1)) h)))
 exact eSub [] (ih N 0 h)
theorem z183_ct (N:Nat) (l_:(List Int)) (n_:Int) (r:(List Int)) (h:z183 N l_ n_=some r) :
 Fn Tryz.prog 183 ⟨1,[.S 0,.I n_],[(0,.sl (rI .i64) l_)],[],2,.S 1,[],[(1,.own (rI .i64) r true)]⟩:=by
 refine eFn func183 rfl (fun E F w=>?_)
 unfold z183 at h
 refine wa J 17 (eCut (σ:=(List Int) × Bool) (fun st=>(zz14 st.1 l_ [(1,.I n_),(5,.S 1),(6,.O st.2)])) (fun st=>z183_k1 n_ st.1 st.2=some r) ?_ (fun j1=>?_))
 ·rintro ⟨c,d⟩ h
  replace h:z183_k1 n_ c d=some r:=h
  unfold z183_k1 at h
  obtain ⟨K,h⟩|⟨K,h⟩:=oc' h
  ·refine wH J 6 K ?_
   cases h
   exact wr J 7 func183 [(1,.sl 1)]
  refine wH J 6 K (wa J 4 (eBs J [] (oI .i64) ([n_]:List Int) ?_))
  obtain ⟨e,f,h⟩:=ob h
  refine eAp J (rI .i64) f ?_
  cases h
  exact wr J 7 func183 [(1,.sl 3)]
 refine wa J 1 (eLoop (σ:=(List Int) × Bool × Int) (fun st=>(zz14 st.1 l_ [(0,.S 0),(1,.I n_),(5,.S 1),(6,.O st.2.1),(7,.I st.2.2)])) (fun n st=>z183_l2 l_ n_ n st.1 st.2.1 st.2.2) (r:=r) (fun _=>rfl) ?_ (fun ih=>?_))
 ·intro n2 ih3
  rintro ⟨g,i,j⟩ h
  replace h:z183_l2 l_ n_ (n2+1) g i j=some r:=h
  unfold z183_l2 at h
  obtain ⟨K,h⟩|⟨K,h⟩:=oc' h
  ·exact wH J 8 K (wa J 2 (eSub [] (j1 (g,i) h)))
  refine wH J 8 K ?_
  obtain ⟨K,h⟩|⟨K,h⟩:=oc' h
  ·refine wH J 10 K ?_
   obtain ⟨k,l,h⟩:=ob h
   refine wa J 14 (eIx J (oI .i64) l (wa J 1 (eBs J [] (oI .i64) ([k]:List Int) ?_)))
   obtain ⟨m,o,h⟩:=ob h
   exact eAp J (rI .i64) o (wa J 8 (eSub [(1,.sl 4)] (ih3 (m,i,(w64 (j+1))) h)))
  refine wH J 10 K ?_
  obtain ⟨p,q,h⟩:=ob h
  refine wa J 2 (eIx J (oI .i64) q ?_)
  obtain ⟨K,h⟩|⟨K,h⟩:=oc' h
  ·refine wH J 5 K ?_
   obtain ⟨s,t,h⟩:=ob h
   refine wa J 6 (eIx J (oI .i64) t (wa J 1 (eBs J [] (oI .i64) ([s]:List Int) ?_)))
   obtain ⟨u,v,h⟩:=ob h
   exact eAp J (rI .i64) v (wa J 8 (eSub [(1,.sl 5)] (ih3 (u,i,(w64 (j+1))) h)))
  refine wH J 5 K ?_
  obtain ⟨x,y,h⟩:=ob h
  refine wa J 6 (eIx J (oI .i64) y ?_)
  obtain ⟨K,h⟩|⟨K,h⟩:=oc' h
  ·refine wH J 4 K ?_
   obtain ⟨z,A,h⟩:=ob h
   refine wa J 9 (eIx J (oI .i64) A (wa J 1 (eBs J [] (oI .i64) ([z]:List Int) ?_)))
   obtain ⟨C,D,h⟩:=ob h
   exact eAp J (rI .i64) D (wa J 8 (eSub [(1,.sl 6)] (ih3 (C,true,(w64 (j+1))) h)))
  refine wH J 4 K (wa J 4 (eBs J [] (oI .i64) ([n_]:List Int) ?_))
  obtain ⟨G,H,h⟩:=ob h
  refine eAp J (rI .i64) H ?_
  obtain ⟨R,T,h⟩:=ob h
  refine wa J 9 (eIx J (oI .i64) T (wa J 1 (eBs J [] (oI .i64) ([R]:List Int) ?_)))
  obtain ⟨U,X,h⟩:=ob h
  exact eAp J (rI .i64) X (wa J 8 (eSub [(1,.sl 8)] (ih3 (U,true,(w64 (j+1))) h)))
 exact eSub [(1,.nil)] (ih N (([]:List Int),false,0) h)
theorem z123_ct (N:Nat) (m_:T8) (r:(List Int)) (h:z123 N m_=some r) :
 Fn Tryz.prog 123 ⟨3,[.a (cC8 0 1 2 m_)],(vV8 0 1 2 m_ []),[],4,.S 3,[],[(3,.own (rI .i64) r true)]⟩:=by
 refine eFn func123 rfl (fun E F w=>?_)
 unfold z123 at h
 refine wa J 9 (eBs J [] (oI .i64) ([m_.Start]:List Int) (wa J 7 (eCut (σ:=(List Int)) (fun st=>⟨[(3,.S 5)],[(5,.own (rI .i64) st true)],(vV8 0 1 2 m_ []),6⟩) (fun st=>z123_k1 st=some r) ?_ (fun j1=>?_))))
 ·intro c h
  replace h:z123_k1 c=some r:=h
  unfold z123_k1 at h
  cases h
  exact wr J 5 func123 [(3,.sl 5)]
 refine wa J 1 (eLoop (σ:=(List Int) × Int) (fun st=>⟨[(1,.B 3 0),(3,.S 5),(4,.I st.2)],[(3,.box (cC8 0 1 2 m_) 31),(5,.own (rI .i64) st.1 true)],(vV8 0 1 2 m_ []),6⟩) (fun n st=>z123_l2 N m_ n st.1 st.2) (r:=r) (fun _=>rfl) ?_ (fun ih=>?_))
 ·intro n12 ih12
  rintro ⟨d,e⟩ h
  replace h:z123_l2 N m_ (n12+1) d e=some r:=h
  unfold z123_l2 at h
  obtain ⟨K,h⟩|⟨K,h⟩:=oc' h
  ·exact wH J 8 K (wa J 2 (eSub [] (j1 d h)))
  refine wH J 8 K (wa J 8 (eCut (σ:=(List Int)) (fun st=>⟨[(1,.B 3 0),(3,.S 6),(4,.I e)],[(3,.box (cC8 0 1 2 m_) 31),(6,.own (rI .i64) st true)],(vV8 0 1 2 m_ []),7⟩) (fun st=>z123_k3 e (z123_l2 N m_ n12) st=some r) ?_ (fun j19=>?_)))
  ·intro f h
   replace h:z123_k3 e (z123_l2 N m_ n12) f=some r:=h
   unfold z123_k3 at h
   exact wa J 6 (eSub [(5,.sl 6)] (ih12 (f,(w64 (e+1))) h))
  refine wa J 1 (eLoop (σ:=(List Int) × Int) (fun st=>⟨[(1,.B 3 0),(3,.S 6),(4,.I e),(5,.I st.2)],[(3,.box (cC8 0 1 2 m_) 31),(6,.own (rI .i64) st.1 true)],(vV8 0 1 2 m_ []),7⟩) (fun n st=>z123_l4 N m_ e (z123_l2 N m_ n12) n st.1 st.2) (r:=r) (fun _=>rfl) ?_ (fun ih=>?_))
  ·intro n14 ih21
   rintro ⟨g,i⟩ h
   replace h:z123_l4 N m_ e (z123_l2 N m_ n12) (n14+1) g i=some r:=h
   unfold z123_l4 at h
   obtain ⟨K,h⟩|⟨K,h⟩:=oc' h
   ·exact wH J 9 K (wa J 2 (eSub [] (j19 g h)))
   refine wH J 9 K ?_
   obtain ⟨j,k,h⟩:=ob h
   refine wa J 10 (eIx J oO9 k ?_)
   obtain ⟨l,m,h⟩:=ob h
   refine wa J 2 (eCb (z182_ct N g j.From _ m) [] [(0,.sl 6)] [6] (.inr ⟨rfl,trivial⟩) ?_)
   obtain ⟨K,h⟩|⟨K,h⟩:=oc' h
   ·exact wH J 1 K (wa J 8 (eSub [] (ih21 (g,(w64 (i+1))) h)))
   refine wH J 1 K ?_
   obtain ⟨o,p,h⟩:=ob h
   refine wa J 6 (eIx J oO9 p ?_)
   obtain ⟨q,s,h⟩:=ob h
   exact wa J 2 (eCb (z183_ct N g o.To _ s) [] [(0,.sl 6)] [6] (.inr ⟨rfl,⟨(rI_flat _),trivial⟩⟩) (wa J 8 (eSub [(6,.sl 9)] (ih21 (q,(w64 (i+1))) h))))
  exact eSub [(6,.sl 5)] (ih N (d,0) h)
 exact eSub [(5,.sl 4)] (ih N (([m_.Start]:List Int),0) h)
theorem z60_ct (N:Nat) (m_:T8) (r:Bool) (h:z60 N m_=some r) :
 Fn Tryz.prog 60 ⟨3,[.a (cC8 0 1 2 m_)],(vV8 0 1 2 m_ []),[],3,.O r,[],[]⟩:=by
 refine eFn func60 rfl (fun E F w=>?_)
 unfold z60 at h
 obtain ⟨x1,c,h⟩:=ob h
 refine wa J 8 (eCl (z120_ct N m_ _ c) [] [(0,.sl 0),(1,.sl 1),(2,.sl 2)] ?_)
 obtain ⟨K,h⟩|⟨K,h⟩:=oc' h
 ·refine wH J 1 K (wa J 16 (eEnd ?_))
  cases h
  exact eRet J func60 []
 refine wH J 1 K ?_
 obtain ⟨x2,d,h⟩:=ob h
 refine wa J 1 (eCl (z121_ct N m_ _ d) [] [(0,.sl 0),(1,.sl 1),(2,.sl 2)] ?_)
 obtain ⟨K,h⟩|⟨K,h⟩:=oc' h
 ·refine wH J 2 K (wa J 12 (eEnd ?_))
  cases h
  exact eRet J func60 []
 refine wH J 2 K ?_
 obtain ⟨x3,e,h⟩:=ob h
 refine wa J 1 (eCl (z122_ct N m_ _ e) [] [(0,.sl 0),(1,.sl 1),(2,.sl 2)] ?_)
 obtain ⟨K,h⟩|⟨K,h⟩:=oc' h
 ·refine wH J 2 K (wa J 8 (eEnd ?_))
  cases h
  exact eRet J func60 []
 refine wH J 2 K ?_
 obtain ⟨x4,f,h⟩:=ob h
 refine wa J 1 (eCl (z123_ct N m_ _ f) [] [(0,.sl 0),(1,.sl 1),(2,.sl 2)] (wa J 6 (eEnd ?_)))
 cases h
 exact eRet J func60 []
theorem z57_ct (N:Nat) (g_:T5) (m_:T8) (r:Bool) (h:z57 N g_ m_=some r) :
 Fn Tryz.prog 57 ⟨7,[.a (cC5 0 1 2 3 g_),.a (cC8 4 5 6 m_)],((0,.sl rS g_.Roles)::(1,.sl rR0 g_.Decls)::(2,.sl rR2 g_.Edges)::(3,.sl rR11 g_.Timeouts)::vV8 4 5 6 m_ []),[],7,.O r,[],[]⟩:=by
 refine eFn func57 rfl (fun E F w=>?_)
 unfold z57 at h
 obtain ⟨x1,c,h⟩:=ob h
 refine wa J 10 (eCl (z59_ct N g_ _ c) [] [(0,.sl 0),(1,.sl 1),(2,.sl 2),(3,.sl 3)] ?_)
 obtain ⟨K,h⟩|⟨K,h⟩:=oc h
 ·refine wH J 2 K ?_
  cases h
  exact wr J 18 func57 []
 refine wH J 2 K ?_
 obtain ⟨x2,d,h⟩:=ob h
 refine wa J 1 (eCl (z60_ct N m_ _ d) [] [(0,.sl 4),(1,.sl 5),(2,.sl 6)] ?_)
 obtain ⟨K,h⟩|⟨K,h⟩:=oc h
 ·refine wH J 3 K ?_
  cases h
  exact wr J 13 func57 []
 refine wH J 3 K ?_
 obtain ⟨K,h⟩|⟨K,h⟩:=oc h
 ·refine wH J 8 K ?_
  cases h
  exact wr J 5 func57 []
 refine wH J 8 K (wa J 7 (eCut (σ:=Unit) (fun st=>⟨[],[],((0,.sl rS g_.Roles)::(1,.sl rR0 g_.Decls)::(2,.sl rR2 g_.Edges)::(3,.sl rR11 g_.Timeouts)::vV8 4 5 6 m_ []),9⟩) (fun st=>z57_k1=some r) ?_ (fun j1=>?_)))
 ·intro _ h
  replace h:z57_k1=some r:=h
  unfold z57_k1 at h
  cases h
  exact wr J 4 func57 []
 refine wa J 1 (eLoop (σ:=Int) (fun st=>⟨[(2,.B 7 0),(3,.B 8 0),(5,.I st)],[(7,.box (cC5 0 1 2 3 g_) 27),(8,.box (cC8 4 5 6 m_) 31)],((0,.sl rS g_.Roles)::(1,.sl rR0 g_.Decls)::(2,.sl rR2 g_.Edges)::(3,.sl rR11 g_.Timeouts)::vV8 4 5 6 m_ []),9⟩) (fun n st=>z57_l2 g_ m_ n st) (r:=r) (fun _=>rfl) ?_ (fun ih=>?_))
 ·intro n2 ih3
  intro e h
  replace h:z57_l2 g_ m_ (n2+1) e=some r:=h
  unfold z57_l2 at h
  obtain ⟨K,h⟩|⟨K,h⟩:=oc' h
  ·exact wH J 9 K (wa J 2 (eSub [] (j1 () h)))
  refine wH J 9 K ?_
  obtain ⟨f,g,h⟩:=ob h
  refine wa J 9 (eIx J oO9 g ?_)
  obtain ⟨K,h⟩|⟨K,h⟩:=oc h
  ·refine wH J 7 K (wa J 11 (eEnd ?_))
   cases h
   exact wr J 5 func57 []
  refine wH J 7 K ?_
  obtain ⟨i,j,h⟩:=ob h
  refine wa J 3 (eIx J oO9 j (wa J 7 (eEnd ?_)))
  obtain ⟨K,h⟩|⟨K,h⟩:=oc h
  ·refine eK K ?_
   cases h
   exact wr J 5 func57 []
  exact eK K (wa J 8 (eSub [] (ih3 (w64 (e+1)) h)))
 exact eSub [] (ih N 0 h)
theorem z75_ct (N:Nat) (decls_:(List T0)) (r:(List T12)) (h:z75 N decls_=some r) :
 Fn Tryz.prog 75 ⟨1,[.S 0],[(0,.sl rR0 decls_)],[],2,.S 1,[],[(1,.own rR12 r true)]⟩:=by
 refine eFn func75 rfl (fun E F w=>?_)
 unfold z75 at h
 obtain ⟨x1,c,h⟩:=ob h
 refine wa J 7 (eCl (z104_ct N decls_ _ c) [] [(0,.sl 0)] ?_)
 obtain ⟨x2,d,h⟩:=ob h
 refine eMk J oO12 d ?_
 cases h
 exact wr J 2 func75 [(1,.sl 1)]
theorem z31_ct (N:Nat) (g_:T5) (m_:T8) (r:T16) (h:z31 N g_ m_=some r) :
 Fn Tryz.prog 31 ⟨7,[.a (cC5 0 1 2 3 g_),.a (cC8 4 5 6 m_)],((0,.sl rS g_.Roles)::(1,.sl rR0 g_.Decls)::(2,.sl rR2 g_.Edges)::(3,.sl rR11 g_.Timeouts)::vV8 4 5 6 m_ []),[],9,.a (cC16 7 8 r),(vV16 7 8 r []),[]⟩:=by
 refine eFn func31 rfl (fun E F w=>?_)
 unfold z31 at h
 obtain ⟨x1,c,h⟩:=ob h
 refine wa J 11 (eCl (z57_ct N g_ m_ _ c) [] [(0,.sl 0),(1,.sl 1),(2,.sl 2),(3,.sl 3),(4,.sl 4),(5,.sl 5),(6,.sl 6)] ?_)
 obtain ⟨K,h⟩|⟨K,h⟩:=oc h
 ·refine wH J 2 K ?_
  cases h
  exact wr J 6 func31 [(7,.nil),(8,.nil)]
 refine wH J 2 K ?_
 obtain ⟨x2,d,h⟩:=ob h
 refine wa J 8 (eCl (z75_ct N g_.Decls _ d) [] [(0,.sl 1)] (wa J 2 (eEnd (eFr [10] ?_))))
 cases h
 exact eRet J func31 [(7,.sl 10),(8,.nil)]
theorem z175_ct (N:Nat) (v_:T12) (r:Int) (h:z175 N v_=some r) :
 Fn Tryz.prog 175 ⟨0,[.a (cC12 v_)],[],[],0,.I r,[],[]⟩:=by
 refine eFn func175 rfl (fun E F w=>?_)
 unfold z175 at h
 obtain ⟨K,h⟩|⟨K,h⟩:=oc h
 ·refine wH J 12 K ?_
  cases h
  exact wr J 8 func175 []
 refine wH J 12 K ?_
 cases h
 exact wr J 8 func175 []
theorem z105_ct (N:Nat) (s_:T10) (v_:T12) (r:Bool) (h:z105 N s_ v_=some r) :
 Fn Tryz.prog 105 ⟨0,[.a (cC10 s_),.a (cC12 v_)],[],[],0,.O r,[],[]⟩:=by
 refine eFn func105 rfl (fun E F w=>?_)
 unfold z105 at h
 refine wa J 11 (eCut (σ:=Unit) (fun st=>(zz22 s_ v_ [(2,.B 0 0),(3,.B 1 0)])) (fun st=>z105_k2 N s_ v_=some r) ?_ (fun j1=>?_))
 ·intro _ h
  replace h:z105_k2 N s_ v_=some r:=h
  unfold z105_k2 at h
  refine wa J 7 (eCut (σ:=Bool) (fun st=>(zz22 s_ v_ [(2,.B 0 0),(3,.B 1 0),(42,.O st)])) (fun st=>z105_k1 N s_ v_ st=some r) ?_ (fun j3=>?_))
  ·intro c h
   replace h:z105_k1 N s_ v_ c=some r:=h
   unfold z105_k1 at h
   obtain ⟨K,h⟩|⟨K,h⟩:=oc h
   ·refine eK K ?_
    cases h
    exact wr J 5 func105 []
   refine eK K ?_
   obtain ⟨K,h⟩|⟨K,h⟩:=oc' h
   ·refine wH J 10 K (wa J 14 (eEnd ?_))
    cases h
    exact eRet J func105 []
   refine wH J 10 K ?_
   obtain ⟨x9,d,h⟩:=ob h
   refine wa J 1 (eCl (z175_ct N v_ _ d) [] [] ?_)
   obtain ⟨K,h⟩|⟨K,h⟩:=oc' h
   ·refine wH J 5 K (wa J 7 (eEnd ?_))
    cases h
    exact eRet J func105 []
   refine wH J 5 K ?_
   obtain ⟨e,f,h⟩:=ob h
   refine wa J 1 (eCl (z175_ct N v_ _ f) [] [] (wa J 5 (eEnd ?_)))
   cases h
   exact eRet J func105 []
  obtain ⟨K,h⟩|⟨K,h⟩:=oc' h
  ·refine eK K ?_
   obtain ⟨K,h⟩|⟨K,h⟩:=oc h
   ·exact wH J 9 K (wa J 6 (eSub [] (j3 (!(v_.S.toList==(str []).toList)) h)))
   exact wH J 9 K (wa J 6 (eSub [] (j3 false h)))
  refine eK K ?_
  obtain ⟨K,h⟩|⟨K,h⟩:=oc h
  ·exact wH J 5 K (wa J 10 (eSub [] (j3 true h)))
  refine wH J 5 K ?_
  obtain ⟨K,h⟩|⟨K,h⟩:=oc h
  ·exact wH J 4 K (wa J 6 (eSub [] (j3 (!(v_.S.toList==(str []).toList)) h)))
  exact wH J 4 K (wa J 6 (eSub [] (j3 false h)))
 refine wa J 1 (eLoop (σ:=Int) (fun st=>(zz22 s_ v_ [(2,.B 0 0),(3,.B 1 0),(5,.I st)])) (fun n st=>z105_l3 N s_ v_ n st) (r:=r) (fun _=>rfl) ?_ (fun ih=>?_))
 ·intro n2 ih4
  intro g h
  replace h:z105_l3 N s_ v_ (n2+1) g=some r:=h
  unfold z105_l3 at h
  obtain ⟨K,h⟩|⟨K,h⟩:=oc' h
  ·exact wH J 9 K (wa J 2 (eSub [] (j1 () h)))
  refine wH J 9 K ?_
  obtain ⟨i,j,h⟩:=ob h
  refine wa J 9 (eSx J j ?_)
  obtain ⟨K,h⟩|⟨K,h⟩:=oc h
  ·refine wH J 2 K ?_
   cases h
   exact wr J 12 func105 []
  refine wH J 2 K ?_
  obtain ⟨k,l,h⟩:=ob h
  refine wa J 3 (eSx J l ?_)
  obtain ⟨K,h⟩|⟨K,h⟩:=oc h
  ·refine wH J 3 K ?_
   cases h
   exact wr J 5 func105 []
  exact wH J 3 K (wa J 8 (eSub [] (ih4 (w64 (g+1)) h)))
 exact eSub [] (ih N 0 h)
theorem z48_ct (N:Nat) (decls_:(List T0)) (known_:(List T12)) (r:Bool) (h:z48 N decls_ known_=some r) :
 Fn Tryz.prog 48 ⟨2,[.S 0,.S 1],[(0,.sl rR0 decls_),(1,.sl rR12 known_)],[],2,.O r,[],[]⟩:=by
 refine eFn func48 rfl (fun E F w=>?_)
 unfold z48 at h
 obtain ⟨x1,c,h⟩:=ob h
 refine wa J 10 (eCl (z104_ct N decls_ _ c) [] [(0,.sl 0)] ?_)
 obtain ⟨K,h⟩|⟨K,h⟩:=oc h
 ·refine wH J 2 K ?_
  cases h
  exact wr J 5 func48 []
 refine wH J 2 K (wa J 7 (eCut (σ:=Unit) (fun st=>⟨[],[],[(0,.sl rR0 decls_),(1,.sl rR12 known_)],2⟩) (fun st=>z48_k1=some r) ?_ (fun j1=>?_)))
 ·intro _ h
  replace h:z48_k1=some r:=h
  unfold z48_k1 at h
  cases h
  exact wr J 4 func48 []
 refine wa J 1 (eLoop (σ:=Int) (fun st=>⟨[(0,.S 0),(1,.S 1),(5,.I st)],[],[(0,.sl rR0 decls_),(1,.sl rR12 known_)],2⟩) (fun n st=>z48_l2 N decls_ known_ n st) (r:=r) (fun _=>rfl) ?_ (fun ih=>?_))
 ·intro n2 ih3
  intro d h
  replace h:z48_l2 N decls_ known_ (n2+1) d=some r:=h
  unfold z48_l2 at h
  obtain ⟨K,h⟩|⟨K,h⟩:=oc' h
  ·exact wH J 8 K (wa J 2 (eSub [] (j1 () h)))
  refine wH J 8 K ?_
  obtain ⟨e,f,h⟩:=ob h
  refine wa J 8 (eIx J oO12 f (wa J 2 (eEq ?_)))
  obtain ⟨K,h⟩|⟨K,h⟩:=oc' h
  ·exact wH J 1 K (wa J 11 (eEnd (wa J 8 (eSub [] (ih3 (w64 (d+1)) h)))))
  refine wH J 1 K ?_
  obtain ⟨g,i,h⟩:=ob h
  refine wa J 2 (eCl (z106_ct N decls_ d _ i) [] [(0,.sl 0)] ?_)
  obtain ⟨j,k,h⟩:=ob h
  refine wa J 3 (eIx J oO12 k ?_)
  obtain ⟨l,m,h⟩:=ob h
  refine wa J 1 (eCl (z105_ct N g.Sort' j _ m) [] [] (wa J 2 (eEnd ?_)))
  obtain ⟨K,h⟩|⟨K,h⟩:=oc h
  ·refine eK K ?_
   cases h
   exact wr J 5 func48 []
  exact eK K (wa J 8 (eSub [] (ih3 (w64 (d+1)) h)))
 exact eSub [] (ih N 0 h)
theorem z28_ct (N:Nat) (g_:T5) (m_:T8) (s_:T16) (r:Bool) (h:z28 N g_ m_ s_=some r) :
 Fn Tryz.prog 28 ⟨9,[.a (cC5 0 1 2 3 g_),.a (cC8 4 5 6 m_),.a (cC16 7 8 s_)],((0,.sl rS g_.Roles)::(1,.sl rR0 g_.Decls)::(2,.sl rR2 g_.Edges)::(3,.sl rR11 g_.Timeouts)::(4,.sl rB m_.Finals)::(5,.sl rR9 m_.Moves)::(6,.sl rR11 m_.Timeouts)::vV16 7 8 s_ []),[],9,.O r,[],[]⟩:=by
 refine eFn func28 rfl (fun E F w=>?_)
 unfold z28 at h
 obtain ⟨x1,c,h⟩:=ob h
 refine wa J 11 (eCl (z57_ct N g_ m_ _ c) [] [(0,.sl 0),(1,.sl 1),(2,.sl 2),(3,.sl 3),(4,.sl 4),(5,.sl 5),(6,.sl 6)] ?_)
 obtain ⟨K,h⟩|⟨K,h⟩:=oc' h
 ·refine wH J 1 K ?_
  cases h
  exact wr J 20 func28 []
 refine wH J 1 K ?_
 obtain ⟨K,h⟩|⟨K,h⟩:=oc' h
 ·refine wH J 5 K ?_
  cases h
  exact wr J 15 func28 []
 refine wH J 5 K ?_
 obtain ⟨K,h⟩|⟨K,h⟩:=oc' h
 ·refine wH J 7 K ?_
  cases h
  exact wr J 8 func28 []
 refine wH J 7 K ?_
 obtain ⟨x2,d,h⟩:=ob h
 refine wa J 4 (eCl (z48_ct N g_.Decls s_.Known _ d) [] [(0,.sl 1),(1,.sl 7)] ?_)
 cases h
 exact wr J 3 func28 []
theorem z34_ct (N:Nat) (m_:T8) (at_:Int) (x_:T3) (r:Int) (h:z34 N m_ at_ x_=some r) :
 Fn Tryz.prog 34 ⟨4,[.a (cC8 0 1 2 m_),.I at_,.a (cC3 3 x_)],(vV8 0 1 2 m_ [(3,.sl rR12 x_.Values)]),[],4,.I r,[],[]⟩:=by
 refine eFn func34 rfl (fun E F w=>?_)
 unfold z34 at h
 refine wa J 11 (eCut (σ:=Unit) (fun st=>⟨[],[],(vV8 0 1 2 m_ [(3,.sl rR12 x_.Values)]),6⟩) (fun st=>z34_k1=some r) ?_ (fun j1=>?_))
 ·intro _ h
  replace h:z34_k1=some r:=h
  unfold z34_k1 at h
  cases h
  exact wr J 4 func34 []
 refine wa J 1 (eLoop (σ:=Int) (fun st=>⟨[(1,.I at_),(3,.B 4 0),(5,.B 5 0),(7,.I st)],[(4,.box (cC8 0 1 2 m_) 31),(5,.box (cC3 3 x_) 67)],(vV8 0 1 2 m_ [(3,.sl rR12 x_.Values)]),6⟩) (fun n st=>z34_l2 m_ at_ x_ n st) (r:=r) (fun _=>rfl) ?_ (fun ih=>?_))
 ·intro n2 ih3
  intro c h
  replace h:z34_l2 m_ at_ x_ (n2+1) c=some r:=h
  unfold z34_l2 at h
  obtain ⟨K,h⟩|⟨K,h⟩:=oc' h
  ·exact wH J 9 K (wa J 2 (eSub [] (j1 () h)))
  refine wH J 9 K ?_
  obtain ⟨x9,d,h⟩:=ob h
  refine wa J 9 (eIx J oO9 d ?_)
  obtain ⟨K,h⟩|⟨K,h⟩:=oc' h
  ·exact wH J 11 K (wa J 29 (eSub [] (ih3 (w64 (c+1)) h)))
  refine wH J 11 K ?_
  obtain ⟨K,h⟩|⟨K,h⟩:=oc' h
  ·exact wH J 7 K (wa J 22 (eSub [] (ih3 (w64 (c+1)) h)))
  refine wH J 7 K ?_
  obtain ⟨K,h⟩|⟨K,h⟩:=oc' h
  ·exact wH J 7 K (wa J 15 (eSub [] (ih3 (w64 (c+1)) h)))
  refine wH J 7 K ?_
  obtain ⟨K,h⟩|⟨K,h⟩:=oc h
  ·refine wH J 7 K ?_
   cases h
   exact wr J 6 func34 []
  exact wH J 7 K (wa J 8 (eSub [] (ih3 (w64 (c+1)) h)))
 exact eSub [] (ih N 0 h)
theorem z107_ct (N:Nat) (s_:T10) (r:Bool) (h:z107 N s_=some r) :
 Fn Tryz.prog 107 ⟨0,[.a (cC10 s_)],[],[],0,.O r,[],[]⟩:=by
 refine eFn func107 rfl (fun E F w=>?_)
 unfold z107 at h
 obtain ⟨K,h⟩|⟨K,h⟩:=oc h
 ·refine wH J 17 K ?_
  obtain ⟨K,h⟩|⟨K,h⟩:=oc' h
  ·refine wH J 7 K ?_
   cases h
   exact wr J 13 func107 []
  refine wH J 7 K ?_
  obtain ⟨K,h⟩|⟨K,h⟩:=oc h
  ·refine wH J 7 K ?_
   cases h
   exact wr J 6 func107 []
  refine wH J 7 K ?_
  cases h
  exact wr J 6 func107 []
 refine wH J 17 K ?_
 obtain ⟨K,h⟩|⟨K,h⟩:=oc' h
 ·refine wH J 6 K ?_
  cases h
  exact wr J 7 func107 []
 refine wH J 6 K ?_
 obtain ⟨K,h⟩|⟨K,h⟩:=oc' h
 ·refine wH J 7 K ?_
  cases h
  exact wr J 13 func107 []
 refine wH J 7 K ?_
 obtain ⟨K,h⟩|⟨K,h⟩:=oc h
 ·refine wH J 7 K ?_
  cases h
  exact wr J 6 func107 []
 refine wH J 7 K ?_
 cases h
 exact wr J 6 func107 []
theorem z176_ct (N:Nat) (s_:ByteArray) (r:Bool) (h:z176 N s_=some r) :
 Fn Tryz.prog 176 ⟨0,[.c (.s s_)],[],[],0,.O r,[],[]⟩:=by
 refine eFn func176 rfl (fun E F w=>?_)
 unfold z176 at h
 refine wa J 9 (eCut (σ:=Unit) (fun st=>(zz0 [])) (fun st=>z176_k1=some r) ?_ (fun j1=>?_))
 ·intro _ h
  replace h:z176_k1=some r:=h
  unfold z176_k1 at h
  cases h
  exact wr J 4 func176 []
 refine wa J 1 (eLoop (σ:=Int) (fun st=>(zz0 [(0,.c (.s s_)),(3,.I st)])) (fun n st=>z176_l2 s_ n st) (r:=r) (fun _=>rfl) ?_ (fun ih=>?_))
 ·intro n2 ih3
  intro d h
  replace h:z176_l2 s_ (n2+1) d=some r:=h
  unfold z176_l2 at h
  obtain ⟨K,h⟩|⟨K,h⟩:=oc' h
  ·exact wH J 8 K (wa J 2 (eSub [] (j1 () h)))
  refine wH J 8 K ?_
  obtain ⟨e,f,h⟩:=ob h
  refine wa J 8 (eSx J f ?_)
  obtain ⟨K,h⟩|⟨K,h⟩:=oc h
  ·refine wH J 2 K ?_
   cases h
   exact wr J 11 func176 []
  refine wH J 2 K ?_
  obtain ⟨g,i,h⟩:=ob h
  refine wa J 2 (eSx J i ?_)
  obtain ⟨K,h⟩|⟨K,h⟩:=oc h
  ·refine wH J 3 K ?_
   cases h
   exact wr J 5 func176 []
  exact wH J 3 K (wa J 8 (eSub [] (ih3 (w64 (d+1)) h)))
 exact eSub [] (ih N 0 h)
theorem z108_ct (N:Nat) (v_:T12) (r:Bool) (h:z108 N v_=some r) :
 Fn Tryz.prog 108 ⟨0,[.a (cC12 v_)],[],[],0,.O r,[],[]⟩:=by
 refine eFn func108 rfl (fun E F w=>?_)
 unfold z108 at h
 obtain ⟨K,h⟩|⟨K,h⟩:=oc h
 ·refine wH J 17 K ?_
  obtain ⟨K,h⟩|⟨K,h⟩:=oc' h
  ·refine wH J 7 K ?_
   cases h
   exact wr J 11 func108 []
  refine wH J 7 K ?_
  obtain ⟨K,h⟩|⟨K,h⟩:=oc h
  ·refine wH J 5 K ?_
   cases h
   exact wr J 6 func108 []
  refine wH J 5 K ?_
  cases h
  exact wr J 6 func108 []
 refine wH J 17 K ?_
 obtain ⟨K,h⟩|⟨K,h⟩:=oc' h
 ·refine wH J 6 K ?_
  cases h
  exact wr J 7 func108 []
 refine wH J 6 K ?_
 obtain ⟨K,h⟩|⟨K,h⟩:=oc' h
 ·refine wH J 7 K ?_
  cases h
  exact wr J 12 func108 []
 refine wH J 7 K ?_
 obtain ⟨K,h⟩|⟨K,h⟩:=oc' h
 ·refine wH J 6 K ?_
  cases h
  exact wr J 6 func108 []
 refine wH J 6 K ?_
 obtain ⟨x1,c,h⟩:=ob h
 refine wa J 2 (eCl (z176_ct N v_.S _ c) [] [] ?_)
 cases h
 exact wr J 3 func108 []
theorem z109_ct (N:Nat) (v_:T12) (r:Int) (h:z109 N v_=some r) :
 Fn Tryz.prog 109 ⟨0,[.a (cC12 v_)],[],[],0,.I r,[],[]⟩:=by
 refine eFn func109 rfl (fun E F w=>?_)
 unfold z109 at h
 obtain ⟨K,h⟩|⟨K,h⟩:=oc h
 ·refine wH J 17 K ?_
  cases h
  exact wr J 7 func109 []
 refine wH J 17 K ?_
 obtain ⟨K,h⟩|⟨K,h⟩:=oc h
 ·refine wH J 6 K ?_
  cases h
  exact wr J 8 func109 []
 refine wH J 6 K ?_
 cases h
 exact wr J 7 func109 []
theorem z49_ct (N:Nat) (s_:T10) (v_:T12) (r:Bool) (h:z49 N s_ v_=some r) :
 Fn Tryz.prog 49 ⟨0,[.a (cC10 s_),.a (cC12 v_)],[],[],0,.O r,[],[]⟩:=by
 refine eFn func49 rfl (fun E F w=>?_)
 unfold z49 at h
 obtain ⟨x1,c,h⟩:=ob h
 refine wa J 9 (eCl (z107_ct N s_ _ c) [] [] ?_)
 obtain ⟨K,h⟩|⟨K,h⟩:=oc' h
 ·refine wH J 1 K (wa J 25 (eEnd ?_))
  cases h
  exact eRet J func49 []
 refine wH J 1 K ?_
 obtain ⟨x2,d,h⟩:=ob h
 refine wa J 1 (eCl (z108_ct N v_ _ d) [] [] ?_)
 obtain ⟨K,h⟩|⟨K,h⟩:=oc' h
 ·refine wH J 2 K (wa J 21 (eEnd ?_))
  cases h
  exact eRet J func49 []
 refine wH J 2 K ?_
 obtain ⟨K,h⟩|⟨K,h⟩:=oc' h
 ·refine wH J 7 K (wa J 14 (eEnd ?_))
  cases h
  exact eRet J func49 []
 refine wH J 7 K ?_
 obtain ⟨x3,e,h⟩:=ob h
 refine wa J 1 (eCl (z109_ct N v_ _ e) [] [] ?_)
 obtain ⟨K,h⟩|⟨K,h⟩:=oc' h
 ·refine wH J 5 K (wa J 7 (eEnd ?_))
  cases h
  exact eRet J func49 []
 refine wH J 5 K ?_
 obtain ⟨x4,f,h⟩:=ob h
 refine wa J 1 (eCl (z109_ct N v_ _ f) [] [] (wa J 5 (eEnd ?_)))
 cases h
 exact eRet J func49 []
theorem z132_ct (N:Nat) (l_:(List T4)) (v_:(List T12)) (r:Bool) (h:z132 N l_ v_=some r) :
 Fn Tryz.prog 132 ⟨2,[.S 0,.S 1],[(0,.sl rR4 l_),(1,.sl rR12 v_)],[],2,.O r,[],[]⟩:=by
 refine eFn func132 rfl (fun E F w=>?_)
 unfold z132 at h
 obtain ⟨K,h⟩|⟨K,h⟩:=oc h
 ·refine wH J 13 K ?_
  cases h
  exact wr J 5 func132 []
 refine wH J 13 K (wa J 7 (eCut (σ:=Unit) (fun st=>(zz3 l_ v_ [])) (fun st=>z132_k1=some r) ?_ (fun j1=>?_)))
 ·intro _ h
  replace h:z132_k1=some r:=h
  unfold z132_k1 at h
  cases h
  exact wr J 4 func132 []
 refine wa J 1 (eLoop (σ:=Int) (fun st=>(zz3 l_ v_ [(0,.S 0),(1,.S 1),(5,.I st)])) (fun n st=>z132_l2 N l_ v_ n st) (r:=r) (fun _=>rfl) ?_ (fun ih=>?_))
 ·intro n2 ih3
  intro c h
  replace h:z132_l2 N l_ v_ (n2+1) c=some r:=h
  unfold z132_l2 at h
  obtain ⟨K,h⟩|⟨K,h⟩:=oc' h
  ·exact wH J 8 K (wa J 2 (eSub [] (j1 () h)))
  refine wH J 8 K ?_
  obtain ⟨d,e,h⟩:=ob h
  refine wa J 8 (eIx J oO4 e ?_)
  obtain ⟨f,g,h⟩:=ob h
  refine wa J 4 (eIx J oO12 g ?_)
  obtain ⟨i,j,h⟩:=ob h
  refine wa J 1 (eCl (z49_ct N d.Sort' f _ j) [] [] (wa J 1 (eEnd ?_)))
  obtain ⟨K,h⟩|⟨K,h⟩:=oc h
  ·refine eK K ?_
   cases h
   exact wr J 5 func132 []
  exact eK K (wa J 8 (eSub [] (ih3 (w64 (c+1)) h)))
 exact eSub [] (ih N 0 h)
theorem z67_ct (N:Nat) (d_:T0) (l_:(List T12)) (r:Bool) (h:z67 N d_ l_=some r) :
 Fn Tryz.prog 67 ⟨4,[.a (cC0 0 1 2 d_),.S 3],(vV0 0 1 2 d_ [(3,.sl rR12 l_)]),[],4,.O r,[],[]⟩:=by
 refine eFn func67 rfl (fun E F w=>?_)
 unfold z67 at h
 obtain ⟨x1,c,h⟩:=ob h
 refine wa J 10 (eCl (z132_ct N d_.Fields l_ _ c) [] [(0,.sl 0),(1,.sl 3)] ?_)
 cases h
 exact wr J 2 func67 []
theorem z133_ct (N:Nat) (decls_:(List T0)) (label_:Int) (r:Bool) (h:z133 N decls_ label_=some r) :
 Fn Tryz.prog 133 ⟨1,[.S 0,.I label_],[(0,.sl rR0 decls_)],[],1,.O r,[],[]⟩:=by
 refine eFn func133 rfl (fun E F w=>?_)
 unfold z133 at h
 obtain ⟨x1,c,h⟩:=ob h
 refine wa J 7 (eCl (z101_ct N decls_ _ c) [] [(0,.sl 0)] ?_)
 obtain ⟨K,h⟩|⟨K,h⟩:=oc' h
 ·refine wH J 1 K ?_
  cases h
  exact wr J 11 func133 []
 refine wH J 1 K ?_
 obtain ⟨K,h⟩|⟨K,h⟩:=oc h
 ·refine wH J 4 K ?_
  cases h
  exact wr J 7 func133 []
 refine wH J 4 K ?_
 cases h
 exact wr J 7 func133 []
theorem z134_ct (N:Nat) (d_:T0) (values_:(List T12)) (r:Bool) (h:z134 N d_ values_=some r) :
 Fn Tryz.prog 134 ⟨4,[.a (cC0 0 1 2 d_),.S 3],(vV0 0 1 2 d_ [(3,.sl rR12 values_)]),[],4,.O r,[],[]⟩:=by
 refine eFn func134 rfl (fun E F w=>?_)
 unfold z134 at h
 refine wa J 10 (eCut (σ:=Unit) (fun st=>(zz23 d_ values_ [(1,.S 3),(2,.B 4 0)])) (fun st=>z134_k1 d_ values_=some r) ?_ (fun j1=>?_))
 ·intro _ h
  replace h:z134_k1 d_ values_=some r:=h
  unfold z134_k1 at h
  cases h
  exact wr J 10 func134 []
 refine wa J 1 (eLoop (σ:=Int) (fun st=>(zz23 d_ values_ [(1,.S 3),(2,.B 4 0),(5,.I st)])) (fun n st=>z134_l2 N d_ values_ n st) (r:=r) (fun _=>rfl) ?_ (fun ih=>?_))
 ·intro n2 ih3
  intro c h
  replace h:z134_l2 N d_ values_ (n2+1) c=some r:=h
  unfold z134_l2 at h
  obtain ⟨K,h⟩|⟨K,h⟩:=oc' h
  ·exact wH J 8 K (wa J 9 (eSub [] (j1 () h)))
  refine wH J 8 K ?_
  obtain ⟨K,h⟩|⟨K,h⟩:=oc' h
  ·exact wH J 7 K (wa J 2 (eSub [] (j1 () h)))
  refine wH J 7 K ?_
  obtain ⟨d,e,h⟩:=ob h
  refine wa J 9 (eIx J oO4 e ?_)
  obtain ⟨f,g,h⟩:=ob h
  refine wa J 4 (eIx J oO12 g ?_)
  obtain ⟨i,j,h⟩:=ob h
  refine wa J 1 (eCl (z105_ct N d.Sort' f _ j) [] [] (wa J 1 (eEnd ?_)))
  obtain ⟨K,h⟩|⟨K,h⟩:=oc h
  ·refine eK K ?_
   cases h
   exact wr J 5 func134 []
  exact eK K (wa J 8 (eSub [] (ih3 (w64 (c+1)) h)))
 exact eSub [] (ih N 0 h)
theorem z136_ct (N:Nat) (d_:T0) (values_:(List T12)) (known_:(List T12)) (r:(List T12)) (h:z136 N d_ values_ known_=some r) :
 Fn Tryz.prog 136 ⟨5,[.a (cC0 0 1 2 d_),.S 3,.S 4],(vV0 0 1 2 d_ [(3,.sl rR12 values_),(4,.sl rR12 known_)]),[],6,.S 5,[],[(5,.own rR12 r true)]⟩:=by
 refine eFn func136 rfl (fun E F w=>?_)
 unfold z136 at h
 refine wa J 7 (eBs J [] oO12 ([]:List T12) ?_)
 obtain ⟨x1,c,h⟩:=ob h
 refine wa J 1 (eAp J rR12 c (wa J 7 (eCut (σ:=(List T12)) (fun st=>⟨[(7,.S 7)],[(7,.own rR12 st true)],(vV0 0 1 2 d_ [(3,.sl rR12 values_),(4,.sl rR12 known_)]),8⟩) (fun st=>z136_k1 st=some r) ?_ (fun j1=>?_))))
 ·intro d h
  replace h:z136_k1 d=some r:=h
  unfold z136_k1 at h
  cases h
  exact wr J 5 func136 [(5,.sl 7)]
 refine wa J 1 (eLoop (σ:=(List T12) × Int) (fun st=>⟨[(1,.S 3),(3,.B 5 0),(7,.S 7),(8,.I st.2)],[(5,.box (cC0 0 1 2 d_) 87),(7,.own rR12 st.1 true)],(vV0 0 1 2 d_ [(3,.sl rR12 values_),(4,.sl rR12 known_)]),8⟩) (fun n st=>z136_l2 d_ values_ n st.1 st.2) (r:=r) (fun _=>rfl) ?_ (fun ih=>?_))
 ·intro n2 ih3
  rintro ⟨e,f⟩ h
  replace h:z136_l2 d_ values_ (n2+1) e f=some r:=h
  unfold z136_l2 at h
  obtain ⟨K,h⟩|⟨K,h⟩:=oc' h
  ·exact wH J 8 K (wa J 2 (eSub [] (j1 e h)))
  refine wH J 8 K ?_
  obtain ⟨g,i,h⟩:=ob h
  refine wa J 12 (eIx J oO12 i ?_)
  obtain ⟨j,k,h⟩:=ob h
  exact wa J 1 (eIo J rR12 k (eSt J [] oO12 g k (eEnd (wa J 6 (eSub [] (ih3 ((setL' e (w64 (d_.First+f)) g),(w64 (f+1))) h))))))
 exact eSub [] (ih N (x1,0) h)
theorem z135_ct (N:Nat) (g_:T6) (all_:(List T12)) (r:Bool) (h:z135 N g_ all_=some r) :
 Fn Tryz.prog 135 ⟨3,[.a [.sl 0,.sl 1],.S 2],[(0,.sl rR1 g_.Diffs),(1,.sl (rP (rI .i64) (rI .i64)) g_.Equals),(2,.sl rR12 all_)],[],3,.O r,[],[]⟩:=by
 refine eFn func135 rfl (fun E F w=>?_)
 unfold z135 at h
 refine wa J 10 (eCut (σ:=Unit) (fun st=>(zz4 g_.Diffs g_.Equals all_ [(1,.S 2),(2,.B 3 0)])) (fun st=>z135_k3 N g_ all_=some r) ?_ (fun j1=>?_))
 ·intro _ h
  replace h:z135_k3 N g_ all_=some r:=h
  unfold z135_k3 at h
  refine wa J 5 (eCut (σ:=Unit) (fun st=>(zz16 g_.Diffs g_.Equals all_ [])) (fun st=>z135_k1=some r) ?_ (fun j9=>?_))
  ·intro _ h
   replace h:z135_k1=some r:=h
   unfold z135_k1 at h
   cases h
   exact wr J 4 func135 []
  refine wa J 1 (eLoop (σ:=Int) (fun st=>(zz4 g_.Diffs g_.Equals all_ [(1,.S 2),(2,.B 3 0),(9,.I st)])) (fun n st=>z135_l2 g_ all_ n st) (r:=r) (fun _=>rfl) ?_ (fun ih=>?_))
  ·intro n3 ih11
   intro c h
   replace h:z135_l2 g_ all_ (n3+1) c=some r:=h
   unfold z135_l2 at h
   obtain ⟨K,h⟩|⟨K,h⟩:=oc' h
   ·exact wH J 9 K (wa J 2 (eSub [] (j9 () h)))
   refine wH J 9 K ?_
   obtain ⟨d,e,h⟩:=ob h
   refine wa J 10 (eIx J (oP (oI .i64) (oI .i64)) e (eAq 0 rfl ?_))
   obtain ⟨f,g,h⟩:=ob h
   refine wa J 1 (eIx J oO12 g ?_)
   obtain ⟨i,j,h⟩:=ob h
   refine wa J 5 (eIx J (oP (oI .i64) (oI .i64)) j (eAq 1 rfl ?_))
   obtain ⟨k,l,h⟩:=ob h
   refine wa J 1 (eIx J oO12 l (wa J 5 (eEnd ?_)))
   obtain ⟨K,h⟩|⟨K,h⟩:=oc h
   ·refine wH J 6 K ?_
    cases h
    exact wr J 17 func135 []
   refine wH J 6 K ?_
   obtain ⟨K,h⟩|⟨K,h⟩:=oc h
   ·refine wH J 5 K ?_
    cases h
    exact wr J 12 func135 []
   refine wH J 5 K ?_
   obtain ⟨K,h⟩|⟨K,h⟩:=oc h
   ·refine wH J 7 K ?_
    cases h
    exact wr J 5 func135 []
   exact wH J 7 K (wa J 8 (eSub [] (ih11 (w64 (c+1)) h)))
  exact eSub [] (ih N 0 h)
 refine wa J 1 (eLoop (σ:=Int) (fun st=>(zz4 g_.Diffs g_.Equals all_ [(1,.S 2),(2,.B 3 0),(5,.I st)])) (fun n st=>z135_l4 N g_ all_ n st) (r:=r) (fun _=>rfl) ?_ (fun ih=>?_))
 ·intro n4 ih12
  intro m h
  replace h:z135_l4 N g_ all_ (n4+1) m=some r:=h
  unfold z135_l4 at h
  obtain ⟨K,h⟩|⟨K,h⟩:=oc' h
  ·exact wH J 9 K (wa J 2 (eSub [] (j1 () h)))
  refine wH J 9 K ?_
  obtain ⟨o,p,h⟩:=ob h
  refine wa J 9 (eIx J oO1 p (wa J 16 (eCut (σ:=Int) (fun st=>(zz33 o g_.Diffs g_.Equals all_ [(1,.S 2),(2,.B 3 0),(5,.I m),(6,.B 5 0),(7,.I st),(8,.I 0)])) (fun st=>z135_k6 N all_ m (z135_l4 N g_ all_ n4) o st=some r) ?_ (fun j17=>?_))))
  ·intro q h
   replace h:z135_k6 N all_ m (z135_l4 N g_ all_ n4) o q=some r:=h
   unfold z135_k6 at h
   refine wa J 7 (eCut (σ:=Int) (fun st=>(zz33 o g_.Diffs g_.Equals all_ [(1,.S 2),(2,.B 3 0),(5,.I m),(6,.B 5 0),(7,.I q),(8,.I st)])) (fun st=>z135_k5 all_ m (z135_l4 N g_ all_ n4) o q st=some r) ?_ (fun j18=>?_))
   ·intro s h
    replace h:z135_k5 all_ m (z135_l4 N g_ all_ n4) o q s=some r:=h
    unfold z135_k5 at h
    obtain ⟨K,h⟩|⟨K,h⟩:=oc' h
    ·refine wH J 6 K ?_
     obtain ⟨K,h⟩|⟨K,h⟩:=oc' h
     ·refine wH J 13 K ?_
      obtain ⟨K,h⟩|⟨K,h⟩:=oc h
      ·refine wH J 18 K ?_
       cases h
       exact wr J 5 func135 []
      exact wH J 18 K (wa J 8 (eSub [] (ih12 (w64 (m+1)) h)))
     refine wH J 13 K ?_
     obtain ⟨t,u,h⟩:=ob h
     refine wa J 3 (eIx J oO12 u ?_)
     obtain ⟨K,h⟩|⟨K,h⟩:=oc h
     ·refine wH J 6 K ?_
      cases h
      exact wr J 13 func135 []
     refine wH J 6 K ?_
     obtain ⟨K,h⟩|⟨K,h⟩:=oc h
     ·refine wH J 8 K ?_
      cases h
      exact wr J 5 func135 []
     exact wH J 8 K (wa J 8 (eSub [] (ih12 (w64 (m+1)) h)))
    refine wH J 6 K ?_
    obtain ⟨v,x,h⟩:=ob h
    refine wa J 3 (eIx J oO12 x ?_)
    obtain ⟨K,h⟩|⟨K,h⟩:=oc h
    ·refine wH J 5 K ?_
     cases h
     exact wr J 27 func135 []
    refine wH J 5 K ?_
    obtain ⟨K,h⟩|⟨K,h⟩:=oc' h
    ·refine wH J 4 K ?_
     obtain ⟨K,h⟩|⟨K,h⟩:=oc h
     ·refine wH J 18 K ?_
      cases h
      exact wr J 5 func135 []
     exact wH J 18 K (wa J 8 (eSub [] (ih12 (w64 (m+1)) h)))
    refine wH J 4 K ?_
    obtain ⟨y,z,h⟩:=ob h
    refine wa J 3 (eIx J oO12 z ?_)
    obtain ⟨K,h⟩|⟨K,h⟩:=oc h
    ·refine wH J 6 K ?_
     cases h
     exact wr J 13 func135 []
    refine wH J 6 K ?_
    obtain ⟨K,h⟩|⟨K,h⟩:=oc h
    ·refine wH J 8 K ?_
     cases h
     exact wr J 5 func135 []
    exact wH J 8 K (wa J 8 (eSub [] (ih12 (w64 (m+1)) h)))
   obtain ⟨K,h⟩|⟨K,h⟩:=oc' h
   ·exact eK K (wa J 2 (eSub [] (j18 0 h)))
   refine eK K ?_
   obtain ⟨A,C,h⟩:=ob h
   refine wa J 5 (eIx J oO12 C ?_)
   obtain ⟨D,G,h⟩:=ob h
   exact wa J 1 (eCl (z175_ct N A _ G) [] [] (wa J 2 (eSub [] (j18 D h))))
  obtain ⟨K,h⟩|⟨K,h⟩:=oc' h
  ·exact eK K (wa J 2 (eSub [] (j17 0 h)))
  refine eK K ?_
  obtain ⟨H,R,h⟩:=ob h
  refine wa J 5 (eIx J oO12 R ?_)
  obtain ⟨T,U,h⟩:=ob h
  exact wa J 1 (eCl (z175_ct N H _ U) [] [] (wa J 2 (eSub [] (j17 T h))))
 exact eSub [] (ih N 0 h)
theorem z68_ct (N:Nat) (decls_:(List T0)) (label_:Int) (values_:(List T12)) (known_:(List T12)) (r:Bool) (h:z68 N decls_ label_ values_ known_=some r) :
 Fn Tryz.prog 68 ⟨3,[.S 0,.I label_,.S 1,.S 2],[(0,.sl rR0 decls_),(1,.sl rR12 values_),(2,.sl rR12 known_)],[],3,.O r,[],[]⟩:=by
 refine eFn func68 rfl (fun E F w=>?_)
 unfold z68 at h
 obtain ⟨x1,c,h⟩:=ob h
 refine wa J 9 (eCl (z133_ct N decls_ label_ _ c) [] [(0,.sl 0)] ?_)
 obtain ⟨K,h⟩|⟨K,h⟩:=oc h
 ·refine wH J 2 K ?_
  cases h
  exact wr J 20 func68 []
 refine wH J 2 K ?_
 obtain ⟨x2,d,h⟩:=ob h
 refine wa J 2 (eCl (z48_ct N decls_ known_ _ d) [] [(0,.sl 0),(1,.sl 2)] ?_)
 obtain ⟨K,h⟩|⟨K,h⟩:=oc h
 ·refine wH J 3 K ?_
  cases h
  exact wr J 14 func68 []
 refine wH J 3 K ?_
 obtain ⟨x3,e,h⟩:=ob h
 refine wa J 2 (eIx J oO0 e ?_)
 obtain ⟨x4,f,h⟩:=ob h
 refine wa J 2 (eCl (z134_ct N x3 values_ _ f) [] [(0,.sl 4),(1,.sl 5),(2,.sl 6),(3,.sl 1)] ?_)
 obtain ⟨K,h⟩|⟨K,h⟩:=oc h
 ·refine wH J 3 K ?_
  cases h
  exact wr J 5 func68 []
 refine wH J 3 K ?_
 obtain ⟨x5,g,h⟩:=ob h
 refine wa J 6 (eIx J oO0 g ?_)
 obtain ⟨x6,i,h⟩:=ob h
 refine wa J 4 (eIx J oO0 i ?_)
 obtain ⟨x7,j,h⟩:=ob h
 refine wa J 3 (eCl (z136_ct N x6 values_ known_ _ j) [] [(0,.sl 12),(1,.sl 13),(2,.sl 14),(3,.sl 1),(4,.sl 2)] ?_)
 obtain ⟨x8,k,h⟩:=ob h
 refine eCb (z135_ct N x5.Guard x7 _ k) [] [(0,.sl 9),(1,.sl 10),(2,.sl 15)] [15] (.inr ⟨rfl,trivial⟩) (wa J 1 (eEnd ?_))
 cases h
 exact eRet J func68 []
theorem z22_ct (N:Nat) (a_:(List T12)) (b_:(List T12)) (r:Bool) (h:z22 N a_ b_=some r) :
 Fn Tryz.prog 22 ⟨2,[.S 0,.S 1],[(0,.sl rR12 a_),(1,.sl rR12 b_)],[],2,.O r,[],[]⟩:=by
 refine eFn func22 rfl (fun E F w=>?_)
 unfold z22 at h
 obtain ⟨K,h⟩|⟨K,h⟩:=oc h
 ·refine wH J 13 K ?_
  cases h
  exact wr J 5 func22 []
 refine wH J 13 K (wa J 7 (eCut (σ:=Unit) (fun st=>(zz5 a_ b_ [])) (fun st=>z22_k1=some r) ?_ (fun j1=>?_)))
 ·intro _ h
  replace h:z22_k1=some r:=h
  unfold z22_k1 at h
  cases h
  exact wr J 4 func22 []
 refine wa J 1 (eLoop (σ:=Int) (fun st=>(zz5 a_ b_ [(0,.S 0),(1,.S 1),(5,.I st)])) (fun n st=>z22_l2 a_ b_ n st) (r:=r) (fun _=>rfl) ?_ (fun ih=>?_))
 ·intro n2 ih3
  intro c h
  replace h:z22_l2 a_ b_ (n2+1) c=some r:=h
  unfold z22_l2 at h
  obtain ⟨K,h⟩|⟨K,h⟩:=oc' h
  ·exact wH J 8 K (wa J 2 (eSub [] (j1 () h)))
  refine wH J 8 K ?_
  obtain ⟨d,e,h⟩:=ob h
  refine wa J 8 (eIx J oO12 e ?_)
  obtain ⟨f,g,h⟩:=ob h
  refine wa J 3 (eIx J oO12 g (wa J 1 (eEq (eEnd ?_))))
  obtain ⟨K,h⟩|⟨K,h⟩:=oc h
  ·refine eK K ?_
   cases h
   exact wr J 5 func22 []
  exact eK K (wa J 8 (eSub [] (ih3 (w64 (c+1)) h)))
 exact eSub [] (ih N 0 h)
theorem z69_ct (N:Nat) (decls_:(List T0)) (label_:Int) (values_:(List T12)) (known_:(List T12)) (r:(List T12) × Int) (h:z69 N decls_ label_ values_ known_=some r) :
 Fn Tryz.prog 69 ⟨3,[.S 0,.I label_,.S 1,.S 2],[(0,.sl rR0 decls_),(1,.sl rR12 values_),(2,.sl rR12 known_)],[],4,.t [.inl (.sl 3),.inl (.I r.2)],[],[(3,.own rR12 r.1 true)]⟩:=by
 refine eFn func69 rfl (fun E F w=>?_)
 unfold z69 at h
 obtain ⟨x1,c,h⟩:=ob h
 refine wa J 11 (eCl (z133_ct N decls_ label_ _ c) [] [(0,.sl 0)] ?_)
 obtain ⟨K,h⟩|⟨K,h⟩:=oc h
 ·refine wH J 2 K ?_
  cases h
  exact wr J 13 func69 [(3,.nil)]
 refine wH J 2 K ?_
 obtain ⟨x2,d,h⟩:=ob h
 refine wa J 2 (eCl (z48_ct N decls_ known_ _ d) [] [(0,.sl 0),(1,.sl 2)] ?_)
 obtain ⟨K,h⟩|⟨K,h⟩:=oc h
 ·refine wH J 4 K ?_
  cases h
  exact wr J 6 func69 [(3,.nil)]
 refine wH J 4 K ?_
 obtain ⟨x3,e,h⟩:=ob h
 refine wa J 5 (eIx J oO0 e ?_)
 obtain ⟨x4,f,h⟩:=ob h
 refine wa J 2 (eCl (z134_ct N x3 values_ _ f) [] [(0,.sl 4),(1,.sl 5),(2,.sl 6),(3,.sl 1)] ?_)
 obtain ⟨K,h⟩|⟨K,h⟩:=oc h
 ·refine wH J 3 K ?_
  cases h
  exact wr J 6 func69 [(3,.nil)]
 refine wH J 3 K ?_
 obtain ⟨x5,g,h⟩:=ob h
 refine wa J 7 (eIx J oO0 g ?_)
 obtain ⟨x6,i,h⟩:=ob h
 refine wa J 3 (eCl (z136_ct N x5 values_ known_ _ i) [] [(0,.sl 8),(1,.sl 9),(2,.sl 10),(3,.sl 1),(4,.sl 2)] ?_)
 cases h
 exact wr J 3 func69 [(3,.sl 11)]
theorem z26_ct (N:Nat) (g_:T5) (m_:T8) (s_:T16) (x_:T3) (r:T16 × Int) (h:z26 N g_ m_ s_ x_=some r) :
 Fn Tryz.prog 26 ⟨10,[.a (cC5 0 1 2 3 g_),.a (cC8 4 5 6 m_),.a (cC16 7 8 s_),.a (cC3 9 x_)],((0,.sl rS g_.Roles)::(1,.sl rR0 g_.Decls)::(2,.sl rR2 g_.Edges)::(3,.sl rR11 g_.Timeouts)::(4,.sl rB m_.Finals)::(5,.sl rR9 m_.Moves)::(6,.sl rR11 m_.Timeouts)::vV16 7 8 s_ [(9,.sl rR12 x_.Values)]),[],12,.t [.inr (cC16 10 11 r.1),.inl (.I r.2)],(vV16 10 11 r.1 []),[]⟩:=by
 refine eFn func26 rfl (fun E F w=>?_)
 unfold z26 at h
 obtain ⟨x1,c,h⟩:=ob h
 refine wa J 15 (eCl (z28_ct N g_ m_ s_ _ c) [] [(0,.sl 0),(1,.sl 1),(2,.sl 2),(3,.sl 3),(4,.sl 4),(5,.sl 5),(6,.sl 6),(7,.sl 7),(8,.sl 8)] ?_)
 obtain ⟨K,h⟩|⟨K,h⟩:=oc h
 ·refine wH J 2 K ?_
  cases h
  exact wr J 7 func26 [(10,.nil),(11,.nil)]
 refine wH J 2 K ?_
 obtain ⟨x2,d,h⟩:=ob h
 refine wa J 8 (eCl (z34_ct N m_ s_.At x_ _ d) [] [(0,.sl 4),(1,.sl 5),(2,.sl 6),(3,.sl 9)] ?_)
 obtain ⟨K,h⟩|⟨K,h⟩:=oc h
 ·refine wH J 13 K ?_
  cases h
  exact wr J 7 func26 [(10,.nil),(11,.nil)]
 refine wH J 13 K ?_
 obtain ⟨K,h⟩|⟨K,h⟩:=oc h
 ·refine wH J 7 K ?_
  cases h
  exact wr J 7 func26 [(10,.nil),(11,.nil)]
 refine wH J 7 K ?_
 obtain ⟨x3,e,h⟩:=ob h
 refine wa J 7 (eIx J oO0 e ?_)
 obtain ⟨x4,f,h⟩:=ob h
 refine wa J 3 (eCl (z67_ct N x3 x_.Values _ f) [] [(0,.sl 16),(1,.sl 17),(2,.sl 18),(3,.sl 9)] (wa J 2 (eEnd ?_)))
 obtain ⟨K,h⟩|⟨K,h⟩:=oc h
 ·refine eK K ?_
  cases h
  exact wr J 7 func26 [(10,.nil),(11,.nil)]
 refine eK K ?_
 obtain ⟨x5,g,h⟩:=ob h
 refine wa J 11 (eCl (z68_ct N g_.Decls x_.Label x_.Values s_.Known _ g) [] [(0,.sl 1),(1,.sl 9),(2,.sl 7)] ?_)
 refine wa J 2 (eCut (σ:=Bool) (fun st=>⟨[(4,.B 10 0),(5,.B 11 0),(6,.B 12 0),(7,.B 13 0),(8,.B 14 0),(10,.I x2),(46,.O st)],[(10,.box (cC5 0 1 2 3 g_) 27),(11,.box (cC8 4 5 6 m_) 31),(12,.box (cC16 7 8 s_) 41),(13,.box (cC3 9 x_) 67),(14,.box [.I 0,.nil,.nil] 41)],((0,.sl rS g_.Roles)::(1,.sl rR0 g_.Decls)::(2,.sl rR2 g_.Edges)::(3,.sl rR11 g_.Timeouts)::(4,.sl rB m_.Finals)::(5,.sl rR9 m_.Moves)::(6,.sl rR11 m_.Timeouts)::vV16 7 8 s_ [(9,.sl rR12 x_.Values)]),19⟩) (fun st=>z26_k1 N g_ m_ s_ x_ x2 st=some r) ?_ (fun j1=>?_))
 ·intro i h
  replace h:z26_k1 N g_ m_ s_ x_ x2 i=some r:=h
  unfold z26_k1 at h
  obtain ⟨K,h⟩|⟨K,h⟩:=oc h
  ·refine eK K ?_
   cases h
   exact wr J 7 func26 [(10,.nil),(11,.nil)]
  refine eK K ?_
  obtain ⟨x8,j,h⟩:=ob h
  refine wa J 8 (eIx J oO9 j ?_)
  obtain ⟨x9,k,h⟩:=ob h
  refine wa J 16 (eCl (z69_ct N g_.Decls x_.Label x_.Values s_.Known _ k) [] [(0,.sl 1),(1,.sl 9),(2,.sl 7)] ?_)
  obtain ⟨K,h⟩|⟨K,h⟩:=oc' h
  ·refine wH J 12 K (wa J 8 (eFr [21] ?_))
   cases h
   exact eRet J func26 [(10,.sl 21),(11,.nil)]
  refine wH J 12 K (wa J 2 (eBs J [] oO12 ([]:List T12) ?_))
  obtain ⟨l,m,h⟩:=ob h
  refine wa J 2 (eAp J rR12 m (wa J 9 (eFr [21] (eFr [23] ?_))))
  cases h
  exact eRet J func26 [(10,.sl 21),(11,.sl 23)]
 obtain ⟨K,h⟩|⟨K,h⟩:=oc h
 ·exact eK K (wa J 17 (eSub [] (j1 true h)))
 refine eK K ?_
 obtain ⟨o,p,h⟩:=ob h
 refine wa J 3 (eIx J oO9 p ?_)
 obtain ⟨K,h⟩|⟨K,h⟩:=oc' h
 ·exact wH J 3 K (wa J 10 (eSub [] (j1 false h)))
 refine wH J 3 K ?_
 obtain ⟨q,s,h⟩:=ob h
 exact wa J 4 (eCl (z22_ct N x_.Values s_.Pending _ s) [] [(0,.sl 9),(1,.sl 8)] (wa J 5 (eSub [] (j1 (!q) h))))
theorem z16_ct (N:Nat) (g_:T5) (m_:T8) (history_:(List T3)) (r:T16 × Int × Int) (h:z16 N g_ m_ history_=some r) :
 Fn Tryz.prog 16 ⟨8,[.a (cC5 0 1 2 3 g_),.a (cC8 4 5 6 m_),.S 7],((0,.sl rS g_.Roles)::(1,.sl rR0 g_.Decls)::(2,.sl rR2 g_.Edges)::(3,.sl rR11 g_.Timeouts)::vV8 4 5 6 m_ [(7,.sl rR3 history_)]),[],10,.t [.inr (cC16 8 9 r.1),.inl (.I r.2.1),.inl (.I r.2.2)],(vV16 8 9 r.1 []),[]⟩:=by
 refine eFn func16 rfl (fun E F w=>?_)
 unfold z16 at h
 obtain ⟨x1,c,h⟩:=ob h
 refine wa J 12 (eCl (z31_ct N g_ m_ _ c) [] [(0,.sl 0),(1,.sl 1),(2,.sl 2),(3,.sl 3),(4,.sl 4),(5,.sl 5),(6,.sl 6)] ?_)
 obtain ⟨x2,d,h⟩:=ob h
 refine wa J 8 (eCl (z57_ct N g_ m_ _ d) [] [(0,.sl 0),(1,.sl 1),(2,.sl 2),(3,.sl 3),(4,.sl 4),(5,.sl 5),(6,.sl 6)] ?_)
 obtain ⟨K,h⟩|⟨K,h⟩:=oc h
 ·refine wH J 2 K ?_
  cases h
  exact wr J 8 func16 [(8,.nil),(9,.nil)]
 refine wH J 2 K (wa J 7 (eCut (σ:=Int × (List T12) × (List T12)) (fun st=>⟨[(2,.S 7),(6,.B 10 0),(9,.B 13 0)],[(10,.box [.I 0,.nil,.nil] 41),(13,.box [.I st.1,.sl 14,.sl 15] 41)],((0,.sl rS g_.Roles)::(1,.sl rR0 g_.Decls)::(2,.sl rR2 g_.Edges)::(3,.sl rR11 g_.Timeouts)::vV8 4 5 6 m_ [(7,.sl rR3 history_),(14,.sl rR12 st.2.1),(15,.sl rR12 st.2.2)]),16⟩) (fun st=>z16_k1 history_ st.1 st.2.1 st.2.2=some r) ?_ (fun j1=>?_)))
 ·rintro ⟨e,f,g⟩ h
  replace h:z16_k1 history_ e f g=some r:=h
  unfold z16_k1 at h
  cases h
  exact wr J 9 func16 [(8,.sl 14),(9,.sl 15)]
 refine wa J 1 (eLoop (σ:=Int × (List T12) × (List T12) × Int) (fun st=>⟨[(2,.S 7),(3,.B 8 0),(4,.B 9 0),(6,.B 10 0),(9,.B 13 0),(10,.I st.2.2.2)],[(8,.box (cC5 0 1 2 3 g_) 27),(9,.box (cC8 4 5 6 m_) 31),(10,.box [.I 0,.nil,.nil] 41),(13,.box [.I st.1,.sl 14,.sl 15] 41)],((0,.sl rS g_.Roles)::(1,.sl rR0 g_.Decls)::(2,.sl rR2 g_.Edges)::(3,.sl rR11 g_.Timeouts)::vV8 4 5 6 m_ [(7,.sl rR3 history_),(14,.sl rR12 st.2.1),(15,.sl rR12 st.2.2.1)]),16⟩) (fun n st=>z16_l2 N g_ m_ history_ n st.1 st.2.1 st.2.2.1 st.2.2.2) (r:=r) (fun _=>rfl) ?_ (fun ih=>?_))
 ·intro n2 ih3
  rintro ⟨i,j,k,l⟩ h
  replace h:z16_l2 N g_ m_ history_ (n2+1) i j k l=some r:=h
  unfold z16_l2 at h
  obtain ⟨K,h⟩|⟨K,h⟩:=oc' h
  ·exact wH J 8 K (wa J 2 (eSub [] (j1 (i,j,k) h)))
  refine wH J 8 K ?_
  obtain ⟨m,o,h⟩:=ob h
  refine wa J 11 (eIx J oO3 o ?_)
  obtain ⟨p,q,h⟩:=ob h
  refine wa J 1 (eCl (z26_ct N g_ m_ (⟨i,j,k⟩:T16) m _ q) [] [(0,.sl 0),(1,.sl 1),(2,.sl 2),(3,.sl 3),(4,.sl 4),(5,.sl 5),(6,.sl 6),(7,.sl 14),(8,.sl 15),(9,.sl 17)] (wa J 6 (eEnd ?_)))
  obtain ⟨K,h⟩|⟨K,h⟩:=oc h
  ·refine wH J 6 K ?_
   cases h
   exact wr J 10 func16 [(8,.sl 14),(9,.sl 15)]
  exact wH J 6 K (wa J 12 (eSub [(14,.sl 18),(15,.sl 19)] (ih3 (p.1.At,p.1.Known,p.1.Pending,(w64 (l+1))) h)))
 exact eSub [(14,.sl 11),(15,.sl 12)] (ih N (x1.At,x1.Known,x1.Pending,0) h)
theorem z85_ct (N:Nat) (d_:T0) (l_:(List T12)) (r:Int) (h:z85 N d_ l_=some r) :
 Fn Tryz.prog 85 ⟨4,[.a (cC0 0 1 2 d_),.S 3],(vV0 0 1 2 d_ [(3,.sl rR12 l_)]),[],4,.I r,[],[]⟩:=by
 refine eFn func85 rfl (fun E F w=>?_)
 unfold z85 at h
 refine wa J 10 (eCut (σ:=Unit) (fun st=>⟨[],[],(vV0 0 1 2 d_ [(3,.sl rR12 l_)]),5⟩) (fun st=>z85_k1=some r) ?_ (fun j1=>?_))
 ·intro _ h
  replace h:z85_k1=some r:=h
  unfold z85_k1 at h
  cases h
  exact wr J 4 func85 []
 refine wa J 1 (eLoop (σ:=Int) (fun st=>(zz23 d_ l_ [(1,.S 3),(2,.B 4 0),(5,.I st)])) (fun n st=>z85_l2 N d_ l_ n st) (r:=r) (fun _=>rfl) ?_ (fun ih=>?_))
 ·intro n2 ih3
  intro c h
  replace h:z85_l2 N d_ l_ (n2+1) c=some r:=h
  unfold z85_l2 at h
  obtain ⟨K,h⟩|⟨K,h⟩:=oc' h
  ·exact wH J 8 K (wa J 2 (eSub [] (j1 () h)))
  refine wH J 8 K ?_
  obtain ⟨d,e,h⟩:=ob h
  refine wa J 9 (eIx J oO4 e ?_)
  obtain ⟨f,g,h⟩:=ob h
  refine wa J 4 (eIx J oO12 g ?_)
  obtain ⟨i,j,h⟩:=ob h
  refine wa J 1 (eCl (z49_ct N d.Sort' f _ j) [] [] (wa J 1 (eEnd ?_)))
  obtain ⟨K,h⟩|⟨K,h⟩:=oc h
  ·refine eK K ?_
   cases h
   exact wr J 6 func85 []
  exact eK K (wa J 8 (eSub [] (ih3 (w64 (c+1)) h)))
 exact eSub [] (ih N 0 h)
theorem z51_ct (N:Nat) (d_:T0) (r:Int) (h:z51 N d_=some r) :
 Fn Tryz.prog 51 ⟨3,[.a (cC0 0 1 2 d_)],(vV0 0 1 2 d_ []),[],3,.I r,[],[]⟩:=by
 refine eFn func51 rfl (fun E F w=>?_)
 unfold z51 at h
 cases h
 exact wr J 18 func51 []
theorem z110_ct (N:Nat) (d_:T0) (l_:(List T12)) (known_:(List T12)) (x_:Int) (r:T12 × Bool) (h:z110 N d_ l_ known_ x_=some r) :
 Fn Tryz.prog 110 ⟨5,[.a (cC0 0 1 2 d_),.S 3,.S 4,.I x_],(vV0 0 1 2 d_ [(3,.sl rR12 l_),(4,.sl rR12 known_)]),[],5,.t [.inr (cC12 r.1),.inl (.b r.2)],[],[]⟩:=by
 refine eFn func110 rfl (fun E F w=>?_)
 unfold z110 at h
 obtain ⟨K,h⟩|⟨K,h⟩:=oc h
 ·refine wH J 14 K ?_
  obtain ⟨x1,c,h⟩:=ob h
  refine wa J 3 (eCl (z83_ct N 0 _ c) [] [] ?_)
  cases h
  exact wr J 3 func110 []
 refine wH J 14 K ?_
 obtain ⟨K,h⟩|⟨K,h⟩:=oc' h
 ·refine wH J 8 K ?_
  obtain ⟨x5,d,h⟩:=ob h
  refine wa J 17 (eIx J oO12 d ?_)
  obtain ⟨x6,e,h⟩:=ob h
  refine wa J 3 (eIx J oO12 e (wa J 5 (eEnd ?_)))
  cases h
  exact eRet J func110 []
 refine wH J 8 K ?_
 obtain ⟨K,h⟩|⟨K,h⟩:=oc h
 ·refine wH J 10 K ?_
  obtain ⟨x2,f,h⟩:=ob h
  refine wa J 8 (eIx J oO12 f ?_)
  cases h
  exact wr J 4 func110 []
 refine wH J 10 K ?_
 obtain ⟨x3,g,h⟩:=ob h
 refine wa J 7 (eIx J oO12 g ?_)
 obtain ⟨x4,i,h⟩:=ob h
 refine wa J 3 (eIx J oO12 i (wa J 5 (eEnd ?_)))
 cases h
 exact eRet J func110 []
theorem z50_ct (N:Nat) (d_:T0) (l_:(List T12)) (known_:(List T12)) (part_:Int) (r:Bool) (h:z50 N d_ l_ known_ part_=some r) :
 Fn Tryz.prog 50 ⟨5,[.a (cC0 0 1 2 d_),.S 3,.S 4,.I part_],(vV0 0 1 2 d_ [(3,.sl rR12 l_),(4,.sl rR12 known_)]),[],5,.O r,[],[]⟩:=by
 refine eFn func50 rfl (fun E F w=>?_)
 unfold z50 at h
 obtain ⟨K,h⟩|⟨K,h⟩:=oc h
 ·refine wH J 20 K ?_
  obtain ⟨x1,c,h⟩:=ob h
  refine wa J 9 (eIx J (oP (oI .i64) (oI .i64)) c (wa J 9 (eAb 0 rfl ?_)))
  obtain ⟨x2,d,h⟩:=ob h
  refine wa J 1 (eCl (z110_ct N d_ l_ known_ x1.1 _ d) [] [(0,.sl 0),(1,.sl 1),(2,.sl 2),(3,.sl 3),(4,.sl 4)] (wa J 12 (eAb 1 rfl ?_)))
  obtain ⟨x3,e,h⟩:=ob h
  refine wa J 1 (eCl (z110_ct N d_ l_ known_ x1.2 _ e) [] [(0,.sl 0),(1,.sl 1),(2,.sl 2),(3,.sl 3),(4,.sl 4)] ?_)
  obtain ⟨K,h⟩|⟨K,h⟩:=oc' h
  ·refine wH J 11 K ?_
   cases h
   exact wr J 11 func50 []
  refine wH J 11 K ?_
  obtain ⟨K,h⟩|⟨K,h⟩:=oc h
  ·refine wH J 3 K ?_
   cases h
   exact wr J 8 func50 []
  refine wH J 3 K ?_
  cases h
  exact wr J 8 func50 []
 refine wH J 20 K ?_
 obtain ⟨x4,f,h⟩:=ob h
 refine wa J 8 (eIx J oO1 f ?_)
 obtain ⟨x5,g,h⟩:=ob h
 refine wa J 11 (eCl (z110_ct N d_ l_ known_ x4.X _ g) [] [(0,.sl 0),(1,.sl 1),(2,.sl 2),(3,.sl 3),(4,.sl 4)] ?_)
 obtain ⟨x6,i,h⟩:=ob h
 refine wa J 14 (eCl (z110_ct N d_ l_ known_ x4.Y _ i) [] [(0,.sl 0),(1,.sl 1),(2,.sl 2),(3,.sl 3),(4,.sl 4)] ?_)
 obtain ⟨K,h⟩|⟨K,h⟩:=oc' h
 ·refine wH J 11 K (wa J 13 (eEnd ?_))
  cases h
  exact eRet J func50 []
 refine wH J 11 K ?_
 obtain ⟨K,h⟩|⟨K,h⟩:=oc' h
 ·refine wH J 3 K (wa J 10 (eEnd ?_))
  cases h
  exact eRet J func50 []
 refine wH J 3 K ?_
 obtain ⟨x7,j,h⟩:=ob h
 refine wa J 1 (eCl (z109_ct N x5.1 _ j) [] [] ?_)
 obtain ⟨x8,k,h⟩:=ob h
 refine wa J 1 (eCl (z109_ct N x6.1 _ k) [] [] (wa J 6 (eEnd ?_)))
 cases h
 exact eRet J func50 []
theorem z86_ct (N:Nat) (d_:T0) (l_:(List T12)) (known_:(List T12)) (r:Int) (h:z86 N d_ l_ known_=some r) :
 Fn Tryz.prog 86 ⟨5,[.a (cC0 0 1 2 d_),.S 3,.S 4],(vV0 0 1 2 d_ [(3,.sl rR12 l_),(4,.sl rR12 known_)]),[],5,.I r,[],[]⟩:=by
 refine eFn func86 rfl (fun E F w=>?_)
 unfold z86 at h
 refine wa J 10 (eCut (σ:=Unit) (fun st=>⟨[],[],(vV0 0 1 2 d_ [(3,.sl rR12 l_),(4,.sl rR12 known_)]),6⟩) (fun st=>z86_k1=some r) ?_ (fun j1=>?_))
 ·intro _ h
  replace h:z86_k1=some r:=h
  unfold z86_k1 at h
  cases h
  exact wr J 4 func86 []
 refine wa J 1 (eLoop (σ:=Int) (fun st=>⟨[(1,.S 3),(2,.S 4),(3,.B 5 0),(7,.I st)],[(5,.box (cC0 0 1 2 d_) 87)],(vV0 0 1 2 d_ [(3,.sl rR12 l_),(4,.sl rR12 known_)]),6⟩) (fun n st=>z86_l2 N d_ l_ known_ n st) (r:=r) (fun _=>rfl) ?_ (fun ih=>?_))
 ·intro n2 ih3
  intro c h
  replace h:z86_l2 N d_ l_ known_ (n2+1) c=some r:=h
  unfold z86_l2 at h
  obtain ⟨d,e,h⟩:=ob h
  refine wa J 5 (eCl (z51_ct N d_ _ e) [] [(0,.sl 0),(1,.sl 1),(2,.sl 2)] ?_)
  obtain ⟨K,h⟩|⟨K,h⟩:=oc' h
  ·exact wH J 2 K (wa J 2 (eSub [] (j1 () h)))
  refine wH J 2 K ?_
  obtain ⟨f,g,h⟩:=ob h
  refine wa J 10 (eCl (z50_ct N d_ l_ known_ c _ g) [] [(0,.sl 0),(1,.sl 1),(2,.sl 2),(3,.sl 3),(4,.sl 4)] ?_)
  obtain ⟨K,h⟩|⟨K,h⟩:=oc h
  ·refine wH J 2 K ?_
   cases h
   exact wr J 6 func86 []
  exact wH J 2 K (wa J 8 (eSub [] (ih3 (w64 (c+1)) h)))
 exact eSub [] (ih N 0 h)
theorem z87_ct (N:Nat) (a_:(List T12)) (b_:(List T12)) (r:Int) (h:z87 N a_ b_=some r) :
 Fn Tryz.prog 87 ⟨2,[.S 0,.S 1],[(0,.sl rR12 a_),(1,.sl rR12 b_)],[],2,.I r,[],[]⟩:=by
 refine eFn func87 rfl (fun E F w=>?_)
 unfold z87 at h
 refine wa J 9 (eCut (σ:=Unit) (fun st=>(zz5 a_ b_ [])) (fun st=>z87_k1=some r) ?_ (fun j1=>?_))
 ·intro _ h
  replace h:z87_k1=some r:=h
  unfold z87_k1 at h
  cases h
  exact wr J 4 func87 []
 refine wa J 1 (eLoop (σ:=Int) (fun st=>(zz5 a_ b_ [(0,.S 0),(1,.S 1),(5,.I st)])) (fun n st=>z87_l2 a_ b_ n st) (r:=r) (fun _=>rfl) ?_ (fun ih=>?_))
 ·intro n2 ih3
  intro c h
  replace h:z87_l2 a_ b_ (n2+1) c=some r:=h
  unfold z87_l2 at h
  obtain ⟨K,h⟩|⟨K,h⟩:=oc' h
  ·exact wH J 8 K (wa J 8 (eSub [] (j1 () h)))
  refine wH J 8 K ?_
  obtain ⟨K,h⟩|⟨K,h⟩:=oc' h
  ·exact wH J 6 K (wa J 2 (eSub [] (j1 () h)))
  refine wH J 6 K ?_
  obtain ⟨d,e,h⟩:=ob h
  refine wa J 8 (eIx J oO12 e ?_)
  obtain ⟨f,g,h⟩:=ob h
  refine wa J 3 (eIx J oO12 g (wa J 1 (eEq (eEnd ?_))))
  obtain ⟨K,h⟩|⟨K,h⟩:=oc h
  ·refine eK K ?_
   cases h
   exact wr J 6 func87 []
  exact eK K (wa J 8 (eSub [] (ih3 (w64 (c+1)) h)))
 exact eSub [] (ih N 0 h)
theorem z40_ct (N:Nat) (g_:T5) (m_:T8) (history_:(List T3)) (r:T13 × Bool × Int) (h:z40 N g_ m_ history_=some r) :
 Fn Tryz.prog 40 ⟨8,[.a (cC5 0 1 2 3 g_),.a (cC8 4 5 6 m_),.S 7],((0,.sl rS g_.Roles)::(1,.sl rR0 g_.Decls)::(2,.sl rR2 g_.Edges)::(3,.sl rR11 g_.Timeouts)::vV8 4 5 6 m_ [(7,.sl rR3 history_)]),[],8,.t [.inr (cC13 r.1),.inl (.b r.2.1),.inl (.I r.2.2)],[],[]⟩:=by
 refine eFn func40 rfl (fun E F w=>?_)
 unfold z40 at h
 obtain ⟨x1,c,h⟩:=ob h
 refine wa J 13 (eCl (z16_ct N g_ m_ history_ _ c) [] [(0,.sl 0),(1,.sl 1),(2,.sl 2),(3,.sl 3),(4,.sl 4),(5,.sl 5),(6,.sl 6),(7,.sl 7)] ?_)
 obtain ⟨K,h⟩|⟨K,h⟩:=oc h
 ·refine wH J 17 K ?_
  cases h
  exact wr J 8 func40 []
 refine wH J 17 K ?_
 obtain ⟨K,h⟩|⟨K,h⟩:=oc h
 ·refine wH J 7 K ?_
  cases h
  exact wr J 8 func40 []
 refine wH J 7 K ?_
 obtain ⟨x2,d,h⟩:=ob h
 refine wa J 7 (eIx J oO3 d (wa J 20 (eCut (σ:=Int) (fun st=>⟨[(3,.B 8 0),(4,.B 9 0),(6,.B 10 0),(9,.B 13 0),(12,.B 16 0),(13,.B 17 0)],[(8,.box (cC5 0 1 2 3 g_) 27),(9,.box (cC8 4 5 6 m_) 31),(10,.box [.I 0,.I 0,.I 0,.I 0] 100),(13,.box (cC16 11 12 x1.1) 41),(16,.box (cC3 15 x2) 67),(17,.box [.I x1.2.1,.I 0,.I 0,.I st] 100)],((0,.sl rS g_.Roles)::(1,.sl rR0 g_.Decls)::(2,.sl rR2 g_.Edges)::(3,.sl rR11 g_.Timeouts)::(4,.sl rB m_.Finals)::(5,.sl rR9 m_.Moves)::(6,.sl rR11 m_.Timeouts)::(7,.sl rR3 history_)::vV16 11 12 x1.1 [(15,.sl rR12 x2.Values)]),18⟩) (fun st=>z40_k1 N g_ m_ x1 x2 st=some r) ?_ (fun j1=>?_))))
 ·intro e h
  replace h:z40_k1 N g_ m_ x1 x2 e=some r:=h
  unfold z40_k1 at h
  obtain ⟨K,h⟩|⟨K,h⟩:=oc h
  ·refine wH J 9 K (wa J 9 (eEnd ?_))
   cases h
   exact wr J 7 func40 []
  refine wH J 9 K ?_
  obtain ⟨x3,f,h⟩:=ob h
  refine wa J 9 (eCl (z34_ct N m_ x1.1.At x2 _ f) [] [(0,.sl 4),(1,.sl 5),(2,.sl 6),(3,.sl 15)] ?_)
  obtain ⟨K,h⟩|⟨K,h⟩:=oc h
  ·refine wH J 2 K ?_
   cases h
   exact wr J 13 func40 []
  refine wH J 2 K ?_
  obtain ⟨x4,g,h⟩:=ob h
  refine wa J 8 (eIx J oO0 g ?_)
  obtain ⟨K,h⟩|⟨K,h⟩:=oc h
  ·refine wH J 17 K ?_
   cases h
   exact wr J 13 func40 []
  refine wH J 17 K ?_
  obtain ⟨x5,i,h⟩:=ob h
  refine wa J 6 (eCl (z85_ct N x4 x2.Values _ i) [] [(0,.sl 19),(1,.sl 20),(2,.sl 21),(3,.sl 15)] ?_)
  obtain ⟨K,h⟩|⟨K,h⟩:=oc h
  ·refine wH J 3 K ?_
   obtain ⟨x6,j,h⟩:=ob h
   refine wa J 5 (eCl (z85_ct N x4 x2.Values _ j) [] [(0,.sl 19),(1,.sl 20),(2,.sl 21),(3,.sl 15)] ?_)
   cases h
   exact wr J 13 func40 []
  refine wH J 3 K ?_
  obtain ⟨x7,k,h⟩:=ob h
  refine wa J 8 (eCl (z86_ct N x4 x2.Values x1.1.Known _ k) [] [(0,.sl 19),(1,.sl 20),(2,.sl 21),(3,.sl 15),(4,.sl 11)] ?_)
  obtain ⟨K,h⟩|⟨K,h⟩:=oc h
  ·refine wH J 3 K ?_
   obtain ⟨x8,l,h⟩:=ob h
   refine wa J 7 (eCl (z86_ct N x4 x2.Values x1.1.Known _ l) [] [(0,.sl 19),(1,.sl 20),(2,.sl 21),(3,.sl 15),(4,.sl 11)] ?_)
   cases h
   exact wr J 13 func40 []
  refine wH J 3 K ?_
  obtain ⟨x9,m,h⟩:=ob h
  refine wa J 6 (eCl (z87_ct N x2.Values x1.1.Pending _ m) [] [(0,.sl 15),(1,.sl 12)] ?_)
  cases h
  exact wr J 13 func40 []
 obtain ⟨K,h⟩|⟨K,h⟩:=oc h
 ·exact eK K (wa J 7 (eSub [] (j1 x2.Peer h)))
 exact eK K (wa J 2 (eSub [] (j1 m_.Role h)))
theorem z96_ct (N:Nat) (g_:T5) (i_:Int) (r:ByteArray) (h:z96 N g_ i_=some r) :
 Fn Tryz.prog 96 ⟨4,[.a (cC5 0 1 2 3 g_),.I i_],(vV5 0 1 2 3 g_ []),[],4,.c (.s r),[],[]⟩:=by
 refine eFn func96 rfl (fun E F w=>?_)
 unfold z96 at h
 obtain ⟨K,h⟩|⟨K,h⟩:=oc h
 ·refine wH J 11 K ?_
  cases h
  exact wr J 12 func96 []
 refine wH J 11 K ?_
 obtain ⟨K,h⟩|⟨K,h⟩:=oc h
 ·refine wH J 7 K ?_
  cases h
  exact wr J 5 func96 []
 refine wH J 7 K ?_
 obtain ⟨x1,d,h⟩:=ob h
 refine wa J 7 (eIx J oO0 d ?_)
 cases h
 exact wr J 4 func96 []
theorem z166_b_ct (N:Nat) (rc:Int→Option ByteArray) (rc_ref15_digits_ct:(∀ (n_:Int) (r:ByteArray),rc n_=some r→Fn Tryz.prog 166 ⟨0,[.I n_],[],[],0,.c (.s r),[],[]⟩)) (n_:Int) (r:ByteArray) (h:z166_b N rc n_=some r) :
 Fn Tryz.prog 166 ⟨0,[.I n_],[],[],0,.c (.s r),[],[]⟩:=by
 refine eFn func166 rfl (fun E F w=>?_)
 unfold z166_b at h
 obtain ⟨K,h⟩|⟨K,h⟩:=oc h
 ·refine wH J 12 K ?_
  obtain ⟨x1,d,h⟩:=ob h
  refine wa J 5 (eCl (rc_ref15_digits_ct (w64 (n_.tdiv 10)) _ d) [] [] (wa J 4 (eCr ?_)))
  obtain ⟨x2,e,h⟩:=ob h
  refine eCa e ?_
  cases h
  exact wr J 2 func166 []
 refine wH J 12 K ?_
 obtain ⟨K,h⟩|⟨K,h⟩:=oc h
 ·refine wH J 7 K (wa J 6 (eCr ?_))
  obtain ⟨x3,f,h⟩:=ob h
  refine eCa f ?_
  cases h
  exact wr J 2 func166 []
 refine wH J 7 K ?_
 obtain ⟨K,h⟩|⟨K,h⟩:=oc h
 ·refine wH J 7 K (wa J 6 (eCr ?_))
  cases h
  exact wr J 2 func166 []
 refine wH J 7 K ?_
 obtain ⟨x4,g,h⟩:=ob h
 refine wa J 7 (eCl (rc_ref15_digits_ct (w64 (n_.tdiv 10)) _ g) [] [] (wa J 4 (eCr ?_)))
 obtain ⟨x5,i,h⟩:=ob h
 refine eCa i ?_
 cases h
 exact wr J 2 func166 []
theorem z166_rct:∀ (N:Nat) (n_:Int) (r:ByteArray) (h:z166_r N n_=some r),Fn Tryz.prog 166 ⟨0,[.I n_],[],[],0,.c (.s r),[],[]⟩:=by
 intro N
 induction N with
 | zero=>intros;rename_i h;cases h
 | succ N ih=>intro n_ r h;exact z166_b_ct N (z166_r N) ih n_ r h
theorem z166_ct (N:Nat) (n_:Int) (r:ByteArray) (h:z166 N n_=some r):Fn Tryz.prog 166 ⟨0,[.I n_],[],[],0,.c (.s r),[],[]⟩:=z166_rct N n_ r h
theorem z91_ct (N:Nat) (v_:T12) (r:ByteArray) (h:z91 N v_=some r) :
 Fn Tryz.prog 91 ⟨0,[.a (cC12 v_)],[],[],0,.c (.s r),[],[]⟩:=by
 refine eFn func91 rfl (fun E F w=>?_)
 unfold z91 at h
 obtain ⟨x1,d,h⟩:=ob h
 refine wa J 9 (eCl (z108_ct N v_ _ d) [] [] ?_)
 obtain ⟨K,h⟩|⟨K,h⟩:=oc h
 ·refine wH J 2 K ?_
  cases h
  exact wr J 5 func91 []
 refine wH J 2 K ?_
 obtain ⟨K,h⟩|⟨K,h⟩:=oc h
 ·refine wH J 9 K ?_
  obtain ⟨x2,e,h⟩:=ob h
  refine wa J 5 (eCl (z166_ct N v_.N _ e) [] [] ?_)
  cases h
  exact wr J 2 func91 []
 refine wH J 9 K (wa J 11 (eCut (σ:=ByteArray) (fun st=>⟨[(3,.c (.s st))],[],[],1⟩) (fun st=>z91_k1 st=some r) ?_ (fun j1=>?_)))
 ·intro f h
  replace h:z91_k1 f=some r:=h
  unfold z91_k1 at h
  obtain ⟨g,i,h⟩:=ob h
  refine wa J 3 (eCa i ?_)
  cases h
  exact wr J 2 func91 []
 refine wa J 1 (eLoop (σ:=ByteArray × Int) (fun st=>⟨[(1,.B 0 0),(3,.c (.s st.1)),(4,.I st.2)],[(0,.box (cC12 v_) 89)],[],1⟩) (fun n st=>z91_l2 v_ n st.1 st.2) (r:=r) (fun _=>rfl) ?_ (fun ih=>?_))
 ·intro n2 ih6
  rintro ⟨j,k⟩ h
  replace h:z91_l2 v_ (n2+1) j k=some r:=h
  unfold z91_l2 at h
  obtain ⟨K,h⟩|⟨K,h⟩:=oc' h
  ·exact wH J 9 K (wa J 2 (eSub [] (j1 j h)))
  refine wH J 9 K ?_
  obtain ⟨l,m,h⟩:=ob h
  refine wa J 10 (eSx J m ?_)
  refine wa J 2 (eCut (σ:=Bool) (fun st=>⟨[(1,.B 0 0),(3,.c (.s j)),(4,.I k),(32,.O st)],[(0,.box (cC12 v_) 89)],[],1⟩) (fun st=>z91_k3 v_ j k (z91_l2 v_ n2) st=some r) ?_ (fun j9=>?_))
  ·intro o h
   replace h:z91_k3 v_ j k (z91_l2 v_ n2) o=some r:=h
   unfold z91_k3 at h
   obtain ⟨K,h⟩|⟨K,h⟩:=oc' h
   ·refine eK K ?_
    obtain ⟨p,q,h⟩:=ob h
    refine wa J 9 (eSs J q ?_)
    obtain ⟨t,u,h⟩:=ob h
    exact eCa u (wa J 8 (eSub [] (ih6 (t,(w64 (k+1))) h)))
   refine eK K ?_
   obtain ⟨v,x,h⟩:=ob h
   refine wa J 3 (eCa x ?_)
   obtain ⟨y,z,h⟩:=ob h
   refine wa J 9 (eSs J z ?_)
   obtain ⟨A,C,h⟩:=ob h
   exact eCa C (wa J 8 (eSub [] (ih6 (A,(w64 (k+1))) h)))
  obtain ⟨K,h⟩|⟨K,h⟩:=oc h
  ·exact eK K (wa J 7 (eSub [] (j9 true h)))
  refine eK K ?_
  obtain ⟨D,G,h⟩:=ob h
  exact wa J 3 (eSx J G (wa J 3 (eSub [] (j9 (D==92) h))))
 exact eSub [] (ih N ((str [34]),0) h)
theorem z97_ct (N:Nat) (l_:(List T12)) (r:ByteArray) (h:z97 N l_=some r) :
 Fn Tryz.prog 97 ⟨1,[.S 0],[(0,.sl rR12 l_)],[],1,.c (.s r),[],[]⟩:=by
 refine eFn func97 rfl (fun E F w=>?_)
 unfold z97 at h
 refine wa J 13 (eCut (σ:=ByteArray) (fun st=>⟨[(3,.c (.s st))],[],[(0,.sl rR12 l_)],1⟩) (fun st=>z97_k1 st=some r) ?_ (fun j1=>?_))
 ·intro d h
  replace h:z97_k1 d=some r:=h
  unfold z97_k1 at h
  obtain ⟨e,f,h⟩:=ob h
  refine wa J 3 (eCa f ?_)
  cases h
  exact wr J 2 func97 []
 refine wa J 1 (eLoop (σ:=ByteArray × Int) (fun st=>⟨[(0,.S 0),(3,.c (.s st.1)),(4,.I st.2)],[],[(0,.sl rR12 l_)],1⟩) (fun n st=>z97_l2 N l_ n st.1 st.2) (r:=r) (fun _=>rfl) ?_ (fun ih=>?_))
 ·intro n2 ih3
  rintro ⟨g,i⟩ h
  replace h:z97_l2 N l_ (n2+1) g i=some r:=h
  unfold z97_l2 at h
  obtain ⟨K,h⟩|⟨K,h⟩:=oc' h
  ·exact wH J 8 K (wa J 2 (eSub [] (j1 g h)))
  refine wH J 8 K ?_
  obtain ⟨K,h⟩|⟨K,h⟩:=oc' h
  ·refine wH J 10 K ?_
   obtain ⟨j,k,h⟩:=ob h
   refine wa J 6 (eIx J oO12 k ?_)
   obtain ⟨l,m,h⟩:=ob h
   refine wa J 1 (eCl (z91_ct N j _ m) [] [] ?_)
   obtain ⟨o,p,h⟩:=ob h
   exact eCa p (wa J 8 (eSub [] (ih3 (o,(w64 (i+1))) h)))
  refine wH J 10 K ?_
  obtain ⟨q,t,h⟩:=ob h
  refine wa J 3 (eCa t ?_)
  obtain ⟨u,v,h⟩:=ob h
  refine wa J 6 (eIx J oO12 v ?_)
  obtain ⟨x,y,h⟩:=ob h
  refine wa J 1 (eCl (z91_ct N u _ y) [] [] ?_)
  obtain ⟨z,A,h⟩:=ob h
  exact eCa A (wa J 8 (eSub [] (ih3 (z,(w64 (i+1))) h)))
 exact eSub [] (ih N ((str [40]),0) h)
theorem z89_ct (N:Nat) (g_:T5) (i_:Int) (r:ByteArray) (h:z89 N g_ i_=some r) :
 Fn Tryz.prog 89 ⟨4,[.a (cC5 0 1 2 3 g_),.I i_],(vV5 0 1 2 3 g_ []),[],4,.c (.s r),[],[]⟩:=by
 refine eFn func89 rfl (fun E F w=>?_)
 unfold z89 at h
 obtain ⟨K,h⟩|⟨K,h⟩:=oc h
 ·refine wH J 11 K ?_
  cases h
  exact wr J 12 func89 []
 refine wH J 11 K ?_
 obtain ⟨K,h⟩|⟨K,h⟩:=oc h
 ·refine wH J 7 K ?_
  cases h
  exact wr J 5 func89 []
 refine wH J 7 K ?_
 obtain ⟨x1,d,h⟩:=ob h
 refine wa J 7 (eIx J oS d ?_)
 cases h
 exact wr J 3 func89 []
theorem z45_ct (N:Nat) (g_:T5) (x_:T3) (r:ByteArray) (h:z45 N g_ x_=some r) :
 Fn Tryz.prog 45 ⟨5,[.a (cC5 0 1 2 3 g_),.a (cC3 4 x_)],(vV5 0 1 2 3 g_ [(4,.sl rR12 x_.Values)]),[],5,.c (.s r),[],[]⟩:=by
 refine eFn func45 rfl (fun E F w=>?_)
 unfold z45 at h
 obtain ⟨x1,d,h⟩:=ob h
 refine wa J 11 (eCl (z96_ct N g_ x_.Label _ d) [] [(0,.sl 0),(1,.sl 1),(2,.sl 2),(3,.sl 3)] ?_)
 obtain ⟨x2,e,h⟩:=ob h
 refine wa J 2 (eCl (z97_ct N x_.Values _ e) [] [(0,.sl 4)] ?_)
 obtain ⟨x3,f,h⟩:=ob h
 refine eCa f (wa J 1 (eEnd ?_))
 obtain ⟨K,h⟩|⟨K,h⟩:=oc h
 ·refine wH J 6 K ?_
  obtain ⟨x4,g,h⟩:=ob h
  refine wa J 6 (eCl (z89_ct N g_ x_.Role _ g) [] [(0,.sl 0),(1,.sl 1),(2,.sl 2),(3,.sl 3)] ?_)
  obtain ⟨x5,i,h⟩:=ob h
  refine eCa i ?_
  obtain ⟨x6,j,h⟩:=ob h
  refine wa J 1 (eCa j ?_)
  obtain ⟨x7,k,h⟩:=ob h
  refine eCa k ?_
  obtain ⟨x8,l,h⟩:=ob h
  refine wa J 3 (eCl (z89_ct N g_ x_.Peer _ l) [] [(0,.sl 0),(1,.sl 1),(2,.sl 2),(3,.sl 3)] ?_)
  obtain ⟨x9,m,h⟩:=ob h
  refine eCa m (wa J 1 (eEnd ?_))
  cases h
  exact eRet J func45 []
 refine wH J 6 K ?_
 obtain ⟨o,p,h⟩:=ob h
 refine wa J 7 (eCl (z89_ct N g_ x_.Role _ p) [] [(0,.sl 0),(1,.sl 1),(2,.sl 2),(3,.sl 3)] ?_)
 obtain ⟨q,t,h⟩:=ob h
 refine eCa t ?_
 obtain ⟨u,v,h⟩:=ob h
 refine wa J 1 (eCa v ?_)
 obtain ⟨x,y,h⟩:=ob h
 refine eCa y ?_
 obtain ⟨z,A,h⟩:=ob h
 refine wa J 3 (eCl (z89_ct N g_ x_.Peer _ A) [] [(0,.sl 0),(1,.sl 1),(2,.sl 2),(3,.sl 3)] ?_)
 obtain ⟨C,D,h⟩:=ob h
 refine eCa D (wa J 1 (eEnd ?_))
 cases h
 exact eRet J func45 []
theorem z90_b_ct (N:Nat) (rc:Int→Option ByteArray) (rc_ref09_Digits_ct:(∀ (n_:Int) (r:ByteArray),rc n_=some r→Fn Tryz.prog 90 ⟨0,[.I n_],[],[],0,.c (.s r),[],[]⟩)) (n_:Int) (r:ByteArray) (h:z90_b N rc n_=some r) :
 Fn Tryz.prog 90 ⟨0,[.I n_],[],[],0,.c (.s r),[],[]⟩:=by
 refine eFn func90 rfl (fun E F w=>?_)
 unfold z90_b at h
 obtain ⟨K,h⟩|⟨K,h⟩:=oc h
 ·refine wH J 12 K ?_
  obtain ⟨x1,d,h⟩:=ob h
  refine wa J 5 (eCl (rc_ref09_Digits_ct (w64 (n_.tdiv 10)) _ d) [] [] (wa J 4 (eCr ?_)))
  obtain ⟨x2,e,h⟩:=ob h
  refine eCa e ?_
  cases h
  exact wr J 2 func90 []
 refine wH J 12 K ?_
 obtain ⟨K,h⟩|⟨K,h⟩:=oc h
 ·refine wH J 7 K (wa J 6 (eCr ?_))
  obtain ⟨x3,f,h⟩:=ob h
  refine eCa f ?_
  cases h
  exact wr J 2 func90 []
 refine wH J 7 K ?_
 obtain ⟨K,h⟩|⟨K,h⟩:=oc h
 ·refine wH J 7 K (wa J 6 (eCr ?_))
  cases h
  exact wr J 2 func90 []
 refine wH J 7 K ?_
 obtain ⟨x4,g,h⟩:=ob h
 refine wa J 7 (eCl (rc_ref09_Digits_ct (w64 (n_.tdiv 10)) _ g) [] [] (wa J 4 (eCr ?_)))
 obtain ⟨x5,i,h⟩:=ob h
 refine eCa i ?_
 cases h
 exact wr J 2 func90 []
theorem z90_rct:∀ (N:Nat) (n_:Int) (r:ByteArray) (h:z90_r N n_=some r),Fn Tryz.prog 90 ⟨0,[.I n_],[],[],0,.c (.s r),[],[]⟩:=by
 intro N
 induction N with
 | zero=>intros;rename_i h;cases h
 | succ N ih=>intro n_ r h;exact z90_b_ct N (z90_r N) ih n_ r h
theorem z90_ct (N:Nat) (n_:Int) (r:ByteArray) (h:z90 N n_=some r):Fn Tryz.prog 90 ⟨0,[.I n_],[],[],0,.c (.s r),[],[]⟩:=z90_rct N n_ r h
theorem z102_ct (N:Nat) (decls_:(List T0)) (x_:Int) (r:ByteArray × Bool) (h:z102 N decls_ x_=some r) :
 Fn Tryz.prog 102 ⟨1,[.S 0,.I x_],[(0,.sl rR0 decls_)],[],1,.t [.inl (.s r.1),.inl (.b r.2)],[],[]⟩:=by
 refine eFn func102 rfl (fun E F w=>?_)
 unfold z102 at h
 refine wa J 10 (eCut (σ:=Unit) (fun st=>(zz6 decls_ [])) (fun st=>z102_k1=some r) ?_ (fun j1=>?_))
 ·intro _ h
  replace h:z102_k1=some r:=h
  unfold z102_k1 at h
  cases h
  exact wr J 5 func102 []
 refine wa J 1 (eLoop (σ:=Int) (fun st=>(zz6 decls_ [(0,.S 0),(1,.I x_),(6,.I st)])) (fun n st=>z102_l2 decls_ x_ n st) (r:=r) (fun _=>rfl) ?_ (fun ih=>?_))
 ·intro n2 ih3
  intro c h
  replace h:z102_l2 decls_ x_ (n2+1) c=some r:=h
  unfold z102_l2 at h
  obtain ⟨K,h⟩|⟨K,h⟩:=oc' h
  ·exact wH J 8 K (wa J 2 (eSub [] (j1 () h)))
  refine wH J 8 K ?_
  obtain ⟨d,e,h⟩:=ob h
  refine wa J 8 (eIx J oO0 e ?_)
  obtain ⟨K,h⟩|⟨K,h⟩:=oc' h
  ·exact wH J 11 K (wa J 18 (eSub [] (ih3 (w64 (c+1)) h)))
  refine wH J 11 K ?_
  obtain ⟨K,h⟩|⟨K,h⟩:=oc' h
  ·exact wH J 10 K (wa J 8 (eSub [] (ih3 (w64 (c+1)) h)))
  refine wH J 10 K ?_
  obtain ⟨f,g,h⟩:=ob h
  refine wa J 9 (eIx J oO4 g ?_)
  obtain ⟨i,j,h⟩:=ob h
  refine wa J 8 (eCa j ?_)
  obtain ⟨k,l,h⟩:=ob h
  refine wa J 2 (eCa l (wa J 6 (eEnd ?_)))
  cases h
  exact eRet J func102 []
 exact eSub [] (ih N 0 h)
theorem z103_ct (N:Nat) (decls_:(List T0)) (x_:Int) (r:ByteArray) (h:z103 N decls_ x_=some r) :
 Fn Tryz.prog 103 ⟨1,[.S 0,.I x_],[(0,.sl rR0 decls_)],[],1,.c (.s r),[],[]⟩:=by
 refine eFn func103 rfl (fun E F w=>?_)
 unfold z103 at h
 obtain ⟨x1,d,h⟩:=ob h
 refine wa J 8 (eCl (z102_ct N decls_ x_ _ d) [] [(0,.sl 0)] ?_)
 obtain ⟨K,h⟩|⟨K,h⟩:=oc' h
 ·refine wH J 11 K ?_
  cases h
  exact wr J 7 func103 []
 refine wH J 11 K ?_
 obtain ⟨x2,e,h⟩:=ob h
 refine wa J 4 (eCa e ?_)
 obtain ⟨x3,f,h⟩:=ob h
 refine eCa f ?_
 cases h
 exact wr J 2 func103 []
theorem z47_ct (N:Nat) (decls_:(List T0)) (at_:Int) (part_:Int) (r:ByteArray) (h:z47 N decls_ at_ part_=some r) :
 Fn Tryz.prog 47 ⟨1,[.S 0,.I at_,.I part_],[(0,.sl rR0 decls_)],[],1,.c (.s r),[],[]⟩:=by
 refine eFn func47 rfl (fun E F w=>?_)
 unfold z47 at h
 obtain ⟨x1,d,h⟩:=ob h
 refine wa J 8 (eCl (z101_ct N decls_ _ d) [] [(0,.sl 0)] ?_)
 obtain ⟨K,h⟩|⟨K,h⟩:=oc h
 ·refine wH J 2 K ?_
  cases h
  exact wr J 28 func47 []
 refine wH J 2 K ?_
 obtain ⟨K,h⟩|⟨K,h⟩:=oc h
 ·refine wH J 4 K ?_
  cases h
  exact wr J 24 func47 []
 refine wH J 4 K ?_
 obtain ⟨K,h⟩|⟨K,h⟩:=oc h
 ·refine wH J 6 K ?_
  cases h
  exact wr J 18 func47 []
 refine wH J 6 K ?_
 obtain ⟨K,h⟩|⟨K,h⟩:=oc h
 ·refine wH J 4 K ?_
  cases h
  exact wr J 14 func47 []
 refine wH J 4 K ?_
 obtain ⟨x2,e,h⟩:=ob h
 refine wa J 3 (eIx J oO0 e ?_)
 obtain ⟨x3,f,h⟩:=ob h
 refine wa J 1 (eCl (z51_ct N x2 _ f) [] [(0,.sl 2),(1,.sl 3),(2,.sl 4)] ?_)
 obtain ⟨K,h⟩|⟨K,h⟩:=oc h
 ·refine wH J 3 K ?_
  cases h
  exact wr J 5 func47 []
 refine wH J 3 K ?_
 obtain ⟨x4,g,h⟩:=ob h
 refine wa J 7 (eIx J oO0 g ?_)
 obtain ⟨K,h⟩|⟨K,h⟩:=oc h
 ·refine wH J 12 K ?_
  obtain ⟨x5,i,h⟩:=ob h
  refine wa J 5 (eIx J oO0 i ?_)
  obtain ⟨x6,j,h⟩:=ob h
  refine wa J 6 (eIx J (oP (oI .i64) (oI .i64)) j (wa J 7 (eAb 0 rfl ?_)))
  obtain ⟨x7,k,h⟩:=ob h
  refine wa J 1 (eCl (z102_ct N decls_ x6.1 _ k) [] [(0,.sl 0)] (wa J 9 (eAb 1 rfl ?_)))
  obtain ⟨x8,l,h⟩:=ob h
  refine wa J 1 (eCl (z102_ct N decls_ x6.2 _ l) [] [(0,.sl 0)] ?_)
  obtain ⟨x9,m,h⟩:=ob h
  refine wa J 9 (eCa m ?_)
  obtain ⟨o,p,h⟩:=ob h
  refine wa J 1 (eCa p ?_)
  cases h
  exact wr J 2 func47 []
 refine wH J 12 K ?_
 obtain ⟨q,t,h⟩:=ob h
 refine wa J 6 (eIx J oO0 t ?_)
 obtain ⟨u,v,h⟩:=ob h
 refine wa J 4 (eIx J oO1 v ?_)
 obtain ⟨K,h⟩|⟨K,h⟩:=oc' h
 ·refine wH J 12 K ?_
  obtain ⟨K,h⟩|⟨K,h⟩:=oc h
  ·refine wH J 14 K ?_
   obtain ⟨x,y,h⟩:=ob h
   refine wa J 6 (eCl (z103_ct N decls_ u.X _ y) [] [(0,.sl 0)] ?_)
   obtain ⟨z,A,h⟩:=ob h
   refine eCa A ?_
   obtain ⟨D,G,h⟩:=ob h
   refine wa J 2 (eCl (z90_ct N u.C _ G) [] [] ?_)
   obtain ⟨H,R,h⟩:=ob h
   refine eCa R (wa J 1 (eEnd ?_))
   cases h
   exact eRet J func47 []
  refine wH J 14 K ?_
  obtain ⟨K,h⟩|⟨K,h⟩:=oc h
  ·refine wH J 8 K ?_
   obtain ⟨T,U,h⟩:=ob h
   refine wa J 6 (eCl (z103_ct N decls_ u.Y _ U) [] [(0,.sl 0)] ?_)
   obtain ⟨Z,a0,h⟩:=ob h
   refine eCa a0 ?_
   obtain ⟨b0,c0,h⟩:=ob h
   refine wa J 3 (eCl (z90_ct N (w64 (0-u.C)) _ c0) [] [] ?_)
   obtain ⟨d0,e0,h⟩:=ob h
   refine eCa e0 (wa J 1 (eEnd ?_))
   cases h
   exact eRet J func47 []
  refine wH J 8 K ?_
  obtain ⟨f0,g0,h⟩:=ob h
  refine wa J 8 (eCl (z103_ct N decls_ u.X _ g0) [] [(0,.sl 0)] ?_)
  obtain ⟨i0,j0,h⟩:=ob h
  refine eCa j0 ?_
  obtain ⟨k0,l0,h⟩:=ob h
  refine wa J 3 (eCl (z103_ct N decls_ u.Y _ l0) [] [(0,.sl 0)] ?_)
  obtain ⟨m0,o0,h⟩:=ob h
  refine eCa o0 (wa J 1 (eEnd ?_))
  obtain ⟨K,h⟩|⟨K,h⟩:=oc h
  ·refine wH J 9 K ?_
   obtain ⟨p0,q0,h⟩:=ob h
   refine wa J 4 (eCa q0 ?_)
   obtain ⟨s0,t0,h⟩:=ob h
   refine wa J 2 (eCl (z90_ct N u.C _ t0) [] [] ?_)
   obtain ⟨u0,v0,h⟩:=ob h
   refine eCa v0 ?_
   cases h
   exact wr J 2 func47 []
  refine wH J 9 K ?_
  obtain ⟨K,h⟩|⟨K,h⟩:=oc' h
  ·refine wH J 8 K ?_
   cases h
   exact wr J 8 func47 []
  refine wH J 8 K ?_
  obtain ⟨x0,y0,h⟩:=ob h
  refine wa J 4 (eCa y0 ?_)
  obtain ⟨z0,A0,h⟩:=ob h
  refine wa J 3 (eCl (z90_ct N (w64 (0-u.C)) _ A0) [] [] ?_)
  obtain ⟨B0,C0,h⟩:=ob h
  refine eCa C0 ?_
  cases h
  exact wr J 2 func47 []
 refine wH J 12 K ?_
 obtain ⟨K,h⟩|⟨K,h⟩:=oc h
 ·refine wH J 6 K ?_
  obtain ⟨D0,G0,h⟩:=ob h
  refine wa J 5 (eCl (z90_ct N u.C _ G0) [] [] ?_)
  obtain ⟨H0,I0,h⟩:=ob h
  refine eCa I0 ?_
  cases h
  exact wr J 2 func47 []
 refine wH J 6 K ?_
 obtain ⟨K,h⟩|⟨K,h⟩:=oc h
 ·refine wH J 8 K ?_
  obtain ⟨L0,M0,h⟩:=ob h
  refine wa J 6 (eCl (z103_ct N decls_ u.X _ M0) [] [(0,.sl 0)] ?_)
  obtain ⟨O0,R0,h⟩:=ob h
  refine eCa R0 ?_
  obtain ⟨S0,T0,h⟩:=ob h
  refine wa J 2 (eCl (z90_ct N u.C _ T0) [] [] ?_)
  obtain ⟨U0,V0,h⟩:=ob h
  refine eCa V0 (wa J 1 (eEnd ?_))
  cases h
  exact eRet J func47 []
 refine wH J 8 K ?_
 obtain ⟨K,h⟩|⟨K,h⟩:=oc h
 ·refine wH J 8 K ?_
  obtain ⟨X0,Y0,h⟩:=ob h
  refine wa J 6 (eCl (z103_ct N decls_ u.Y _ Y0) [] [(0,.sl 0)] ?_)
  obtain ⟨Z0,a1,h⟩:=ob h
  refine eCa a1 ?_
  obtain ⟨b1,c1,h⟩:=ob h
  refine wa J 3 (eCl (z90_ct N (w64 (0-u.C)) _ c1) [] [] ?_)
  obtain ⟨d1,e1,h⟩:=ob h
  refine eCa e1 (wa J 1 (eEnd ?_))
  cases h
  exact eRet J func47 []
 refine wH J 8 K ?_
 obtain ⟨f1,g1,h⟩:=ob h
 refine wa J 8 (eCl (z103_ct N decls_ u.X _ g1) [] [(0,.sl 0)] ?_)
 obtain ⟨i1,j1,h⟩:=ob h
 refine eCa j1 ?_
 obtain ⟨k1,l1,h⟩:=ob h
 refine wa J 3 (eCl (z103_ct N decls_ u.Y _ l1) [] [(0,.sl 0)] ?_)
 obtain ⟨m1,o1,h⟩:=ob h
 refine eCa o1 (wa J 1 (eEnd ?_))
 obtain ⟨K,h⟩|⟨K,h⟩:=oc h
 ·refine wH J 9 K ?_
  obtain ⟨p1,q1,h⟩:=ob h
  refine wa J 4 (eCa q1 ?_)
  obtain ⟨s1,t1,h⟩:=ob h
  refine wa J 2 (eCl (z90_ct N u.C _ t1) [] [] ?_)
  obtain ⟨u1,v1,h⟩:=ob h
  refine eCa v1 ?_
  cases h
  exact wr J 2 func47 []
 refine wH J 9 K ?_
 obtain ⟨K,h⟩|⟨K,h⟩:=oc' h
 ·refine wH J 8 K ?_
  cases h
  exact wr J 8 func47 []
 refine wH J 8 K ?_
 obtain ⟨y1,z1,h⟩:=ob h
 refine wa J 4 (eCa z1 ?_)
 obtain ⟨A1,B1,h⟩:=ob h
 refine wa J 3 (eCl (z90_ct N (w64 (0-u.C)) _ B1) [] [] ?_)
 obtain ⟨C1,D1,h⟩:=ob h
 refine eCa D1 ?_
 cases h
 exact wr J 2 func47 []
theorem z42_ct (N:Nat) (g_:T5) (m_:T8) (history_:(List T3)) (r:ByteArray × Int) (h:z42 N g_ m_ history_=some r) :
 Fn Tryz.prog 42 ⟨8,[.a (cC5 0 1 2 3 g_),.a (cC8 4 5 6 m_),.S 7],((0,.sl rS g_.Roles)::(1,.sl rR0 g_.Decls)::(2,.sl rR2 g_.Edges)::(3,.sl rR11 g_.Timeouts)::vV8 4 5 6 m_ [(7,.sl rR3 history_)]),[],8,.t [.inl (.s r.1),.inl (.I r.2)],[],[]⟩:=by
 refine eFn func42 rfl (fun E F w=>?_)
 unfold z42 at h
 obtain ⟨x1,c,h⟩:=ob h
 refine wa J 12 (eCl (z40_ct N g_ m_ history_ _ c) [] [(0,.sl 0),(1,.sl 1),(2,.sl 2),(3,.sl 3),(4,.sl 4),(5,.sl 5),(6,.sl 6),(7,.sl 7)] ?_)
 obtain ⟨K,h⟩|⟨K,h⟩:=oc h
 ·refine wH J 15 K ?_
  cases h
  exact wr J 7 func42 []
 refine wH J 15 K ?_
 obtain ⟨x2,d,h⟩:=ob h
 refine wa J 7 (eIx J oO3 d ?_)
 obtain ⟨x3,e,h⟩:=ob h
 refine wa J 8 (eCl (z45_ct N g_ x2 _ e) [] [(0,.sl 0),(1,.sl 1),(2,.sl 2),(3,.sl 3),(4,.sl 12)] ?_)
 obtain ⟨x4,f,h⟩:=ob h
 refine eCa f ?_
 obtain ⟨K,h⟩|⟨K,h⟩:=oc h
 ·refine wH J 14 K ?_
  obtain ⟨x5,g,h⟩:=ob h
  refine wa J 4 (eCa g ?_)
  obtain ⟨x6,i,h⟩:=ob h
  refine wa J 3 (eCl (z89_ct N g_ m_.Role _ i) [] [(0,.sl 0),(1,.sl 1),(2,.sl 2),(3,.sl 3)] ?_)
  obtain ⟨x7,j,h⟩:=ob h
  refine eCa j ?_
  cases h
  exact wr J 3 func42 []
 refine wH J 14 K ?_
 obtain ⟨K,h⟩|⟨K,h⟩:=oc h
 ·refine wH J 6 K ?_
  obtain ⟨x8,k,h⟩:=ob h
  refine wa J 4 (eCa k ?_)
  cases h
  exact wr J 3 func42 []
 refine wH J 6 K ?_
 obtain ⟨K,h⟩|⟨K,h⟩:=oc h
 ·refine wH J 6 K ?_
  obtain ⟨x9,l,h⟩:=ob h
  refine wa J 4 (eCa l ?_)
  obtain ⟨m,o,h⟩:=ob h
  refine wa J 3 (eCl (z90_ct N (x2.Values.length:Int) _ o) [] [] ?_)
  obtain ⟨p,q,h⟩:=ob h
  refine eCa q ?_
  obtain ⟨u,v,h⟩:=ob h
  refine eCa v ?_
  obtain ⟨x,y,h⟩:=ob h
  refine wa J 4 (eIx J oO0 y ?_)
  obtain ⟨z,A,h⟩:=ob h
  refine wa J 3 (eCl (z90_ct N (x.Fields.length:Int) _ A) [] [] ?_)
  obtain ⟨C,D,h⟩:=ob h
  refine eCa D (wa J 2 (eEnd ?_))
  cases h
  exact eRet J func42 []
 refine wH J 6 K ?_
 obtain ⟨K,h⟩|⟨K,h⟩:=oc' h
 ·refine wH J 6 K ?_
  obtain ⟨K,h⟩|⟨K,h⟩:=oc' h
  ·refine wH J 6 K ?_
   obtain ⟨G,H,h⟩:=ob h
   refine wa J 6 (eCa H ?_)
   cases h
   exact wr J 3 func42 []
  refine wH J 6 K ?_
  obtain ⟨R,T,h⟩:=ob h
  refine wa J 4 (eCa T ?_)
  obtain ⟨U,X,h⟩:=ob h
  refine wa J 6 (eCl (z47_ct N g_.Decls x2.Label x1.1.Part _ X) [] [(0,.sl 1)] ?_)
  obtain ⟨Y,Z,h⟩:=ob h
  refine eCa Z ?_
  cases h
  exact wr J 3 func42 []
 refine wH J 6 K ?_
 obtain ⟨a0,b0,h⟩:=ob h
 refine wa J 7 (eIx J oO0 b0 ?_)
 obtain ⟨c0,d0,h⟩:=ob h
 refine wa J 4 (eIx J oO4 d0 (wa J 3 (eEnd ?_)))
 obtain ⟨e0,f0,h⟩:=ob h
 refine wa J 3 (eCa f0 ?_)
 obtain ⟨g0,i0,h⟩:=ob h
 refine wa J 4 (eIx J oO12 i0 ?_)
 obtain ⟨j0,k0,h⟩:=ob h
 refine wa J 1 (eCl (z91_ct N g0 _ k0) [] [] ?_)
 obtain ⟨l0,m0,h⟩:=ob h
 refine eCa m0 ?_
 obtain ⟨o0,p0,h⟩:=ob h
 refine eCa p0 ?_
 obtain ⟨q0,s0,h⟩:=ob h
 refine wa J 2 (eCa s0 ?_)
 obtain ⟨t0,u0,h⟩:=ob h
 refine eCa u0 ?_
 obtain ⟨v0,x0,h⟩:=ob h
 refine wa J 3 (eCl (z90_ct N c0.Sort'.Lo _ x0) [] [] ?_)
 obtain ⟨y0,z0,h⟩:=ob h
 refine eCa z0 ?_
 obtain ⟨A0,B0,h⟩:=ob h
 refine eCa B0 ?_
 obtain ⟨C0,D0,h⟩:=ob h
 refine wa J 3 (eCl (z90_ct N c0.Sort'.Hi _ D0) [] [] ?_)
 obtain ⟨G0,H0,h⟩:=ob h
 refine eCa H0 (wa J 2 (eEnd ?_))
 cases h
 exact eRet J func42 []
theorem law41_BlameFind_ct (N:Nat) (g_:T5) (m_:T8) (l_:(List T3)) (r:Bool) (h:law41_BlameFind N g_ m_ l_=some r) :
 Fn Tryz.prog 8 ⟨9,[.a (cC5 0 1 2 3 g_),.a (cC8 4 5 6 m_),.S 7],((0,.sl rS g_.Roles)::(1,.sl rR0 g_.Decls)::(2,.sl rR2 g_.Edges)::(3,.sl rR11 g_.Timeouts)::vV8 4 5 6 m_ [(7,.sl rR3 l_)]),[(8,.abs powT)],9,.O r,[],[(8,.abs powT)]⟩:=by
 refine eFn func8 rfl (fun E F w=>?_)
 unfold law41_BlameFind at h
 obtain ⟨x1,c,h⟩:=ob h
 refine wa J 9 (eCl (z37_ct N _ c) [] [(0,.sl 8)] ?_)
 obtain ⟨K,h⟩|⟨K,h⟩:=oc h
 ·refine wH J 2 K ?_
  cases h
  exact wr J 5 func8 []
 refine wH J 2 K ?_
 obtain ⟨x2,d,h⟩:=ob h
 refine wa J 8 (eCl (z38_ct N g_ m_ l_ _ d) [] [(0,.sl 0),(1,.sl 1),(2,.sl 2),(3,.sl 3),(4,.sl 4),(5,.sl 5),(6,.sl 6),(7,.sl 7)] ?_)
 obtain ⟨K,h⟩|⟨K,h⟩:=oc h
 ·refine wH J 2 K ?_
  cases h
  exact wr J 5 func8 []
 refine wH J 2 K ?_
 obtain ⟨x3,e,h⟩:=ob h
 refine wa J 7 (eCl (z39_ct N g_ m_ l_ _ e) [] [(0,.sl 0),(1,.sl 1),(2,.sl 2),(3,.sl 3),(4,.sl 4),(5,.sl 5),(6,.sl 6),(7,.sl 7)] ?_)
 obtain ⟨x4,f,h⟩:=ob h
 refine wa J 14 (eCl (z40_ct N g_ m_ l_ _ f) [] [(0,.sl 0),(1,.sl 1),(2,.sl 2),(3,.sl 3),(4,.sl 4),(5,.sl 5),(6,.sl 6),(7,.sl 7)] ?_)
 obtain ⟨x5,g,h⟩:=ob h
 refine wa J 14 (eCl (z41_ct N g_ m_ l_ _ g) [] [(0,.sl 0),(1,.sl 1),(2,.sl 2),(3,.sl 3),(4,.sl 4),(5,.sl 5),(6,.sl 6),(7,.sl 7),(8,.sl 8)] ?_)
 obtain ⟨x6,i,h⟩:=ob h
 refine wa J 11 (eCl (z42_ct N g_ m_ l_ _ i) [] [(0,.sl 0),(1,.sl 1),(2,.sl 2),(3,.sl 3),(4,.sl 4),(5,.sl 5),(6,.sl 6),(7,.sl 7)] (wa J 10 (eEq ?_)))
 obtain ⟨K,h⟩|⟨K,h⟩:=oc' h
 ·refine wH J 1 K ?_
  cases h
  exact wr J 21 func8 []
 refine wH J 1 K ?_
 obtain ⟨K,h⟩|⟨K,h⟩:=oc' h
 ·refine wH J 5 K ?_
  cases h
  exact wr J 16 func8 []
 refine wH J 5 K ?_
 obtain ⟨K,h⟩|⟨K,h⟩:=oc' h
 ·refine wH J 5 K ?_
  cases h
  exact wr J 11 func8 []
 refine wH J 5 K ?_
 obtain ⟨K,h⟩|⟨K,h⟩:=oc h
 ·refine wH J 5 K ?_
  cases h
  exact wr J 6 func8 []
 refine wH J 5 K ?_
 cases h
 exact wr J 6 func8 []
end Gx
end
