/- Each function of the statement computes what its plain definition says, part 2. -/
import Derived.Test.YtdomlpmomldmhaaGreatDoorMonitorStepWalk1
set_option linter.all false
section
set_option maxRecDepth 10000
set_option maxHeartbeats 4000000
open Go Go.Kx Go.Proofs Tryz
namespace Gx
theorem z116_ct (N:Nat) (g_:T5) (r:Bool) (h:z116 N g_=some r) :
 Fn Tryz.prog 116 ⟨4,[.a (cC5 0 1 2 3 g_)],(vV5 0 1 2 3 g_ []),[],4,.O r,[],[]⟩:=by
 refine eFn func116 rfl (fun E F w=>?_)
 unfold z116 at h
 refine wa J 10 (eCut (σ:=Unit) (fun st=>(zz1 g_ [(1,.B 4 0)])) (fun st=>z116_k1 N g_=some r) ?_ (fun j1=>?_))
 ·intro _ h
  replace h:z116_k1 N g_=some r:=h
  unfold z116_k1 at h
  obtain ⟨K,h⟩|⟨K,h⟩:=oc' h
  ·refine wH J 6 K ?_
   cases h
   exact wr J 24 func116 []
  refine wH J 6 K ?_
  obtain ⟨K,h⟩|⟨K,h⟩:=oc' h
  ·refine wH J 5 K ?_
   cases h
   exact wr J 19 func116 []
  refine wH J 5 K ?_
  obtain ⟨c,d,h⟩:=ob h
  refine wa J 3 (eCl (z179_ct N g_ g_.Start _ d) [] [(0,.sl 0),(1,.sl 1),(2,.sl 2),(3,.sl 3)] ?_)
  obtain ⟨K,h⟩|⟨K,h⟩:=oc' h
  ·refine wH J 2 K ?_
   cases h
   exact wr J 13 func116 []
  refine wH J 2 K ?_
  obtain ⟨e,f,h⟩:=ob h
  refine wa J 3 (eCl (z179_ct N g_ g_.End _ f) [] [(0,.sl 0),(1,.sl 1),(2,.sl 2),(3,.sl 3)] ?_)
  obtain ⟨K,h⟩|⟨K,h⟩:=oc h
  ·refine wH J 2 K ?_
   cases h
   exact wr J 7 func116 []
  refine wH J 2 K ?_
  cases h
  exact wr J 7 func116 []
 refine wa J 1 (eLoop (σ:=Int) (fun st=>(zz1 g_ [(1,.B 4 0),(3,.I st)])) (fun n st=>z116_l2 N g_ n st) (r:=r) (fun _=>rfl) ?_ (fun ih=>?_))
 ·intro n2 ih3
  intro g h
  replace h:z116_l2 N g_ (n2+1) g=some r:=h
  unfold z116_l2 at h
  obtain ⟨K,h⟩|⟨K,h⟩:=oc' h
  ·exact wH J 9 K (wa J 2 (eSub [] (j1 () h)))
  refine wH J 9 K ?_
  obtain ⟨i,j,h⟩:=ob h
  refine wa J 9 (eIx J oO2 j ?_)
  obtain ⟨k,l,h⟩:=ob h
  refine wa J 9 (eCl (z179_ct N g_ i.From _ l) [] [(0,.sl 0),(1,.sl 1),(2,.sl 2),(3,.sl 3)] ?_)
  obtain ⟨K,h⟩|⟨K,h⟩:=oc h
  ·refine wH J 2 K ?_
   cases h
   exact wr J 66 func116 []
  refine wH J 2 K ?_
  obtain ⟨m,o,h⟩:=ob h
  refine wa J 3 (eCl (z179_ct N g_ i.To _ o) [] [(0,.sl 0),(1,.sl 1),(2,.sl 2),(3,.sl 3)] ?_)
  obtain ⟨K,h⟩|⟨K,h⟩:=oc h
  ·refine wH J 3 K ?_
   cases h
   exact wr J 59 func116 []
  refine wH J 3 K ?_
  obtain ⟨K,h⟩|⟨K,h⟩:=oc h
  ·refine wH J 6 K ?_
   cases h
   exact wr J 53 func116 []
  refine wH J 6 K ?_
  obtain ⟨K,h⟩|⟨K,h⟩:=oc h
  ·refine wH J 9 K ?_
   cases h
   exact wr J 44 func116 []
  refine wH J 9 K ?_
  obtain ⟨K,h⟩|⟨K,h⟩:=oc h
  ·refine wH J 6 K ?_
   cases h
   exact wr J 38 func116 []
  refine wH J 6 K ?_
  obtain ⟨K,h⟩|⟨K,h⟩:=oc h
  ·refine wH J 9 K ?_
   cases h
   exact wr J 29 func116 []
  refine wH J 9 K ?_
  obtain ⟨K,h⟩|⟨K,h⟩:=oc h
  ·refine wH J 9 K ?_
   cases h
   exact wr J 20 func116 []
  refine wH J 9 K ?_
  obtain ⟨K,h⟩|⟨K,h⟩:=oc h
  ·refine wH J 6 K ?_
   cases h
   exact wr J 14 func116 []
  refine wH J 6 K ?_
  obtain ⟨K,h⟩|⟨K,h⟩:=oc h
  ·refine wH J 9 K ?_
   cases h
   exact wr J 5 func116 []
  exact wH J 9 K (wa J 8 (eSub [] (ih3 (w64 (g+1)) h)))
 exact eSub [] (ih N 0 h)
theorem z117_ct (N:Nat) (g_:T5) (r:Bool) (h:z117 N g_=some r) :
 Fn Tryz.prog 117 ⟨4,[.a (cC5 0 1 2 3 g_)],(vV5 0 1 2 3 g_ []),[],4,.O r,[],[]⟩:=by
 refine eFn func117 rfl (fun E F w=>?_)
 unfold z117 at h
 refine wa J 10 (eCut (σ:=Unit) (fun st=>(zz5 g_ [])) (fun st=>z117_k1=some r) ?_ (fun j1=>?_))
 ·intro _ h
  replace h:z117_k1=some r:=h
  unfold z117_k1 at h
  cases h
  exact wr J 4 func117 []
 refine wa J 1 (eLoop (σ:=Int) (fun st=>(zz1 g_ [(1,.B 4 0),(3,.I st)])) (fun n st=>z117_l2 N g_ n st) (r:=r) (fun _=>rfl) ?_ (fun ih=>?_))
 ·intro n12 ih33
  intro c h
  replace h:z117_l2 N g_ (n12+1) c=some r:=h
  unfold z117_l2 at h
  obtain ⟨K,h⟩|⟨K,h⟩:=oc' h
  ·exact wH J 9 K (wa J 2 (eSub [] (j1 () h)))
  refine wH J 9 K ?_
  obtain ⟨d,e,h⟩:=ob h
  refine wa J 9 (eIx J oO2 e ?_)
  refine wa J 10 (eCut (σ:=Bool) (fun st=>(zz12 g_ d [(1,.B 4 0),(3,.I c),(4,.B 6 0),(27,.O st)])) (fun st=>z117_k6 N g_ c (z117_l2 N g_ n12) d st=some r) ?_ (fun j54=>?_))
  ·intro f h
   replace h:z117_k6 N g_ c (z117_l2 N g_ n12) d f=some r:=h
   unfold z117_k6 at h
   obtain ⟨K,h⟩|⟨K,h⟩:=oc h
   ·refine eK K ?_
    cases h
    exact wr J 5 func117 []
   refine eK K (wa J 6 (eCut (σ:=Unit) (fun st=>⟨[(1,.B 4 0),(3,.I c)],[(4,.box (cC5 0 1 2 3 g_) 27)],(vV5 0 1 2 3 g_ []),7⟩) (fun st=>z117_k3 c (z117_l2 N g_ n12)=some r) ?_ (fun j55=>?_)))
   ·intro _ h
    replace h:z117_k3 c (z117_l2 N g_ n12)=some r:=h
    unfold z117_k3 at h
    exact wa J 6 (eSub [] (ih33 (w64 (c+1)) h))
   refine wa J 1 (eLoop (σ:=Int) (fun st=>(zz12 g_ d [(1,.B 4 0),(3,.I c),(4,.B 6 0),(5,.I st)])) (fun n st=>z117_l4 g_ c (z117_l2 N g_ n12) d n st) (r:=r) (fun _=>rfl) ?_ (fun ih=>?_))
   ·intro n14 ih60
    intro g h
    replace h:z117_l4 g_ c (z117_l2 N g_ n12) d (n14+1) g=some r:=h
    unfold z117_l4 at h
    obtain ⟨K,h⟩|⟨K,h⟩:=oc' h
    ·exact wH J 9 K (wa J 2 (eSub [] (j55 () h)))
    refine wH J 9 K ?_
    obtain ⟨i,j,h⟩:=ob h
    refine wa J 9 (eIx J oO2 j ?_)
    refine wa J 11 (eCut (σ:=Bool) (fun st=>(zz25 g_ d i [(1,.B 4 0),(3,.I c),(4,.B 6 0),(5,.I g),(6,.B 8 0),(69,.O st)])) (fun st=>z117_k5 d g (z117_l4 g_ c (z117_l2 N g_ n12) d n14) i st=some r) ?_ (fun j63=>?_))
    ·intro k h
     replace h:z117_k5 d g (z117_l4 g_ c (z117_l2 N g_ n12) d n14) i k=some r:=h
     unfold z117_k5 at h
     obtain ⟨K,h⟩|⟨K,h⟩:=oc h
     ·refine eK K ?_
      cases h
      exact wr J 5 func117 []
     refine eK K ?_
     obtain ⟨K,h⟩|⟨K,h⟩:=oc' h
     ·exact wH J 7 K (wa J 33 (eSub [] (ih60 (w64 (g+1)) h)))
     refine wH J 7 K ?_
     obtain ⟨K,h⟩|⟨K,h⟩:=oc' h
     ·exact wH J 7 K (wa J 26 (eSub [] (ih60 (w64 (g+1)) h)))
     refine wH J 7 K ?_
     obtain ⟨K,h⟩|⟨K,h⟩:=oc h
     ·refine wH J 8 K ?_
      cases h
      exact wr J 15 func117 []
     refine wH J 8 K ?_
     obtain ⟨K,h⟩|⟨K,h⟩:=oc h
     ·refine wH J 10 K ?_
      cases h
      exact wr J 5 func117 []
     exact wH J 10 K (wa J 8 (eSub [] (ih60 (w64 (g+1)) h)))
    obtain ⟨K,h⟩|⟨K,h⟩:=oc' h
    ·exact eK K (wa J 27 (eSub [] (j63 false h)))
    refine eK K ?_
    obtain ⟨K,h⟩|⟨K,h⟩:=oc' h
    ·exact wH J 7 K (wa J 20 (eSub [] (j63 false h)))
    refine wH J 7 K (wa J 4 (eEq ?_))
    obtain ⟨K,h⟩|⟨K,h⟩:=oc h
    ·exact wH J 1 K (wa J 14 (eSub [] (j63 true h)))
    refine wH J 1 K ?_
    obtain ⟨K,h⟩|⟨K,h⟩:=oc h
    ·exact wH J 9 K (wa J 5 (eSub [] (j63 true h)))
    exact wH J 9 K (wa J 5 (eSub [] (j63 d.Again h)))
   exact eSub [] (ih N 0 h)
  obtain ⟨K,h⟩|⟨K,h⟩:=oc h
  ·exact eK K (wa J 7 (eSub [] (j54 (d.From==g_.Start) h)))
  exact eK K (wa J 7 (eSub [] (j54 false h)))
 exact eSub [] (ih N 0 h)
theorem z180_ct (N:Nat) (g_:T5) (r:(List Int)) (h:z180 N g_=some r) :
 Fn Tryz.prog 180 ⟨4,[.a (cC5 0 1 2 3 g_)],(vV5 0 1 2 3 g_ []),[],5,.S 4,[],[(4,.own (rI .i64) r true)]⟩:=by
 refine eFn func180 rfl (fun E F w=>?_)
 unfold z180 at h
 obtain ⟨x1,c,h⟩:=ob h
 refine wa J 9 (eMk J (oI .i64) c (wa J 7 (eCut (σ:=(List Int)) (fun st=>(zz21 g_ st [(1,.B 4 0),(3,.S 5)])) (fun st=>z180_k5 N g_ st=some r) ?_ (fun j1=>?_))))
 ·intro d h
  replace h:z180_k5 N g_ d=some r:=h
  unfold z180_k5 at h
  obtain ⟨x6,e,h⟩:=ob h
  refine wa J 5 (eIo J (rI .i64) e (eSt J [] (oI .i64) 0 e (wa J 6 (eCut (σ:=(List Int)) (fun st=>⟨[(3,.S 5)],[(5,.own (rI .i64) st true)],(vV5 0 1 2 3 g_ []),7⟩) (fun st=>z180_k1 st=some r) ?_ (fun j3=>?_)))))
  ·intro f h
   replace h:z180_k1 f=some r:=h
   unfold z180_k1 at h
   cases h
   exact wr J 5 func180 [(4,.sl 5)]
  refine wa J 1 (eLoop (σ:=(List Int) × Int) (fun st=>(zz10 g_ st.1 [(1,.B 4 0),(3,.S 5),(5,.I st.2)])) (fun n st=>z180_l2 N g_ n st.1 st.2) (r:=r) (fun _=>rfl) ?_ (fun ih=>?_))
  ·intro n13 ih14
   rintro ⟨g,i⟩ h
   replace h:z180_l2 N g_ (n13+1) g i=some r:=h
   unfold z180_l2 at h
   obtain ⟨K,h⟩|⟨K,h⟩:=oc' h
   ·exact wH J 8 K (wa J 2 (eSub [] (j3 g h)))
   refine wH J 8 K (wa J 8 (eCut (σ:=(List Int)) (fun st=>(zz10 g_ st [(1,.B 4 0),(3,.S 5),(5,.I i)])) (fun st=>z180_k3 i (z180_l2 N g_ n13) st=some r) ?_ (fun j21=>?_)))
   ·intro j h
    replace h:z180_k3 i (z180_l2 N g_ n13) j=some r:=h
    unfold z180_k3 at h
    exact wa J 6 (eSub [] (ih14 (j,(w64 (i+1))) h))
   refine wa J 1 (eLoop (σ:=(List Int) × Int) (fun st=>(zz10 g_ st.1 [(1,.B 4 0),(3,.S 5),(5,.I i),(6,.I st.2)])) (fun n st=>z180_l4 g_ i (z180_l2 N g_ n13) n st.1 st.2) (r:=r) (fun _=>rfl) ?_ (fun ih=>?_))
   ·intro n15 ih23
    rintro ⟨k,l⟩ h
    replace h:z180_l4 g_ i (z180_l2 N g_ n13) (n15+1) k l=some r:=h
    unfold z180_l4 at h
    obtain ⟨K,h⟩|⟨K,h⟩:=oc' h
    ·exact wH J 9 K (wa J 2 (eSub [] (j21 k h)))
    refine wH J 9 K ?_
    obtain ⟨m,o,h⟩:=ob h
    refine wa J 9 (eIx J oO2 o ?_)
    obtain ⟨p,q,h⟩:=ob h
    refine wa J 9 (eIo J (rI .i64) q (eLd J (oI .i64) q ?_))
    obtain ⟨K,h⟩|⟨K,h⟩:=oc' h
    ·exact wH J 3 K (wa J 16 (eSub [] (ih23 (k,(w64 (l+1))) h)))
    refine wH J 3 K ?_
    obtain ⟨s,t,h⟩:=ob h
    refine wa J 3 (eIo J (rI .i64) t (eLd J (oI .i64) t ?_))
    obtain ⟨K,h⟩|⟨K,h⟩:=oc' h
    ·exact wH J 3 K (wa J 8 (eSub [] (ih23 (k,(w64 (l+1))) h)))
    refine wH J 3 K ?_
    obtain ⟨u,v,h⟩:=ob h
    exact wa J 7 (eIo J (rI .i64) v (eSt J [] (oI .i64) (w64 (i+1)) v (wa J 7 (eSub [] (ih23 ((setL' k m.From (w64 (i+1))),(w64 (l+1))) h)))))
   exact eSub [] (ih N (g,0) h)
  exact eSub [] (ih N ((setL' d g_.End 0),0) h)
 refine wa J 1 (eLoop (σ:=(List Int) × Int) (fun st=>(zz21 g_ st.1 [(1,.B 4 0),(3,.S 5),(4,.I st.2)])) (fun n st=>z180_l6 N g_ n st.1 st.2) (r:=r) (fun _=>rfl) ?_ (fun ih=>?_))
 ·intro n16 ih24
  rintro ⟨x,y⟩ h
  replace h:z180_l6 N g_ (n16+1) x y=some r:=h
  unfold z180_l6 at h
  obtain ⟨K,h⟩|⟨K,h⟩:=oc' h
  ·exact wH J 8 K (wa J 2 (eSub [] (j1 x h)))
  refine wH J 8 K ?_
  obtain ⟨z,A,h⟩:=ob h
  exact wa J 7 (eIo J (rI .i64) A (eSt J [] (oI .i64) (-1) A (wa J 7 (eSub [] (ih24 ((setL' x y (-1)),(w64 (y+1))) h)))))
 exact eSub [] (ih N (x1,0) h)
theorem z237_ct (N:Nat) (g_:T5) (i_:Int) (k_:Int) (r:Bool) (h:z237 N g_ i_ k_=some r) :
 Fn Tryz.prog 237 ⟨4,[.a (cC5 0 1 2 3 g_),.I i_,.I k_],(vV5 0 1 2 3 g_ []),[],4,.O r,[],[]⟩:=by
 refine eFn func237 rfl (fun E F w=>?_)
 unfold z237 at h
 obtain ⟨x1,c,h⟩:=ob h
 refine wa J 10 (eIx J oO2 c ?_)
 obtain ⟨x2,d,h⟩:=ob h
 refine wa J 5 (eIx J oO2 d (wa J 6 (eEnd ?_)))
 obtain ⟨K,h⟩|⟨K,h⟩:=oc h
 ·refine wH J 9 K ?_
  cases h
  exact wr J 10 func237 []
 refine wH J 9 K ?_
 obtain ⟨K,h⟩|⟨K,h⟩:=oc h
 ·refine wH J 11 K ?_
  cases h
  exact wr J 10 func237 []
 refine wH J 11 K ?_
 cases h
 exact wr J 9 func237 []
theorem z181_ct (N:Nat) (g_:T5) (s_:Int) (r:(List Int)) (h:z181 N g_ s_=some r) :
 Fn Tryz.prog 181 ⟨4,[.a (cC5 0 1 2 3 g_),.I s_],(vV5 0 1 2 3 g_ []),[],5,.S 4,[],[(4,.own (rI .i64) r true)]⟩:=by
 refine eFn func181 rfl (fun E F w=>?_)
 unfold z181 at h
 refine wa J 14 (eCut (σ:=(List Int)) (fun st=>⟨[(5,.S 5)],[(5,.own (rI .i64) st true)],(vV5 0 1 2 3 g_ []),6⟩) (fun st=>z181_k1 st=some r) ?_ (fun j1=>?_))
 ·intro c h
  replace h:z181_k1 c=some r:=h
  unfold z181_k1 at h
  cases h
  exact wr J 5 func181 [(4,.sl 5)]
 refine wa J 1 (eLoop (σ:=(List Int) × Int) (fun st=>(zz21 g_ st.1 [(1,.I s_),(2,.B 4 0),(5,.S 5),(6,.I st.2)])) (fun n st=>z181_l2 N g_ s_ n st.1 st.2) (r:=r) (fun _=>rfl) ?_ (fun ih=>?_))
 ·intro n12 ih12
  rintro ⟨d,e⟩ h
  replace h:z181_l2 N g_ s_ (n12+1) d e=some r:=h
  unfold z181_l2 at h
  obtain ⟨K,h⟩|⟨K,h⟩:=oc' h
  ·exact wH J 9 K (wa J 2 (eSub [] (j1 d h)))
  refine wH J 9 K ?_
  obtain ⟨f,g,h⟩:=ob h
  refine wa J 10 (eIx J oO2 g ?_)
  obtain ⟨K,h⟩|⟨K,h⟩:=oc h
  ·exact wH J 5 K (wa J 7 (eSub [] (ih12 (d,(w64 (e+1))) h)))
  refine wH J 5 K (wa J 7 (eCut (σ:=Int) (fun st=>(zz10 g_ d [(1,.I s_),(2,.B 4 0),(5,.S 5),(6,.I e),(7,.I st)])) (fun st=>z181_k3 d e (z181_l2 N g_ s_ n12) st=some r) ?_ (fun j19=>?_)))
  ·intro i h
   replace h:z181_k3 d e (z181_l2 N g_ s_ n12) i=some r:=h
   unfold z181_k3 at h
   obtain ⟨j,k,h⟩:=ob h
   refine wa J 3 (eVw J (rI .i64) k (wa J 1 (eBs J [] (oI .i64) ([e]:List Int) ?_)))
   obtain ⟨l,m,h⟩:=ob h
   refine wa J 2 (eVw J (rI .i64) m ?_)
   obtain ⟨o,p,h⟩:=ob h
   refine eAv J (rI .i64) m p ?_
   obtain ⟨q,s,h⟩:=ob h
   exact eAz J (rI .i64) k s (wa J 1 (eEnd (wa J 6 (eSub [(5,.sl 11)] (ih12 (q,(w64 (e+1))) h)))))
  refine wa J 1 (eLoop (σ:=Int) (fun st=>(zz10 g_ d [(1,.I s_),(2,.B 4 0),(5,.S 5),(6,.I e),(7,.I st)])) (fun n st=>z181_l4 N g_ d e (z181_l2 N g_ s_ n12) n st) (r:=r) (fun _=>rfl) ?_ (fun ih=>?_))
  ·intro n14 ih21
   intro t h
   replace h:z181_l4 N g_ d e (z181_l2 N g_ s_ n12) (n14+1) t=some r:=h
   unfold z181_l4 at h
   obtain ⟨K,h⟩|⟨K,h⟩:=oc' h
   ·exact wH J 8 K (wa J 8 (eEnd (wa J 2 (eSub [] (j19 t h)))))
   refine wH J 8 K ?_
   obtain ⟨u,v,h⟩:=ob h
   refine wa J 3 (eIo J (rI .i64) v (eLd J (oI .i64) v ?_))
   obtain ⟨x,y,h⟩:=ob h
   refine wa J 1 (eCl (z237_ct N g_ u e _ y) [] [(0,.sl 0),(1,.sl 1),(2,.sl 2),(3,.sl 3)] (wa J 1 (eEnd ?_)))
   obtain ⟨K,h⟩|⟨K,h⟩:=oc h
   ·exact eK K (wa J 9 (eSub [] (ih21 (w64 (t+1)) h)))
   exact eK K (wa J 2 (eSub [] (j19 t h)))
  exact eSub [] (ih N 0 h)
 exact eSub [(5,.nil)] (ih N (([]:List Int),0) h)
theorem z118_ct (N:Nat) (g_:T5) (r:Bool) (h:z118 N g_=some r) :
 Fn Tryz.prog 118 ⟨4,[.a (cC5 0 1 2 3 g_)],(vV5 0 1 2 3 g_ []),[],4,.O r,[],[]⟩:=by
 refine eFn func118 rfl (fun E F w=>?_)
 unfold z118 at h
 obtain ⟨x1,c,h⟩:=ob h
 refine wa J 9 (eMk J oB c ?_)
 obtain ⟨x2,d,h⟩:=ob h
 refine wa J 7 (eIo J rB d (eSt J [] oB true d (wa J 6 (eCut (σ:=(List Bool)) (fun st=>(zz18 g_ st [(1,.B 4 0),(3,.S 5)])) (fun st=>z118_k3 N g_ st=some r) ?_ (fun j1=>?_)))))
 ·intro e h
  replace h:z118_k3 N g_ e=some r:=h
  unfold z118_k3 at h
  obtain ⟨f,g,h⟩:=ob h
  refine wa J 3 (eCl (z180_ct N g_ _ g) [] [(0,.sl 0),(1,.sl 1),(2,.sl 2),(3,.sl 3)] (wa J 7 (eCut (σ:=Unit) (fun st=>⟨[(1,.B 4 0)],[(4,.box (cC5 0 1 2 3 g_) 27)],(vV5 0 1 2 3 g_ []),8⟩) (fun st=>z118_k1 N g_=some r) ?_ (fun j12=>?_))))
  ·intro _ h
   replace h:z118_k1 N g_=some r:=h
   unfold z118_k1 at h
   obtain ⟨i,j,h⟩:=ob h
   refine wa J 5 (eCl (z181_ct N g_ g_.End _ j) [] [(0,.sl 0),(1,.sl 1),(2,.sl 2),(3,.sl 3)] ?_)
   cases h
   exact wr J 4 func118 []
  refine wa J 1 (eLoop (σ:=Int) (fun st=>⟨[(1,.B 4 0),(3,.S 5),(6,.S 7),(7,.I st)],[(4,.box (cC5 0 1 2 3 g_) 27),(5,.own rB e true),(7,.own (rI .i64) f true)],(vV5 0 1 2 3 g_ []),8⟩) (fun n st=>z118_l2 N g_ e f n st) (r:=r) (fun _=>rfl) ?_ (fun ih=>?_))
  ·intro n9 ih14
   intro k h
   replace h:z118_l2 N g_ e f (n9+1) k=some r:=h
   unfold z118_l2 at h
   obtain ⟨K,h⟩|⟨K,h⟩:=oc' h
   ·exact wH J 8 K (wa J 2 (eSub [] (j12 () h)))
   refine wH J 8 K ?_
   obtain ⟨l,m,h⟩:=ob h
   refine wa J 8 (eIo J rB m (eLd J oB m ?_))
   obtain ⟨K,h⟩|⟨K,h⟩:=oc h
   ·refine wH J 2 K ?_
    cases h
    exact wr J 12 func118 []
   refine wH J 2 K ?_
   obtain ⟨o,p,h⟩:=ob h
   refine wa J 2 (eIo J (rI .i64) p (eLd J (oI .i64) p ?_))
   obtain ⟨K,h⟩|⟨K,h⟩:=oc h
   ·refine wH J 3 K ?_
    cases h
    exact wr J 5 func118 []
   exact wH J 3 K (wa J 8 (eSub [] (ih14 (w64 (k+1)) h)))
  exact eSub [] (ih N 0 h)
 refine wa J 1 (eLoop (σ:=(List Bool) × Int) (fun st=>(zz18 g_ st.1 [(1,.B 4 0),(3,.S 5),(4,.I st.2)])) (fun n st=>z118_l4 N g_ n st.1 st.2) (r:=r) (fun _=>rfl) ?_ (fun ih=>?_))
 ·intro n14 ih15
  rintro ⟨q,s⟩ h
  replace h:z118_l4 N g_ (n14+1) q s=some r:=h
  unfold z118_l4 at h
  obtain ⟨K,h⟩|⟨K,h⟩:=oc' h
  ·exact wH J 8 K (wa J 2 (eSub [] (j1 q h)))
  refine wH J 8 K (wa J 8 (eCut (σ:=(List Bool)) (fun st=>(zz18 g_ st [(1,.B 4 0),(3,.S 5),(4,.I s)])) (fun st=>z118_k5 s (z118_l4 N g_ n14) st=some r) ?_ (fun j22=>?_)))
  ·intro t h
   replace h:z118_k5 s (z118_l4 N g_ n14) t=some r:=h
   unfold z118_k5 at h
   exact wa J 6 (eSub [] (ih15 (t,(w64 (s+1))) h))
  refine wa J 1 (eLoop (σ:=(List Bool) × Int) (fun st=>(zz18 g_ st.1 [(1,.B 4 0),(3,.S 5),(4,.I s),(5,.I st.2)])) (fun n st=>z118_l6 g_ s (z118_l4 N g_ n14) n st.1 st.2) (r:=r) (fun _=>rfl) ?_ (fun ih=>?_))
  ·intro n16 ih24
   rintro ⟨u,v⟩ h
   replace h:z118_l6 g_ s (z118_l4 N g_ n14) (n16+1) u v=some r:=h
   unfold z118_l6 at h
   obtain ⟨K,h⟩|⟨K,h⟩:=oc' h
   ·exact wH J 9 K (wa J 2 (eSub [] (j22 u h)))
   refine wH J 9 K ?_
   obtain ⟨x,y,h⟩:=ob h
   refine wa J 9 (eIx J oO2 y ?_)
   obtain ⟨z,A,h⟩:=ob h
   refine wa J 6 (eIx J oO2 A ?_)
   obtain ⟨C,D,h⟩:=ob h
   refine wa J 2 (eIo J rB D (eLd J oB D ?_))
   obtain ⟨K,h⟩|⟨K,h⟩:=oc h
   ·refine wH J 1 K ?_
    obtain ⟨G,H,h⟩:=ob h
    exact wa J 10 (eIo J rB H (eSt J [] oB true H (eEnd (wa J 6 (eSub [] (ih24 ((setL' u x.To true),(w64 (v+1))) h))))))
   refine wH J 1 K ?_
   obtain ⟨R,T,h⟩:=ob h
   refine wa J 4 (eIx J oO2 T ?_)
   obtain ⟨U,X,h⟩:=ob h
   refine wa J 2 (eIo J rB X (eLd J oB X ?_))
   obtain ⟨Y,Z,h⟩:=ob h
   exact wa J 1 (eIo J rB Z (eSt J [] oB U Z (eEnd (wa J 6 (eSub [] (ih24 ((setL' u x.To U),(w64 (v+1))) h))))))
  exact eSub [] (ih N (q,0) h)
 exact eSub [] (ih N ((setL' x1 g_.Start true),0) h)
theorem z119_ct (N:Nat) (g_:T5) (r:Bool) (h:z119 N g_=some r) :
 Fn Tryz.prog 119 ⟨4,[.a (cC5 0 1 2 3 g_)],(vV5 0 1 2 3 g_ []),[],4,.O r,[],[]⟩:=by
 refine eFn func119 rfl (fun E F w=>?_)
 unfold z119 at h
 refine wa J 10 (eCut (σ:=Unit) (fun st=>(zz5 g_ [])) (fun st=>z119_k1=some r) ?_ (fun j1=>?_))
 ·intro _ h
  replace h:z119_k1=some r:=h
  unfold z119_k1 at h
  cases h
  exact wr J 4 func119 []
 refine wa J 1 (eLoop (σ:=Int) (fun st=>(zz1 g_ [(1,.B 4 0),(3,.I st)])) (fun n st=>z119_l2 N g_ n st) (r:=r) (fun _=>rfl) ?_ (fun ih=>?_))
 ·intro n2 ih3
  intro c h
  replace h:z119_l2 N g_ (n2+1) c=some r:=h
  unfold z119_l2 at h
  obtain ⟨K,h⟩|⟨K,h⟩:=oc' h
  ·exact wH J 9 K (wa J 2 (eSub [] (j1 () h)))
  refine wH J 9 K ?_
  obtain ⟨d,e,h⟩:=ob h
  refine wa J 9 (eIx J oO11 e ?_)
  obtain ⟨f,g,h⟩:=ob h
  refine wa J 9 (eCl (z179_ct N g_ d.State _ g) [] [(0,.sl 0),(1,.sl 1),(2,.sl 2),(3,.sl 3)] ?_)
  obtain ⟨K,h⟩|⟨K,h⟩:=oc h
  ·refine wH J 2 K (wa J 59 (eEnd ?_))
   cases h
   exact wr J 5 func119 []
  refine wH J 2 K ?_
  obtain ⟨K,h⟩|⟨K,h⟩:=oc' h
  ·refine wH J 3 K ?_
   obtain ⟨K,h⟩|⟨K,h⟩:=oc h
   ·refine wH J 18 K (wa J 38 (eEnd ?_))
    cases h
    exact wr J 5 func119 []
   refine wH J 18 K ?_
   obtain ⟨K,h⟩|⟨K,h⟩:=oc h
   ·refine wH J 5 K (wa J 33 (eEnd ?_))
    cases h
    exact wr J 5 func119 []
   refine wH J 5 K ?_
   obtain ⟨K,h⟩|⟨K,h⟩:=oc h
   ·refine wH J 5 K (wa J 28 (eEnd ?_))
    cases h
    exact wr J 5 func119 []
   refine wH J 5 K ?_
   obtain ⟨K,h⟩|⟨K,h⟩:=oc h
   ·refine wH J 8 K (wa J 20 (eEnd ?_))
    cases h
    exact wr J 5 func119 []
   refine wH J 8 K ?_
   obtain ⟨i,j,h⟩:=ob h
   refine wa J 4 (eIx J oO2 j ?_)
   obtain ⟨K,h⟩|⟨K,h⟩:=oc h
   ·refine wH J 7 K (wa J 8 (eEnd ?_))
    cases h
    exact wr J 5 func119 []
   refine wH J 7 K ?_
   obtain ⟨k,l,h⟩:=ob h
   refine wa J 4 (eIx J oO2 l (wa J 3 (eEnd ?_)))
   obtain ⟨K,h⟩|⟨K,h⟩:=oc h
   ·refine eK K ?_
    cases h
    exact wr J 5 func119 []
   exact eK K (wa J 8 (eSub [] (ih3 (w64 (c+1)) h)))
  refine wH J 3 K ?_
  obtain ⟨m,o,h⟩:=ob h
  refine wa J 6 (eIx J oO11 o ?_)
  obtain ⟨K,h⟩|⟨K,h⟩:=oc h
  ·refine wH J 6 K (wa J 43 (eEnd ?_))
   cases h
   exact wr J 5 func119 []
  refine wH J 6 K ?_
  obtain ⟨K,h⟩|⟨K,h⟩:=oc h
  ·refine wH J 5 K (wa J 38 (eEnd ?_))
   cases h
   exact wr J 5 func119 []
  refine wH J 5 K ?_
  obtain ⟨K,h⟩|⟨K,h⟩:=oc h
  ·refine wH J 5 K (wa J 33 (eEnd ?_))
   cases h
   exact wr J 5 func119 []
  refine wH J 5 K ?_
  obtain ⟨K,h⟩|⟨K,h⟩:=oc h
  ·refine wH J 5 K (wa J 28 (eEnd ?_))
   cases h
   exact wr J 5 func119 []
  refine wH J 5 K ?_
  obtain ⟨K,h⟩|⟨K,h⟩:=oc h
  ·refine wH J 8 K (wa J 20 (eEnd ?_))
   cases h
   exact wr J 5 func119 []
  refine wH J 8 K ?_
  obtain ⟨p,q,h⟩:=ob h
  refine wa J 4 (eIx J oO2 q ?_)
  obtain ⟨K,h⟩|⟨K,h⟩:=oc h
  ·refine wH J 7 K (wa J 8 (eEnd ?_))
   cases h
   exact wr J 5 func119 []
  refine wH J 7 K ?_
  obtain ⟨s,t,h⟩:=ob h
  refine wa J 4 (eIx J oO2 t (wa J 3 (eEnd ?_)))
  obtain ⟨K,h⟩|⟨K,h⟩:=oc h
  ·refine eK K ?_
   cases h
   exact wr J 5 func119 []
  exact eK K (wa J 8 (eSub [] (ih3 (w64 (c+1)) h)))
 exact eSub [] (ih N 0 h)
theorem z59_ct (N:Nat) (g_:T5) (r:Bool) (h:z59 N g_=some r) :
 Fn Tryz.prog 59 ⟨4,[.a (cC5 0 1 2 3 g_)],(vV5 0 1 2 3 g_ []),[],4,.O r,[],[]⟩:=by
 refine eFn func59 rfl (fun E F w=>?_)
 unfold z59 at h
 obtain ⟨x1,c,h⟩:=ob h
 refine wa J 8 (eCl (z115_ct N g_ _ c) [] [(0,.sl 0),(1,.sl 1),(2,.sl 2),(3,.sl 3)] ?_)
 obtain ⟨K,h⟩|⟨K,h⟩:=oc' h
 ·refine wH J 1 K ?_
  cases h
  exact wr J 17 func59 []
 refine wH J 1 K ?_
 obtain ⟨x2,d,h⟩:=ob h
 refine wa J 1 (eCl (z116_ct N g_ _ d) [] [(0,.sl 0),(1,.sl 1),(2,.sl 2),(3,.sl 3)] ?_)
 obtain ⟨K,h⟩|⟨K,h⟩:=oc' h
 ·refine wH J 2 K ?_
  cases h
  exact wr J 13 func59 []
 refine wH J 2 K ?_
 obtain ⟨x3,e,h⟩:=ob h
 refine wa J 1 (eCl (z117_ct N g_ _ e) [] [(0,.sl 0),(1,.sl 1),(2,.sl 2),(3,.sl 3)] ?_)
 obtain ⟨K,h⟩|⟨K,h⟩:=oc' h
 ·refine wH J 2 K ?_
  cases h
  exact wr J 9 func59 []
 refine wH J 2 K ?_
 obtain ⟨x4,f,h⟩:=ob h
 refine wa J 1 (eCl (z118_ct N g_ _ f) [] [(0,.sl 0),(1,.sl 1),(2,.sl 2),(3,.sl 3)] ?_)
 obtain ⟨K,h⟩|⟨K,h⟩:=oc' h
 ·refine wH J 2 K ?_
  cases h
  exact wr J 5 func59 []
 refine wH J 2 K ?_
 obtain ⟨x5,g,h⟩:=ob h
 refine wa J 1 (eCl (z119_ct N g_ _ g) [] [(0,.sl 0),(1,.sl 1),(2,.sl 2),(3,.sl 3)] ?_)
 cases h
 exact wr J 3 func59 []
theorem z120_ct (N:Nat) (m_:T8) (r:Bool) (h:z120 N m_=some r) :
 Fn Tryz.prog 120 ⟨3,[.a (cC8 0 1 2 m_)],(vV8 0 1 2 m_ []),[],3,.O r,[],[]⟩:=by
 refine eFn func120 rfl (fun E F w=>?_)
 unfold z120 at h
 obtain ⟨K,h⟩|⟨K,h⟩:=oc h
 ·refine wH J 12 K ?_
  cases h
  exact wr J 46 func120 []
 refine wH J 12 K ?_
 obtain ⟨K,h⟩|⟨K,h⟩:=oc h
 ·refine wH J 5 K ?_
  cases h
  exact wr J 41 func120 []
 refine wH J 5 K ?_
 obtain ⟨K,h⟩|⟨K,h⟩:=oc h
 ·refine wH J 5 K ?_
  cases h
  exact wr J 36 func120 []
 refine wH J 5 K ?_
 obtain ⟨K,h⟩|⟨K,h⟩:=oc h
 ·refine wH J 5 K ?_
  cases h
  exact wr J 31 func120 []
 refine wH J 5 K ?_
 obtain ⟨K,h⟩|⟨K,h⟩:=oc h
 ·refine wH J 5 K ?_
  cases h
  exact wr J 26 func120 []
 refine wH J 5 K ?_
 obtain ⟨K,h⟩|⟨K,h⟩:=oc h
 ·refine wH J 7 K ?_
  cases h
  exact wr J 19 func120 []
 refine wH J 7 K ?_
 obtain ⟨K,h⟩|⟨K,h⟩:=oc h
 ·refine wH J 8 K ?_
  cases h
  exact wr J 11 func120 []
 refine wH J 8 K ?_
 obtain ⟨K,h⟩|⟨K,h⟩:=oc h
 ·refine wH J 6 K ?_
  cases h
  exact wr J 5 func120 []
 refine wH J 6 K (wa J 7 (eCut (σ:=Unit) (fun st=>⟨[],[],(vV8 0 1 2 m_ []),4⟩) (fun st=>z120_k1=some r) ?_ (fun j1=>?_)))
 ·intro _ h
  replace h:z120_k1=some r:=h
  unfold z120_k1 at h
  cases h
  exact wr J 4 func120 []
 refine wa J 1 (eLoop (σ:=Int) (fun st=>(zz14 m_ [(1,.B 3 0),(3,.I st)])) (fun n st=>z120_l2 m_ n st) (r:=r) (fun _=>rfl) ?_ (fun ih=>?_))
 ·intro n2 ih3
  intro c h
  replace h:z120_l2 m_ (n2+1) c=some r:=h
  unfold z120_l2 at h
  obtain ⟨K,h⟩|⟨K,h⟩:=oc' h
  ·exact wH J 9 K (wa J 2 (eSub [] (j1 () h)))
  refine wH J 9 K ?_
  obtain ⟨x9,d,h⟩:=ob h
  refine wa J 9 (eIx J oO9 d ?_)
  obtain ⟨K,h⟩|⟨K,h⟩:=oc h
  ·refine wH J 10 K ?_
   cases h
   exact wr J 51 func120 []
  refine wH J 10 K ?_
  obtain ⟨K,h⟩|⟨K,h⟩:=oc h
  ·refine wH J 7 K ?_
   cases h
   exact wr J 44 func120 []
  refine wH J 7 K ?_
  obtain ⟨K,h⟩|⟨K,h⟩:=oc h
  ·refine wH J 5 K ?_
   cases h
   exact wr J 39 func120 []
  refine wH J 5 K ?_
  obtain ⟨K,h⟩|⟨K,h⟩:=oc h
  ·refine wH J 7 K ?_
   cases h
   exact wr J 32 func120 []
  refine wH J 7 K ?_
  obtain ⟨K,h⟩|⟨K,h⟩:=oc h
  ·refine wH J 5 K ?_
   cases h
   exact wr J 27 func120 []
  refine wH J 5 K ?_
  obtain ⟨K,h⟩|⟨K,h⟩:=oc h
  ·refine wH J 5 K ?_
   cases h
   exact wr J 22 func120 []
  refine wH J 5 K ?_
  obtain ⟨K,h⟩|⟨K,h⟩:=oc h
  ·refine wH J 7 K ?_
   cases h
   exact wr J 15 func120 []
  refine wH J 7 K ?_
  obtain ⟨K,h⟩|⟨K,h⟩:=oc h
  ·refine wH J 5 K ?_
   cases h
   exact wr J 10 func120 []
  refine wH J 5 K ?_
  obtain ⟨K,h⟩|⟨K,h⟩:=oc h
  ·refine wH J 5 K ?_
   cases h
   exact wr J 5 func120 []
  exact wH J 5 K (wa J 8 (eSub [] (ih3 (w64 (c+1)) h)))
 exact eSub [] (ih N 0 h)
theorem z121_ct (N:Nat) (m_:T8) (r:Bool) (h:z121 N m_=some r) :
 Fn Tryz.prog 121 ⟨3,[.a (cC8 0 1 2 m_)],(vV8 0 1 2 m_ []),[],3,.O r,[],[]⟩:=by
 refine eFn func121 rfl (fun E F w=>?_)
 unfold z121 at h
 refine wa J 10 (eCut (σ:=Unit) (fun st=>⟨[],[],(vV8 0 1 2 m_ []),4⟩) (fun st=>z121_k1=some r) ?_ (fun j1=>?_))
 ·intro _ h
  replace h:z121_k1=some r:=h
  unfold z121_k1 at h
  cases h
  exact wr J 4 func121 []
 refine wa J 1 (eLoop (σ:=Int) (fun st=>(zz14 m_ [(1,.B 3 0),(3,.I st)])) (fun n st=>z121_l2 N m_ n st) (r:=r) (fun _=>rfl) ?_ (fun ih=>?_))
 ·intro n12 ih33
  intro c h
  replace h:z121_l2 N m_ (n12+1) c=some r:=h
  unfold z121_l2 at h
  obtain ⟨K,h⟩|⟨K,h⟩:=oc' h
  ·exact wH J 9 K (wa J 2 (eSub [] (j1 () h)))
  refine wH J 9 K ?_
  obtain ⟨d,e,h⟩:=ob h
  refine wa J 9 (eIx J oO9 e ?_)
  refine wa J 10 (eCut (σ:=Bool) (fun st=>⟨[(1,.B 3 0),(3,.I c),(4,.B 5 0),(40,.O st)],[(3,.box (cC8 0 1 2 m_) 31),(5,.box (cC9 d) 93)],(vV8 0 1 2 m_ []),6⟩) (fun st=>z121_k6 N m_ c (z121_l2 N m_ n12) d st=some r) ?_ (fun j54=>?_))
  ·intro f h
   replace h:z121_k6 N m_ c (z121_l2 N m_ n12) d f=some r:=h
   unfold z121_k6 at h
   obtain ⟨K,h⟩|⟨K,h⟩:=oc h
   ·refine eK K ?_
    cases h
    exact wr J 5 func121 []
   refine eK K (wa J 6 (eCut (σ:=Unit) (fun st=>⟨[(1,.B 3 0),(3,.I c)],[(3,.box (cC8 0 1 2 m_) 31)],(vV8 0 1 2 m_ []),6⟩) (fun st=>z121_k3 c (z121_l2 N m_ n12)=some r) ?_ (fun j55=>?_)))
   ·intro _ h
    replace h:z121_k3 c (z121_l2 N m_ n12)=some r:=h
    unfold z121_k3 at h
    exact wa J 6 (eSub [] (ih33 (w64 (c+1)) h))
   refine wa J 1 (eLoop (σ:=Int) (fun st=>⟨[(1,.B 3 0),(3,.I c),(4,.B 5 0),(5,.I st)],[(3,.box (cC8 0 1 2 m_) 31),(5,.box (cC9 d) 93)],(vV8 0 1 2 m_ []),6⟩) (fun n st=>z121_l4 m_ c (z121_l2 N m_ n12) d n st) (r:=r) (fun _=>rfl) ?_ (fun ih=>?_))
   ·intro n14 ih60
    intro g h
    replace h:z121_l4 m_ c (z121_l2 N m_ n12) d (n14+1) g=some r:=h
    unfold z121_l4 at h
    obtain ⟨K,h⟩|⟨K,h⟩:=oc' h
    ·exact wH J 9 K (wa J 2 (eSub [] (j55 () h)))
    refine wH J 9 K ?_
    obtain ⟨i,j,h⟩:=ob h
    refine wa J 9 (eIx J oO9 j ?_)
    refine wa J 11 (eCut (σ:=Bool) (fun st=>⟨[(1,.B 3 0),(3,.I c),(4,.B 5 0),(5,.I g),(6,.B 7 0),(87,.O st)],[(3,.box (cC8 0 1 2 m_) 31),(5,.box (cC9 d) 93),(7,.box (cC9 i) 93)],(vV8 0 1 2 m_ []),8⟩) (fun st=>z121_k5 d g (z121_l4 m_ c (z121_l2 N m_ n12) d n14) i st=some r) ?_ (fun j63=>?_))
    ·intro k h
     replace h:z121_k5 d g (z121_l4 m_ c (z121_l2 N m_ n12) d n14) i k=some r:=h
     unfold z121_k5 at h
     obtain ⟨K,h⟩|⟨K,h⟩:=oc h
     ·refine eK K ?_
      cases h
      exact wr J 5 func121 []
     refine eK K ?_
     obtain ⟨K,h⟩|⟨K,h⟩:=oc' h
     ·exact wH J 7 K (wa J 27 (eSub [] (ih60 (w64 (g+1)) h)))
     refine wH J 7 K ?_
     obtain ⟨K,h⟩|⟨K,h⟩:=oc' h
     ·exact wH J 7 K (wa J 20 (eSub [] (ih60 (w64 (g+1)) h)))
     refine wH J 7 K ?_
     obtain ⟨K,h⟩|⟨K,h⟩:=oc h
     ·refine wH J 4 K ?_
      cases h
      exact wr J 13 func121 []
     refine wH J 4 K ?_
     obtain ⟨K,h⟩|⟨K,h⟩:=oc h
     ·refine wH J 8 K ?_
      cases h
      exact wr J 5 func121 []
     exact wH J 8 K (wa J 8 (eSub [] (ih60 (w64 (g+1)) h)))
    obtain ⟨K,h⟩|⟨K,h⟩:=oc' h
    ·exact eK K (wa J 32 (eSub [] (j63 false h)))
    refine eK K ?_
    obtain ⟨K,h⟩|⟨K,h⟩:=oc' h
    ·exact wH J 7 K (wa J 25 (eSub [] (j63 false h)))
    refine wH J 7 K ?_
    obtain ⟨K,h⟩|⟨K,h⟩:=oc h
    ·exact wH J 6 K (wa J 19 (eSub [] (j63 true h)))
    refine wH J 6 K ?_
    obtain ⟨K,h⟩|⟨K,h⟩:=oc' h
    ·exact wH J 6 K (wa J 13 (eSub [] (j63 d.Again h)))
    refine wH J 6 K ?_
    obtain ⟨K,h⟩|⟨K,h⟩:=oc h
    ·exact wH J 8 K (wa J 5 (eSub [] (j63 true h)))
    exact wH J 8 K (wa J 5 (eSub [] (j63 d.Again h)))
   exact eSub [] (ih N 0 h)
  obtain ⟨K,h⟩|⟨K,h⟩:=oc' h
  ·exact eK K (wa J 20 (eSub [] (j54 false h)))
  refine eK K ?_
  obtain ⟨K,h⟩|⟨K,h⟩:=oc h
  ·exact wH J 4 K (wa J 16 (eSub [] (j54 true h)))
  refine wH J 4 K ?_
  obtain ⟨K,h⟩|⟨K,h⟩:=oc h
  ·exact wH J 7 K (wa J 9 (eSub [] (j54 true h)))
  refine wH J 7 K ?_
  obtain ⟨l,m,h⟩:=ob h
  exact wa J 4 (eIx J oB m (wa J 4 (eSub [] (j54 l h))))
 exact eSub [] (ih N 0 h)
theorem z122_ct (N:Nat) (m_:T8) (r:Bool) (h:z122 N m_=some r) :
 Fn Tryz.prog 122 ⟨3,[.a (cC8 0 1 2 m_)],(vV8 0 1 2 m_ []),[],3,.O r,[],[]⟩:=by
 refine eFn func122 rfl (fun E F w=>?_)
 unfold z122 at h
 refine wa J 10 (eCut (σ:=Unit) (fun st=>⟨[],[],(vV8 0 1 2 m_ []),4⟩) (fun st=>z122_k1=some r) ?_ (fun j1=>?_))
 ·intro _ h
  replace h:z122_k1=some r:=h
  unfold z122_k1 at h
  cases h
  exact wr J 4 func122 []
 refine wa J 1 (eLoop (σ:=Int) (fun st=>(zz14 m_ [(1,.B 3 0),(3,.I st)])) (fun n st=>z122_l2 m_ n st) (r:=r) (fun _=>rfl) ?_ (fun ih=>?_))
 ·intro n2 ih6
  intro c h
  replace h:z122_l2 m_ (n2+1) c=some r:=h
  unfold z122_l2 at h
  obtain ⟨K,h⟩|⟨K,h⟩:=oc' h
  ·exact wH J 9 K (wa J 2 (eSub [] (j1 () h)))
  refine wH J 9 K ?_
  obtain ⟨d,e,h⟩:=ob h
  refine wa J 9 (eIx J oO11 e ?_)
  refine wa J 11 (eCut (σ:=Bool) (fun st=>⟨[(1,.B 3 0),(3,.I c),(4,.B 5 0),(54,.O st)],[(3,.box (cC8 0 1 2 m_) 31),(5,.box (cC11 d) 235)],(vV8 0 1 2 m_ []),6⟩) (fun st=>z122_k3 m_ c (z122_l2 m_ n2) d st=some r) ?_ (fun j9=>?_))
  ·intro f h
   replace h:z122_k3 m_ c (z122_l2 m_ n2) d f=some r:=h
   unfold z122_k3 at h
   obtain ⟨K,h⟩|⟨K,h⟩:=oc h
   ·refine eK K ?_
    cases h
    exact wr J 5 func122 []
   refine eK K ?_
   obtain ⟨g,i,h⟩:=ob h
   refine wa J 8 (eIx J oO9 i ?_)
   obtain ⟨K,h⟩|⟨K,h⟩:=oc h
   ·refine wH J 12 K ?_
    cases h
    exact wr J 14 func122 []
   refine wH J 12 K ?_
   obtain ⟨K,h⟩|⟨K,h⟩:=oc h
   ·refine wH J 5 K ?_
    cases h
    exact wr J 9 func122 []
   refine wH J 5 K ?_
   obtain ⟨K,h⟩|⟨K,h⟩:=oc h
   ·refine wH J 4 K ?_
    cases h
    exact wr J 5 func122 []
   exact wH J 4 K (wa J 8 (eSub [] (ih6 (w64 (c+1)) h)))
  obtain ⟨K,h⟩|⟨K,h⟩:=oc h
  ·exact eK K (wa J 33 (eEnd (eSub [] (j9 true h))))
  refine eK K ?_
  obtain ⟨K,h⟩|⟨K,h⟩:=oc h
  ·exact wH J 5 K (wa J 28 (eEnd (eSub [] (j9 true h))))
  refine wH J 5 K ?_
  obtain ⟨K,h⟩|⟨K,h⟩:=oc h
  ·exact wH J 5 K (wa J 23 (eEnd (eSub [] (j9 true h))))
  refine wH J 5 K ?_
  obtain ⟨K,h⟩|⟨K,h⟩:=oc h
  ·exact wH J 8 K (wa J 15 (eEnd (eSub [] (j9 true h))))
  refine wH J 8 K ?_
  obtain ⟨K,h⟩|⟨K,h⟩:=oc' h
  ·exact wH J 3 K (wa J 12 (eEnd (eSub [] (j9 false h))))
  refine wH J 3 K ?_
  obtain ⟨j,k,h⟩:=ob h
  exact wa J 6 (eIx J oO11 k (wa J 5 (eEnd (eSub [] (j9 (decide (d.State≤j.State)) h)))))
 exact eSub [] (ih N 0 h)
theorem z182_ct (N:Nat) (l_:(List Int)) (n_:Int) (r:Bool) (h:z182 N l_ n_=some r) :
 Fn Tryz.prog 182 ⟨1,[.S 0,.I n_],[(0,.sl (rI .i64) l_)],[],1,.O r,[],[]⟩:=by
 refine eFn func182 rfl (fun E F w=>?_)
 unfold z182 at h
 refine wa J 9 (eCut (σ:=Unit) (fun st=>(zz4 l_ [])) (fun st=>z182_k1=some r) ?_ (fun j1=>?_))
 ·intro _ h
  replace h:z182_k1=some r:=h
  unfold z182_k1 at h
  cases h
  exact wr J 4 func182 []
 refine wa J 1 (eLoop (σ:=Int) (fun st=>(zz4 l_ [(0,.S 0),(1,.I n_),(5,.I st)])) (fun n st=>z182_l2 l_ n_ n st) (r:=r) (fun _=>rfl) ?_ (fun ih=>?_))
 ·intro n2 ih3
  intro c h
  replace h:z182_l2 l_ n_ (n2+1) c=some r:=h
  unfold z182_l2 at h
  obtain ⟨K,h⟩|⟨K,h⟩:=oc' h
  ·exact wH J 8 K (wa J 2 (eSub [] (j1 () h)))
  refine wH J 8 K ?_
  obtain ⟨x9,d,h⟩:=ob h
  refine wa J 8 (eIx J (oI .i64) d ?_)
  obtain ⟨K,h⟩|⟨K,h⟩:=oc h
  ·refine wH J 4 K ?_
   cases h
   exact wr J 5 func182 []
  exact wH J 4 K (wa J 8 (eSub [] (ih3 (w64 (c+1)) h)))
 exact eSub [] (ih N 0 h)
theorem z183_ct (N:Nat) (l_:(List Int)) (n_:Int) (r:(List Int)) (h:z183 N l_ n_=some r) :
 Fn Tryz.prog 183 ⟨1,[.S 0,.I n_],[(0,.sl (rI .i64) l_)],[],2,.S 1,[],[(1,.own (rI .i64) r true)]⟩:=by
 refine eFn func183 rfl (fun E F w=>?_)
 unfold z183 at h
 refine wa J 17 (eCut (σ:=(List Int) × Bool) (fun st=>(zz13 st.1 l_ [(1,.I n_),(5,.S 1),(6,.O st.2)])) (fun st=>z183_k1 n_ st.1 st.2=some r) ?_ (fun j1=>?_))
 ·rintro ⟨c,d⟩ h
  replace h:z183_k1 n_ c d=some r:=h
  unfold z183_k1 at h
  obtain ⟨K,h⟩|⟨K,h⟩:=oc' h
  ·refine wH J 6 K ?_
   cases h
   exact wr J 7 func183 [(1,.sl 1)]
  refine wH J 6 K (wa J 4 (eBs J [] (oI .i64) ([n_]:List Int) ?_))
  obtain ⟨e,f,h⟩:=ob h
  refine eAp J (rI .i64) f ?_
  cases h
  exact wr J 7 func183 [(1,.sl 3)]
 refine wa J 1 (eLoop (σ:=(List Int) × Bool × Int) (fun st=>(zz13 st.1 l_ [(0,.S 0),(1,.I n_),(5,.S 1),(6,.O st.2.1),(7,.I st.2.2)])) (fun n st=>z183_l2 l_ n_ n st.1 st.2.1 st.2.2) (r:=r) (fun _=>rfl) ?_ (fun ih=>?_))
 ·intro n2 ih3
  rintro ⟨g,i,j⟩ h
  replace h:z183_l2 l_ n_ (n2+1) g i j=some r:=h
  unfold z183_l2 at h
  obtain ⟨K,h⟩|⟨K,h⟩:=oc' h
  ·exact wH J 8 K (wa J 2 (eSub [] (j1 (g,i) h)))
  refine wH J 8 K ?_
  obtain ⟨K,h⟩|⟨K,h⟩:=oc' h
  ·refine wH J 10 K ?_
   obtain ⟨k,l,h⟩:=ob h
   refine wa J 14 (eIx J (oI .i64) l (wa J 1 (eBs J [] (oI .i64) ([k]:List Int) ?_)))
   obtain ⟨m,o,h⟩:=ob h
   exact eAp J (rI .i64) o (wa J 8 (eSub [(1,.sl 4)] (ih3 (m,i,(w64 (j+1))) h)))
  refine wH J 10 K ?_
  obtain ⟨p,q,h⟩:=ob h
  refine wa J 2 (eIx J (oI .i64) q ?_)
  obtain ⟨K,h⟩|⟨K,h⟩:=oc' h
  ·refine wH J 5 K ?_
   obtain ⟨s,t,h⟩:=ob h
   refine wa J 6 (eIx J (oI .i64) t (wa J 1 (eBs J [] (oI .i64) ([s]:List Int) ?_)))
   obtain ⟨u,v,h⟩:=ob h
   exact eAp J (rI .i64) v (wa J 8 (eSub [(1,.sl 5)] (ih3 (u,i,(w64 (j+1))) h)))
  refine wH J 5 K ?_
  obtain ⟨x,y,h⟩:=ob h
  refine wa J 6 (eIx J (oI .i64) y ?_)
  obtain ⟨K,h⟩|⟨K,h⟩:=oc' h
  ·refine wH J 4 K ?_
   obtain ⟨z,A,h⟩:=ob h
   refine wa J 9 (eIx J (oI .i64) A (wa J 1 (eBs J [] (oI .i64) ([z]:List Int) ?_)))
   obtain ⟨C,D,h⟩:=ob h
   exact eAp J (rI .i64) D (wa J 8 (eSub [(1,.sl 6)] (ih3 (C,true,(w64 (j+1))) h)))
  refine wH J 4 K (wa J 4 (eBs J [] (oI .i64) ([n_]:List Int) ?_))
  obtain ⟨G,H,h⟩:=ob h
  refine eAp J (rI .i64) H ?_
  obtain ⟨R,T,h⟩:=ob h
  refine wa J 9 (eIx J (oI .i64) T (wa J 1 (eBs J [] (oI .i64) ([R]:List Int) ?_)))
  obtain ⟨U,X,h⟩:=ob h
  exact eAp J (rI .i64) X (wa J 8 (eSub [(1,.sl 8)] (ih3 (U,true,(w64 (j+1))) h)))
 exact eSub [(1,.nil)] (ih N (([]:List Int),false,0) h)
theorem z123_ct (N:Nat) (m_:T8) (r:(List Int)) (h:z123 N m_=some r) :
 Fn Tryz.prog 123 ⟨3,[.a (cC8 0 1 2 m_)],(vV8 0 1 2 m_ []),[],4,.S 3,[],[(3,.own (rI .i64) r true)]⟩:=by
 refine eFn func123 rfl (fun E F w=>?_)
 unfold z123 at h
 refine wa J 9 (eBs J [] (oI .i64) ([m_.Start]:List Int) (wa J 7 (eCut (σ:=(List Int)) (fun st=>⟨[(3,.S 5)],[(5,.own (rI .i64) st true)],(vV8 0 1 2 m_ []),6⟩) (fun st=>z123_k1 st=some r) ?_ (fun j1=>?_))))
 ·intro c h
  replace h:z123_k1 c=some r:=h
  unfold z123_k1 at h
  cases h
  exact wr J 5 func123 [(3,.sl 5)]
 refine wa J 1 (eLoop (σ:=(List Int) × Int) (fun st=>⟨[(1,.B 3 0),(3,.S 5),(4,.I st.2)],[(3,.box (cC8 0 1 2 m_) 31),(5,.own (rI .i64) st.1 true)],(vV8 0 1 2 m_ []),6⟩) (fun n st=>z123_l2 N m_ n st.1 st.2) (r:=r) (fun _=>rfl) ?_ (fun ih=>?_))
 ·intro n12 ih12
  rintro ⟨d,e⟩ h
  replace h:z123_l2 N m_ (n12+1) d e=some r:=h
  unfold z123_l2 at h
  obtain ⟨K,h⟩|⟨K,h⟩:=oc' h
  ·exact wH J 8 K (wa J 2 (eSub [] (j1 d h)))
  refine wH J 8 K (wa J 8 (eCut (σ:=(List Int)) (fun st=>⟨[(1,.B 3 0),(3,.S 6),(4,.I e)],[(3,.box (cC8 0 1 2 m_) 31),(6,.own (rI .i64) st true)],(vV8 0 1 2 m_ []),7⟩) (fun st=>z123_k3 e (z123_l2 N m_ n12) st=some r) ?_ (fun j19=>?_)))
  ·intro f h
   replace h:z123_k3 e (z123_l2 N m_ n12) f=some r:=h
   unfold z123_k3 at h
   exact wa J 6 (eSub [(5,.sl 6)] (ih12 (f,(w64 (e+1))) h))
  refine wa J 1 (eLoop (σ:=(List Int) × Int) (fun st=>⟨[(1,.B 3 0),(3,.S 6),(4,.I e),(5,.I st.2)],[(3,.box (cC8 0 1 2 m_) 31),(6,.own (rI .i64) st.1 true)],(vV8 0 1 2 m_ []),7⟩) (fun n st=>z123_l4 N m_ e (z123_l2 N m_ n12) n st.1 st.2) (r:=r) (fun _=>rfl) ?_ (fun ih=>?_))
  ·intro n14 ih21
   rintro ⟨g,i⟩ h
   replace h:z123_l4 N m_ e (z123_l2 N m_ n12) (n14+1) g i=some r:=h
   unfold z123_l4 at h
   obtain ⟨K,h⟩|⟨K,h⟩:=oc' h
   ·exact wH J 9 K (wa J 2 (eSub [] (j19 g h)))
   refine wH J 9 K ?_
   obtain ⟨j,k,h⟩:=ob h
   refine wa J 10 (eIx J oO9 k ?_)
   obtain ⟨l,m,h⟩:=ob h
   refine wa J 2 (eCb (z182_ct N g j.From _ m) [] [(0,.sl 6)] [6] (.inr ⟨rfl,trivial⟩) ?_)
   obtain ⟨K,h⟩|⟨K,h⟩:=oc' h
   ·exact wH J 1 K (wa J 8 (eSub [] (ih21 (g,(w64 (i+1))) h)))
   refine wH J 1 K ?_
   obtain ⟨o,p,h⟩:=ob h
   refine wa J 6 (eIx J oO9 p ?_)
   obtain ⟨q,s,h⟩:=ob h
   exact wa J 2 (eCb (z183_ct N g o.To _ s) [] [(0,.sl 6)] [6] (.inr ⟨rfl,⟨(rI_flat _),trivial⟩⟩) (wa J 8 (eSub [(6,.sl 9)] (ih21 (q,(w64 (i+1))) h))))
  exact eSub [(6,.sl 5)] (ih N (d,0) h)
 exact eSub [(5,.sl 4)] (ih N (([m_.Start]:List Int),0) h)
theorem z60_ct (N:Nat) (m_:T8) (r:Bool) (h:z60 N m_=some r) :
 Fn Tryz.prog 60 ⟨3,[.a (cC8 0 1 2 m_)],(vV8 0 1 2 m_ []),[],3,.O r,[],[]⟩:=by
 refine eFn func60 rfl (fun E F w=>?_)
 unfold z60 at h
 obtain ⟨x1,c,h⟩:=ob h
 refine wa J 8 (eCl (z120_ct N m_ _ c) [] [(0,.sl 0),(1,.sl 1),(2,.sl 2)] ?_)
 obtain ⟨K,h⟩|⟨K,h⟩:=oc' h
 ·refine wH J 1 K (wa J 16 (eEnd ?_))
  cases h
  exact eRet J func60 []
 refine wH J 1 K ?_
 obtain ⟨x2,d,h⟩:=ob h
 refine wa J 1 (eCl (z121_ct N m_ _ d) [] [(0,.sl 0),(1,.sl 1),(2,.sl 2)] ?_)
 obtain ⟨K,h⟩|⟨K,h⟩:=oc' h
 ·refine wH J 2 K (wa J 12 (eEnd ?_))
  cases h
  exact eRet J func60 []
 refine wH J 2 K ?_
 obtain ⟨x3,e,h⟩:=ob h
 refine wa J 1 (eCl (z122_ct N m_ _ e) [] [(0,.sl 0),(1,.sl 1),(2,.sl 2)] ?_)
 obtain ⟨K,h⟩|⟨K,h⟩:=oc' h
 ·refine wH J 2 K (wa J 8 (eEnd ?_))
  cases h
  exact eRet J func60 []
 refine wH J 2 K ?_
 obtain ⟨x4,f,h⟩:=ob h
 refine wa J 1 (eCl (z123_ct N m_ _ f) [] [(0,.sl 0),(1,.sl 1),(2,.sl 2)] (wa J 6 (eEnd ?_)))
 cases h
 exact eRet J func60 []
theorem z57_ct (N:Nat) (g_:T5) (m_:T8) (r:Bool) (h:z57 N g_ m_=some r) :
 Fn Tryz.prog 57 ⟨7,[.a (cC5 0 1 2 3 g_),.a (cC8 4 5 6 m_)],((0,.sl rS g_.Roles)::(1,.sl rR0 g_.Decls)::(2,.sl rR2 g_.Edges)::(3,.sl rR11 g_.Timeouts)::vV8 4 5 6 m_ []),[],7,.O r,[],[]⟩:=by
 refine eFn func57 rfl (fun E F w=>?_)
 unfold z57 at h
 obtain ⟨x1,c,h⟩:=ob h
 refine wa J 10 (eCl (z59_ct N g_ _ c) [] [(0,.sl 0),(1,.sl 1),(2,.sl 2),(3,.sl 3)] ?_)
 obtain ⟨K,h⟩|⟨K,h⟩:=oc h
 ·refine wH J 2 K ?_
  cases h
  exact wr J 18 func57 []
 refine wH J 2 K ?_
 obtain ⟨x2,d,h⟩:=ob h
 refine wa J 1 (eCl (z60_ct N m_ _ d) [] [(0,.sl 4),(1,.sl 5),(2,.sl 6)] ?_)
 obtain ⟨K,h⟩|⟨K,h⟩:=oc h
 ·refine wH J 3 K ?_
  cases h
  exact wr J 13 func57 []
 refine wH J 3 K ?_
 obtain ⟨K,h⟩|⟨K,h⟩:=oc h
 ·refine wH J 8 K ?_
  cases h
  exact wr J 5 func57 []
 refine wH J 8 K (wa J 7 (eCut (σ:=Unit) (fun st=>⟨[],[],((0,.sl rS g_.Roles)::(1,.sl rR0 g_.Decls)::(2,.sl rR2 g_.Edges)::(3,.sl rR11 g_.Timeouts)::vV8 4 5 6 m_ []),9⟩) (fun st=>z57_k1=some r) ?_ (fun j1=>?_)))
 ·intro _ h
  replace h:z57_k1=some r:=h
  unfold z57_k1 at h
  cases h
  exact wr J 4 func57 []
 refine wa J 1 (eLoop (σ:=Int) (fun st=>⟨[(2,.B 7 0),(3,.B 8 0),(5,.I st)],[(7,.box (cC5 0 1 2 3 g_) 27),(8,.box (cC8 4 5 6 m_) 31)],((0,.sl rS g_.Roles)::(1,.sl rR0 g_.Decls)::(2,.sl rR2 g_.Edges)::(3,.sl rR11 g_.Timeouts)::vV8 4 5 6 m_ []),9⟩) (fun n st=>z57_l2 g_ m_ n st) (r:=r) (fun _=>rfl) ?_ (fun ih=>?_))
 ·intro n2 ih3
  intro e h
  replace h:z57_l2 g_ m_ (n2+1) e=some r:=h
  unfold z57_l2 at h
  obtain ⟨K,h⟩|⟨K,h⟩:=oc' h
  ·exact wH J 9 K (wa J 2 (eSub [] (j1 () h)))
  refine wH J 9 K ?_
  obtain ⟨f,g,h⟩:=ob h
  refine wa J 9 (eIx J oO9 g ?_)
  obtain ⟨K,h⟩|⟨K,h⟩:=oc h
  ·refine wH J 7 K (wa J 11 (eEnd ?_))
   cases h
   exact wr J 5 func57 []
  refine wH J 7 K ?_
  obtain ⟨i,j,h⟩:=ob h
  refine wa J 3 (eIx J oO9 j (wa J 7 (eEnd ?_)))
  obtain ⟨K,h⟩|⟨K,h⟩:=oc h
  ·refine eK K ?_
   cases h
   exact wr J 5 func57 []
  exact eK K (wa J 8 (eSub [] (ih3 (w64 (e+1)) h)))
 exact eSub [] (ih N 0 h)
theorem z75_ct (N:Nat) (decls_:(List T0)) (r:(List T12)) (h:z75 N decls_=some r) :
 Fn Tryz.prog 75 ⟨1,[.S 0],[(0,.sl rR0 decls_)],[],2,.S 1,[],[(1,.own rR12 r true)]⟩:=by
 refine eFn func75 rfl (fun E F w=>?_)
 unfold z75 at h
 obtain ⟨x1,c,h⟩:=ob h
 refine wa J 7 (eCl (z104_ct N decls_ _ c) [] [(0,.sl 0)] ?_)
 obtain ⟨x2,d,h⟩:=ob h
 refine eMk J oO12 d ?_
 cases h
 exact wr J 2 func75 [(1,.sl 1)]
theorem z31_ct (N:Nat) (g_:T5) (m_:T8) (r:T17) (h:z31 N g_ m_=some r) :
 Fn Tryz.prog 31 ⟨7,[.a (cC5 0 1 2 3 g_),.a (cC8 4 5 6 m_)],((0,.sl rS g_.Roles)::(1,.sl rR0 g_.Decls)::(2,.sl rR2 g_.Edges)::(3,.sl rR11 g_.Timeouts)::vV8 4 5 6 m_ []),[],9,.a (cC17 7 8 r),(vV17 7 8 r []),[]⟩:=by
 refine eFn func31 rfl (fun E F w=>?_)
 unfold z31 at h
 obtain ⟨x1,c,h⟩:=ob h
 refine wa J 11 (eCl (z57_ct N g_ m_ _ c) [] [(0,.sl 0),(1,.sl 1),(2,.sl 2),(3,.sl 3),(4,.sl 4),(5,.sl 5),(6,.sl 6)] ?_)
 obtain ⟨K,h⟩|⟨K,h⟩:=oc h
 ·refine wH J 2 K ?_
  cases h
  exact wr J 6 func31 [(7,.nil),(8,.nil)]
 refine wH J 2 K ?_
 obtain ⟨x2,d,h⟩:=ob h
 refine wa J 8 (eCl (z75_ct N g_.Decls _ d) [] [(0,.sl 1)] (wa J 2 (eEnd (eFr [10] ?_))))
 cases h
 exact eRet J func31 [(7,.sl 10),(8,.nil)]
theorem z175_ct (N:Nat) (v_:T12) (r:Int) (h:z175 N v_=some r) :
 Fn Tryz.prog 175 ⟨0,[.a (cC12 v_)],[],[],0,.I r,[],[]⟩:=by
 refine eFn func175 rfl (fun E F w=>?_)
 unfold z175 at h
 obtain ⟨K,h⟩|⟨K,h⟩:=oc h
 ·refine wH J 12 K ?_
  cases h
  exact wr J 8 func175 []
 refine wH J 12 K ?_
 cases h
 exact wr J 8 func175 []
theorem z105_ct (N:Nat) (s_:T10) (v_:T12) (r:Bool) (h:z105 N s_ v_=some r) :
 Fn Tryz.prog 105 ⟨0,[.a (cC10 s_),.a (cC12 v_)],[],[],0,.O r,[],[]⟩:=by
 refine eFn func105 rfl (fun E F w=>?_)
 unfold z105 at h
 refine wa J 11 (eCut (σ:=Unit) (fun st=>(zz22 s_ v_ [(2,.B 0 0),(3,.B 1 0)])) (fun st=>z105_k2 N s_ v_=some r) ?_ (fun j1=>?_))
 ·intro _ h
  replace h:z105_k2 N s_ v_=some r:=h
  unfold z105_k2 at h
  refine wa J 7 (eCut (σ:=Bool) (fun st=>(zz22 s_ v_ [(2,.B 0 0),(3,.B 1 0),(42,.O st)])) (fun st=>z105_k1 N s_ v_ st=some r) ?_ (fun j3=>?_))
  ·intro c h
   replace h:z105_k1 N s_ v_ c=some r:=h
   unfold z105_k1 at h
   obtain ⟨K,h⟩|⟨K,h⟩:=oc h
   ·refine eK K ?_
    cases h
    exact wr J 5 func105 []
   refine eK K ?_
   obtain ⟨K,h⟩|⟨K,h⟩:=oc' h
   ·refine wH J 10 K (wa J 14 (eEnd ?_))
    cases h
    exact eRet J func105 []
   refine wH J 10 K ?_
   obtain ⟨x9,d,h⟩:=ob h
   refine wa J 1 (eCl (z175_ct N v_ _ d) [] [] ?_)
   obtain ⟨K,h⟩|⟨K,h⟩:=oc' h
   ·refine wH J 5 K (wa J 7 (eEnd ?_))
    cases h
    exact eRet J func105 []
   refine wH J 5 K ?_
   obtain ⟨e,f,h⟩:=ob h
   refine wa J 1 (eCl (z175_ct N v_ _ f) [] [] (wa J 5 (eEnd ?_)))
   cases h
   exact eRet J func105 []
  obtain ⟨K,h⟩|⟨K,h⟩:=oc' h
  ·refine eK K ?_
   obtain ⟨K,h⟩|⟨K,h⟩:=oc h
   ·exact wH J 9 K (wa J 6 (eSub [] (j3 (!(v_.S.toList==(str []).toList)) h)))
   exact wH J 9 K (wa J 6 (eSub [] (j3 false h)))
  refine eK K ?_
  obtain ⟨K,h⟩|⟨K,h⟩:=oc h
  ·exact wH J 5 K (wa J 10 (eSub [] (j3 true h)))
  refine wH J 5 K ?_
  obtain ⟨K,h⟩|⟨K,h⟩:=oc h
  ·exact wH J 4 K (wa J 6 (eSub [] (j3 (!(v_.S.toList==(str []).toList)) h)))
  exact wH J 4 K (wa J 6 (eSub [] (j3 false h)))
 refine wa J 1 (eLoop (σ:=Int) (fun st=>(zz22 s_ v_ [(2,.B 0 0),(3,.B 1 0),(5,.I st)])) (fun n st=>z105_l3 N s_ v_ n st) (r:=r) (fun _=>rfl) ?_ (fun ih=>?_))
 ·intro n2 ih4
  intro g h
  replace h:z105_l3 N s_ v_ (n2+1) g=some r:=h
  unfold z105_l3 at h
  obtain ⟨K,h⟩|⟨K,h⟩:=oc' h
  ·exact wH J 9 K (wa J 2 (eSub [] (j1 () h)))
  refine wH J 9 K ?_
  obtain ⟨i,j,h⟩:=ob h
  refine wa J 9 (eSx J j ?_)
  obtain ⟨K,h⟩|⟨K,h⟩:=oc h
  ·refine wH J 2 K ?_
   cases h
   exact wr J 12 func105 []
  refine wH J 2 K ?_
  obtain ⟨k,l,h⟩:=ob h
  refine wa J 3 (eSx J l ?_)
  obtain ⟨K,h⟩|⟨K,h⟩:=oc h
  ·refine wH J 3 K ?_
   cases h
   exact wr J 5 func105 []
  exact wH J 3 K (wa J 8 (eSub [] (ih4 (w64 (g+1)) h)))
 exact eSub [] (ih N 0 h)
theorem z48_ct (N:Nat) (decls_:(List T0)) (known_:(List T12)) (r:Bool) (h:z48 N decls_ known_=some r) :
 Fn Tryz.prog 48 ⟨2,[.S 0,.S 1],[(0,.sl rR0 decls_),(1,.sl rR12 known_)],[],2,.O r,[],[]⟩:=by
 refine eFn func48 rfl (fun E F w=>?_)
 unfold z48 at h
 obtain ⟨x1,c,h⟩:=ob h
 refine wa J 10 (eCl (z104_ct N decls_ _ c) [] [(0,.sl 0)] ?_)
 obtain ⟨K,h⟩|⟨K,h⟩:=oc h
 ·refine wH J 2 K ?_
  cases h
  exact wr J 5 func48 []
 refine wH J 2 K (wa J 7 (eCut (σ:=Unit) (fun st=>⟨[],[],[(0,.sl rR0 decls_),(1,.sl rR12 known_)],2⟩) (fun st=>z48_k1=some r) ?_ (fun j1=>?_)))
 ·intro _ h
  replace h:z48_k1=some r:=h
  unfold z48_k1 at h
  cases h
  exact wr J 4 func48 []
 refine wa J 1 (eLoop (σ:=Int) (fun st=>⟨[(0,.S 0),(1,.S 1),(5,.I st)],[],[(0,.sl rR0 decls_),(1,.sl rR12 known_)],2⟩) (fun n st=>z48_l2 N decls_ known_ n st) (r:=r) (fun _=>rfl) ?_ (fun ih=>?_))
 ·intro n2 ih3
  intro d h
  replace h:z48_l2 N decls_ known_ (n2+1) d=some r:=h
  unfold z48_l2 at h
  obtain ⟨K,h⟩|⟨K,h⟩:=oc' h
  ·exact wH J 8 K (wa J 2 (eSub [] (j1 () h)))
  refine wH J 8 K ?_
  obtain ⟨e,f,h⟩:=ob h
  refine wa J 8 (eIx J oO12 f (wa J 2 (eEq ?_)))
  obtain ⟨K,h⟩|⟨K,h⟩:=oc' h
  ·exact wH J 1 K (wa J 11 (eEnd (wa J 8 (eSub [] (ih3 (w64 (d+1)) h)))))
  refine wH J 1 K ?_
  obtain ⟨g,i,h⟩:=ob h
  refine wa J 2 (eCl (z106_ct N decls_ d _ i) [] [(0,.sl 0)] ?_)
  obtain ⟨j,k,h⟩:=ob h
  refine wa J 3 (eIx J oO12 k ?_)
  obtain ⟨l,m,h⟩:=ob h
  refine wa J 1 (eCl (z105_ct N g.Sort' j _ m) [] [] (wa J 2 (eEnd ?_)))
  obtain ⟨K,h⟩|⟨K,h⟩:=oc h
  ·refine eK K ?_
   cases h
   exact wr J 5 func48 []
  exact eK K (wa J 8 (eSub [] (ih3 (w64 (d+1)) h)))
 exact eSub [] (ih N 0 h)
theorem z28_ct (N:Nat) (g_:T5) (m_:T8) (s_:T17) (r:Bool) (h:z28 N g_ m_ s_=some r) :
 Fn Tryz.prog 28 ⟨9,[.a (cC5 0 1 2 3 g_),.a (cC8 4 5 6 m_),.a (cC17 7 8 s_)],((0,.sl rS g_.Roles)::(1,.sl rR0 g_.Decls)::(2,.sl rR2 g_.Edges)::(3,.sl rR11 g_.Timeouts)::(4,.sl rB m_.Finals)::(5,.sl rR9 m_.Moves)::(6,.sl rR11 m_.Timeouts)::vV17 7 8 s_ []),[],9,.O r,[],[]⟩:=by
 refine eFn func28 rfl (fun E F w=>?_)
 unfold z28 at h
 obtain ⟨x1,c,h⟩:=ob h
 refine wa J 11 (eCl (z57_ct N g_ m_ _ c) [] [(0,.sl 0),(1,.sl 1),(2,.sl 2),(3,.sl 3),(4,.sl 4),(5,.sl 5),(6,.sl 6)] ?_)
 obtain ⟨K,h⟩|⟨K,h⟩:=oc' h
 ·refine wH J 1 K ?_
  cases h
  exact wr J 20 func28 []
 refine wH J 1 K ?_
 obtain ⟨K,h⟩|⟨K,h⟩:=oc' h
 ·refine wH J 5 K ?_
  cases h
  exact wr J 15 func28 []
 refine wH J 5 K ?_
 obtain ⟨K,h⟩|⟨K,h⟩:=oc' h
 ·refine wH J 7 K ?_
  cases h
  exact wr J 8 func28 []
 refine wH J 7 K ?_
 obtain ⟨x2,d,h⟩:=ob h
 refine wa J 4 (eCl (z48_ct N g_.Decls s_.Known _ d) [] [(0,.sl 1),(1,.sl 7)] ?_)
 cases h
 exact wr J 3 func28 []
theorem z34_ct (N:Nat) (m_:T8) (at_:Int) (x_:T3) (r:Int) (h:z34 N m_ at_ x_=some r) :
 Fn Tryz.prog 34 ⟨4,[.a (cC8 0 1 2 m_),.I at_,.a (cC3 3 x_)],(vV8 0 1 2 m_ [(3,.sl rR12 x_.Values)]),[],4,.I r,[],[]⟩:=by
 refine eFn func34 rfl (fun E F w=>?_)
 unfold z34 at h
 refine wa J 11 (eCut (σ:=Unit) (fun st=>⟨[],[],(vV8 0 1 2 m_ [(3,.sl rR12 x_.Values)]),6⟩) (fun st=>z34_k1=some r) ?_ (fun j1=>?_))
 ·intro _ h
  replace h:z34_k1=some r:=h
  unfold z34_k1 at h
  cases h
  exact wr J 4 func34 []
 refine wa J 1 (eLoop (σ:=Int) (fun st=>⟨[(1,.I at_),(3,.B 4 0),(5,.B 5 0),(7,.I st)],[(4,.box (cC8 0 1 2 m_) 31),(5,.box (cC3 3 x_) 67)],(vV8 0 1 2 m_ [(3,.sl rR12 x_.Values)]),6⟩) (fun n st=>z34_l2 m_ at_ x_ n st) (r:=r) (fun _=>rfl) ?_ (fun ih=>?_))
 ·intro n2 ih3
  intro c h
  replace h:z34_l2 m_ at_ x_ (n2+1) c=some r:=h
  unfold z34_l2 at h
  obtain ⟨K,h⟩|⟨K,h⟩:=oc' h
  ·exact wH J 9 K (wa J 2 (eSub [] (j1 () h)))
  refine wH J 9 K ?_
  obtain ⟨x9,d,h⟩:=ob h
  refine wa J 9 (eIx J oO9 d ?_)
  obtain ⟨K,h⟩|⟨K,h⟩:=oc' h
  ·exact wH J 11 K (wa J 29 (eSub [] (ih3 (w64 (c+1)) h)))
  refine wH J 11 K ?_
  obtain ⟨K,h⟩|⟨K,h⟩:=oc' h
  ·exact wH J 7 K (wa J 22 (eSub [] (ih3 (w64 (c+1)) h)))
  refine wH J 7 K ?_
  obtain ⟨K,h⟩|⟨K,h⟩:=oc' h
  ·exact wH J 7 K (wa J 15 (eSub [] (ih3 (w64 (c+1)) h)))
  refine wH J 7 K ?_
  obtain ⟨K,h⟩|⟨K,h⟩:=oc h
  ·refine wH J 7 K ?_
   cases h
   exact wr J 6 func34 []
  exact wH J 7 K (wa J 8 (eSub [] (ih3 (w64 (c+1)) h)))
 exact eSub [] (ih N 0 h)
theorem z107_ct (N:Nat) (s_:T10) (r:Bool) (h:z107 N s_=some r) :
 Fn Tryz.prog 107 ⟨0,[.a (cC10 s_)],[],[],0,.O r,[],[]⟩:=by
 refine eFn func107 rfl (fun E F w=>?_)
 unfold z107 at h
 obtain ⟨K,h⟩|⟨K,h⟩:=oc h
 ·refine wH J 17 K ?_
  obtain ⟨K,h⟩|⟨K,h⟩:=oc' h
  ·refine wH J 7 K ?_
   cases h
   exact wr J 13 func107 []
  refine wH J 7 K ?_
  obtain ⟨K,h⟩|⟨K,h⟩:=oc h
  ·refine wH J 7 K ?_
   cases h
   exact wr J 6 func107 []
  refine wH J 7 K ?_
  cases h
  exact wr J 6 func107 []
 refine wH J 17 K ?_
 obtain ⟨K,h⟩|⟨K,h⟩:=oc' h
 ·refine wH J 6 K ?_
  cases h
  exact wr J 7 func107 []
 refine wH J 6 K ?_
 obtain ⟨K,h⟩|⟨K,h⟩:=oc' h
 ·refine wH J 7 K ?_
  cases h
  exact wr J 13 func107 []
 refine wH J 7 K ?_
 obtain ⟨K,h⟩|⟨K,h⟩:=oc h
 ·refine wH J 7 K ?_
  cases h
  exact wr J 6 func107 []
 refine wH J 7 K ?_
 cases h
 exact wr J 6 func107 []
theorem z176_ct (N:Nat) (s_:ByteArray) (r:Bool) (h:z176 N s_=some r) :
 Fn Tryz.prog 176 ⟨0,[.c (.s s_)],[],[],0,.O r,[],[]⟩:=by
 refine eFn func176 rfl (fun E F w=>?_)
 unfold z176 at h
 refine wa J 9 (eCut (σ:=Unit) (fun st=>(zz0 [])) (fun st=>z176_k1=some r) ?_ (fun j1=>?_))
 ·intro _ h
  replace h:z176_k1=some r:=h
  unfold z176_k1 at h
  cases h
  exact wr J 4 func176 []
 refine wa J 1 (eLoop (σ:=Int) (fun st=>(zz0 [(0,.c (.s s_)),(3,.I st)])) (fun n st=>z176_l2 s_ n st) (r:=r) (fun _=>rfl) ?_ (fun ih=>?_))
 ·intro n2 ih3
  intro d h
  replace h:z176_l2 s_ (n2+1) d=some r:=h
  unfold z176_l2 at h
  obtain ⟨K,h⟩|⟨K,h⟩:=oc' h
  ·exact wH J 8 K (wa J 2 (eSub [] (j1 () h)))
  refine wH J 8 K ?_
  obtain ⟨e,f,h⟩:=ob h
  refine wa J 8 (eSx J f ?_)
  obtain ⟨K,h⟩|⟨K,h⟩:=oc h
  ·refine wH J 2 K ?_
   cases h
   exact wr J 11 func176 []
  refine wH J 2 K ?_
  obtain ⟨g,i,h⟩:=ob h
  refine wa J 2 (eSx J i ?_)
  obtain ⟨K,h⟩|⟨K,h⟩:=oc h
  ·refine wH J 3 K ?_
   cases h
   exact wr J 5 func176 []
  exact wH J 3 K (wa J 8 (eSub [] (ih3 (w64 (d+1)) h)))
 exact eSub [] (ih N 0 h)
theorem z108_ct (N:Nat) (v_:T12) (r:Bool) (h:z108 N v_=some r) :
 Fn Tryz.prog 108 ⟨0,[.a (cC12 v_)],[],[],0,.O r,[],[]⟩:=by
 refine eFn func108 rfl (fun E F w=>?_)
 unfold z108 at h
 obtain ⟨K,h⟩|⟨K,h⟩:=oc h
 ·refine wH J 17 K ?_
  obtain ⟨K,h⟩|⟨K,h⟩:=oc' h
  ·refine wH J 7 K ?_
   cases h
   exact wr J 11 func108 []
  refine wH J 7 K ?_
  obtain ⟨K,h⟩|⟨K,h⟩:=oc h
  ·refine wH J 5 K ?_
   cases h
   exact wr J 6 func108 []
  refine wH J 5 K ?_
  cases h
  exact wr J 6 func108 []
 refine wH J 17 K ?_
 obtain ⟨K,h⟩|⟨K,h⟩:=oc' h
 ·refine wH J 6 K ?_
  cases h
  exact wr J 7 func108 []
 refine wH J 6 K ?_
 obtain ⟨K,h⟩|⟨K,h⟩:=oc' h
 ·refine wH J 7 K ?_
  cases h
  exact wr J 12 func108 []
 refine wH J 7 K ?_
 obtain ⟨K,h⟩|⟨K,h⟩:=oc' h
 ·refine wH J 6 K ?_
  cases h
  exact wr J 6 func108 []
 refine wH J 6 K ?_
 obtain ⟨x1,c,h⟩:=ob h
 refine wa J 2 (eCl (z176_ct N v_.S _ c) [] [] ?_)
 cases h
 exact wr J 3 func108 []
theorem z109_ct (N:Nat) (v_:T12) (r:Int) (h:z109 N v_=some r) :
 Fn Tryz.prog 109 ⟨0,[.a (cC12 v_)],[],[],0,.I r,[],[]⟩:=by
 refine eFn func109 rfl (fun E F w=>?_)
 unfold z109 at h
 obtain ⟨K,h⟩|⟨K,h⟩:=oc h
 ·refine wH J 17 K ?_
  cases h
  exact wr J 7 func109 []
 refine wH J 17 K ?_
 obtain ⟨K,h⟩|⟨K,h⟩:=oc h
 ·refine wH J 6 K ?_
  cases h
  exact wr J 8 func109 []
 refine wH J 6 K ?_
 cases h
 exact wr J 7 func109 []
theorem z49_ct (N:Nat) (s_:T10) (v_:T12) (r:Bool) (h:z49 N s_ v_=some r) :
 Fn Tryz.prog 49 ⟨0,[.a (cC10 s_),.a (cC12 v_)],[],[],0,.O r,[],[]⟩:=by
 refine eFn func49 rfl (fun E F w=>?_)
 unfold z49 at h
 obtain ⟨x1,c,h⟩:=ob h
 refine wa J 9 (eCl (z107_ct N s_ _ c) [] [] ?_)
 obtain ⟨K,h⟩|⟨K,h⟩:=oc' h
 ·refine wH J 1 K (wa J 25 (eEnd ?_))
  cases h
  exact eRet J func49 []
 refine wH J 1 K ?_
 obtain ⟨x2,d,h⟩:=ob h
 refine wa J 1 (eCl (z108_ct N v_ _ d) [] [] ?_)
 obtain ⟨K,h⟩|⟨K,h⟩:=oc' h
 ·refine wH J 2 K (wa J 21 (eEnd ?_))
  cases h
  exact eRet J func49 []
 refine wH J 2 K ?_
 obtain ⟨K,h⟩|⟨K,h⟩:=oc' h
 ·refine wH J 7 K (wa J 14 (eEnd ?_))
  cases h
  exact eRet J func49 []
 refine wH J 7 K ?_
 obtain ⟨x3,e,h⟩:=ob h
 refine wa J 1 (eCl (z109_ct N v_ _ e) [] [] ?_)
 obtain ⟨K,h⟩|⟨K,h⟩:=oc' h
 ·refine wH J 5 K (wa J 7 (eEnd ?_))
  cases h
  exact eRet J func49 []
 refine wH J 5 K ?_
 obtain ⟨x4,f,h⟩:=ob h
 refine wa J 1 (eCl (z109_ct N v_ _ f) [] [] (wa J 5 (eEnd ?_)))
 cases h
 exact eRet J func49 []
theorem z132_ct (N:Nat) (l_:(List T4)) (v_:(List T12)) (r:Bool) (h:z132 N l_ v_=some r) :
 Fn Tryz.prog 132 ⟨2,[.S 0,.S 1],[(0,.sl rR4 l_),(1,.sl rR12 v_)],[],2,.O r,[],[]⟩:=by
 refine eFn func132 rfl (fun E F w=>?_)
 unfold z132 at h
 obtain ⟨K,h⟩|⟨K,h⟩:=oc h
 ·refine wH J 13 K ?_
  cases h
  exact wr J 5 func132 []
 refine wH J 13 K (wa J 7 (eCut (σ:=Unit) (fun st=>(zz3 l_ v_ [])) (fun st=>z132_k1=some r) ?_ (fun j1=>?_)))
 ·intro _ h
  replace h:z132_k1=some r:=h
  unfold z132_k1 at h
  cases h
  exact wr J 4 func132 []
 refine wa J 1 (eLoop (σ:=Int) (fun st=>(zz3 l_ v_ [(0,.S 0),(1,.S 1),(5,.I st)])) (fun n st=>z132_l2 N l_ v_ n st) (r:=r) (fun _=>rfl) ?_ (fun ih=>?_))
 ·intro n2 ih3
  intro c h
  replace h:z132_l2 N l_ v_ (n2+1) c=some r:=h
  unfold z132_l2 at h
  obtain ⟨K,h⟩|⟨K,h⟩:=oc' h
  ·exact wH J 8 K (wa J 2 (eSub [] (j1 () h)))
  refine wH J 8 K ?_
  obtain ⟨d,e,h⟩:=ob h
  refine wa J 8 (eIx J oO4 e ?_)
  obtain ⟨f,g,h⟩:=ob h
  refine wa J 4 (eIx J oO12 g ?_)
  obtain ⟨i,j,h⟩:=ob h
  refine wa J 1 (eCl (z49_ct N d.Sort' f _ j) [] [] (wa J 1 (eEnd ?_)))
  obtain ⟨K,h⟩|⟨K,h⟩:=oc h
  ·refine eK K ?_
   cases h
   exact wr J 5 func132 []
  exact eK K (wa J 8 (eSub [] (ih3 (w64 (c+1)) h)))
 exact eSub [] (ih N 0 h)
theorem z67_ct (N:Nat) (d_:T0) (l_:(List T12)) (r:Bool) (h:z67 N d_ l_=some r) :
 Fn Tryz.prog 67 ⟨4,[.a (cC0 0 1 2 d_),.S 3],(vV0 0 1 2 d_ [(3,.sl rR12 l_)]),[],4,.O r,[],[]⟩:=by
 refine eFn func67 rfl (fun E F w=>?_)
 unfold z67 at h
 obtain ⟨x1,c,h⟩:=ob h
 refine wa J 10 (eCl (z132_ct N d_.Fields l_ _ c) [] [(0,.sl 0),(1,.sl 3)] ?_)
 cases h
 exact wr J 2 func67 []
theorem z133_ct (N:Nat) (decls_:(List T0)) (label_:Int) (r:Bool) (h:z133 N decls_ label_=some r) :
 Fn Tryz.prog 133 ⟨1,[.S 0,.I label_],[(0,.sl rR0 decls_)],[],1,.O r,[],[]⟩:=by
 refine eFn func133 rfl (fun E F w=>?_)
 unfold z133 at h
 obtain ⟨x1,c,h⟩:=ob h
 refine wa J 7 (eCl (z101_ct N decls_ _ c) [] [(0,.sl 0)] ?_)
 obtain ⟨K,h⟩|⟨K,h⟩:=oc' h
 ·refine wH J 1 K ?_
  cases h
  exact wr J 11 func133 []
 refine wH J 1 K ?_
 obtain ⟨K,h⟩|⟨K,h⟩:=oc h
 ·refine wH J 4 K ?_
  cases h
  exact wr J 7 func133 []
 refine wH J 4 K ?_
 cases h
 exact wr J 7 func133 []
theorem z134_ct (N:Nat) (d_:T0) (values_:(List T12)) (r:Bool) (h:z134 N d_ values_=some r) :
 Fn Tryz.prog 134 ⟨4,[.a (cC0 0 1 2 d_),.S 3],(vV0 0 1 2 d_ [(3,.sl rR12 values_)]),[],4,.O r,[],[]⟩:=by
 refine eFn func134 rfl (fun E F w=>?_)
 unfold z134 at h
 refine wa J 10 (eCut (σ:=Unit) (fun st=>⟨[(1,.S 3),(2,.B 4 0)],[(4,.box (cC0 0 1 2 d_) 87)],(vV0 0 1 2 d_ [(3,.sl rR12 values_)]),5⟩) (fun st=>z134_k1 d_ values_=some r) ?_ (fun j1=>?_))
 ·intro _ h
  replace h:z134_k1 d_ values_=some r:=h
  unfold z134_k1 at h
  cases h
  exact wr J 10 func134 []
 refine wa J 1 (eLoop (σ:=Int) (fun st=>⟨[(1,.S 3),(2,.B 4 0),(5,.I st)],[(4,.box (cC0 0 1 2 d_) 87)],(vV0 0 1 2 d_ [(3,.sl rR12 values_)]),5⟩) (fun n st=>z134_l2 N d_ values_ n st) (r:=r) (fun _=>rfl) ?_ (fun ih=>?_))
 ·intro n2 ih3
  intro c h
  replace h:z134_l2 N d_ values_ (n2+1) c=some r:=h
  unfold z134_l2 at h
  obtain ⟨K,h⟩|⟨K,h⟩:=oc' h
  ·exact wH J 8 K (wa J 9 (eSub [] (j1 () h)))
  refine wH J 8 K ?_
  obtain ⟨K,h⟩|⟨K,h⟩:=oc' h
  ·exact wH J 7 K (wa J 2 (eSub [] (j1 () h)))
  refine wH J 7 K ?_
  obtain ⟨d,e,h⟩:=ob h
  refine wa J 9 (eIx J oO4 e ?_)
  obtain ⟨f,g,h⟩:=ob h
  refine wa J 4 (eIx J oO12 g ?_)
  obtain ⟨i,j,h⟩:=ob h
  refine wa J 1 (eCl (z105_ct N d.Sort' f _ j) [] [] (wa J 1 (eEnd ?_)))
  obtain ⟨K,h⟩|⟨K,h⟩:=oc h
  ·refine eK K ?_
   cases h
   exact wr J 5 func134 []
  exact eK K (wa J 8 (eSub [] (ih3 (w64 (c+1)) h)))
 exact eSub [] (ih N 0 h)
theorem z136_ct (N:Nat) (d_:T0) (values_:(List T12)) (known_:(List T12)) (r:(List T12)) (h:z136 N d_ values_ known_=some r) :
 Fn Tryz.prog 136 ⟨5,[.a (cC0 0 1 2 d_),.S 3,.S 4],(vV0 0 1 2 d_ [(3,.sl rR12 values_),(4,.sl rR12 known_)]),[],6,.S 5,[],[(5,.own rR12 r true)]⟩:=by
 refine eFn func136 rfl (fun E F w=>?_)
 unfold z136 at h
 refine wa J 7 (eBs J [] oO12 ([]:List T12) ?_)
 obtain ⟨x1,c,h⟩:=ob h
 refine wa J 1 (eAp J rR12 c (wa J 7 (eCut (σ:=(List T12)) (fun st=>⟨[(7,.S 7)],[(7,.own rR12 st true)],(vV0 0 1 2 d_ [(3,.sl rR12 values_),(4,.sl rR12 known_)]),8⟩) (fun st=>z136_k1 st=some r) ?_ (fun j1=>?_))))
 ·intro d h
  replace h:z136_k1 d=some r:=h
  unfold z136_k1 at h
  cases h
  exact wr J 5 func136 [(5,.sl 7)]
 refine wa J 1 (eLoop (σ:=(List T12) × Int) (fun st=>⟨[(1,.S 3),(3,.B 5 0),(7,.S 7),(8,.I st.2)],[(5,.box (cC0 0 1 2 d_) 87),(7,.own rR12 st.1 true)],(vV0 0 1 2 d_ [(3,.sl rR12 values_),(4,.sl rR12 known_)]),8⟩) (fun n st=>z136_l2 d_ values_ n st.1 st.2) (r:=r) (fun _=>rfl) ?_ (fun ih=>?_))
 ·intro n2 ih3
  rintro ⟨e,f⟩ h
  replace h:z136_l2 d_ values_ (n2+1) e f=some r:=h
  unfold z136_l2 at h
  obtain ⟨K,h⟩|⟨K,h⟩:=oc' h
  ·exact wH J 8 K (wa J 2 (eSub [] (j1 e h)))
  refine wH J 8 K ?_
  obtain ⟨g,i,h⟩:=ob h
  refine wa J 12 (eIx J oO12 i ?_)
  obtain ⟨j,k,h⟩:=ob h
  exact wa J 1 (eIo J rR12 k (eSt J [] oO12 g k (eEnd (wa J 6 (eSub [] (ih3 ((setL' e (w64 (d_.First+f)) g),(w64 (f+1))) h))))))
 exact eSub [] (ih N (x1,0) h)
theorem z135_ct (N:Nat) (g_:T6) (all_:(List T12)) (r:Bool) (h:z135 N g_ all_=some r) :
 Fn Tryz.prog 135 ⟨3,[.a [.sl 0,.sl 1],.S 2],[(0,.sl rR1 g_.Diffs),(1,.sl (rP (rI .i64) (rI .i64)) g_.Equals),(2,.sl rR12 all_)],[],3,.O r,[],[]⟩:=by
 refine eFn func135 rfl (fun E F w=>?_)
 unfold z135 at h
 refine wa J 10 (eCut (σ:=Unit) (fun st=>(zz9 g_.Diffs g_.Equals all_ [(1,.S 2),(2,.B 3 0)])) (fun st=>z135_k3 N g_ all_=some r) ?_ (fun j1=>?_))
 ·intro _ h
  replace h:z135_k3 N g_ all_=some r:=h
  unfold z135_k3 at h
  refine wa J 5 (eCut (σ:=Unit) (fun st=>(zz20 g_.Diffs g_.Equals all_ [])) (fun st=>z135_k1=some r) ?_ (fun j9=>?_))
  ·intro _ h
   replace h:z135_k1=some r:=h
   unfold z135_k1 at h
   cases h
   exact wr J 4 func135 []
  refine wa J 1 (eLoop (σ:=Int) (fun st=>(zz9 g_.Diffs g_.Equals all_ [(1,.S 2),(2,.B 3 0),(9,.I st)])) (fun n st=>z135_l2 g_ all_ n st) (r:=r) (fun _=>rfl) ?_ (fun ih=>?_))
  ·intro n3 ih11
   intro c h
   replace h:z135_l2 g_ all_ (n3+1) c=some r:=h
   unfold z135_l2 at h
   obtain ⟨K,h⟩|⟨K,h⟩:=oc' h
   ·exact wH J 9 K (wa J 2 (eSub [] (j9 () h)))
   refine wH J 9 K ?_
   obtain ⟨d,e,h⟩:=ob h
   refine wa J 10 (eIx J (oP (oI .i64) (oI .i64)) e (eAq 0 rfl ?_))
   obtain ⟨f,g,h⟩:=ob h
   refine wa J 1 (eIx J oO12 g ?_)
   obtain ⟨i,j,h⟩:=ob h
   refine wa J 5 (eIx J (oP (oI .i64) (oI .i64)) j (eAq 1 rfl ?_))
   obtain ⟨k,l,h⟩:=ob h
   refine wa J 1 (eIx J oO12 l (wa J 5 (eEnd ?_)))
   obtain ⟨K,h⟩|⟨K,h⟩:=oc h
   ·refine wH J 6 K ?_
    cases h
    exact wr J 17 func135 []
   refine wH J 6 K ?_
   obtain ⟨K,h⟩|⟨K,h⟩:=oc h
   ·refine wH J 5 K ?_
    cases h
    exact wr J 12 func135 []
   refine wH J 5 K ?_
   obtain ⟨K,h⟩|⟨K,h⟩:=oc h
   ·refine wH J 7 K ?_
    cases h
    exact wr J 5 func135 []
   exact wH J 7 K (wa J 8 (eSub [] (ih11 (w64 (c+1)) h)))
  exact eSub [] (ih N 0 h)
 refine wa J 1 (eLoop (σ:=Int) (fun st=>(zz9 g_.Diffs g_.Equals all_ [(1,.S 2),(2,.B 3 0),(5,.I st)])) (fun n st=>z135_l4 N g_ all_ n st) (r:=r) (fun _=>rfl) ?_ (fun ih=>?_))
 ·intro n4 ih12
  intro m h
  replace h:z135_l4 N g_ all_ (n4+1) m=some r:=h
  unfold z135_l4 at h
  obtain ⟨K,h⟩|⟨K,h⟩:=oc' h
  ·exact wH J 9 K (wa J 2 (eSub [] (j1 () h)))
  refine wH J 9 K ?_
  obtain ⟨o,p,h⟩:=ob h
  refine wa J 9 (eIx J oO1 p (wa J 16 (eCut (σ:=Int) (fun st=>(zz30 o g_.Diffs g_.Equals all_ [(1,.S 2),(2,.B 3 0),(5,.I m),(6,.B 5 0),(7,.I st),(8,.I 0)])) (fun st=>z135_k6 N all_ m (z135_l4 N g_ all_ n4) o st=some r) ?_ (fun j17=>?_))))
  ·intro q h
   replace h:z135_k6 N all_ m (z135_l4 N g_ all_ n4) o q=some r:=h
   unfold z135_k6 at h
   refine wa J 7 (eCut (σ:=Int) (fun st=>(zz30 o g_.Diffs g_.Equals all_ [(1,.S 2),(2,.B 3 0),(5,.I m),(6,.B 5 0),(7,.I q),(8,.I st)])) (fun st=>z135_k5 all_ m (z135_l4 N g_ all_ n4) o q st=some r) ?_ (fun j18=>?_))
   ·intro s h
    replace h:z135_k5 all_ m (z135_l4 N g_ all_ n4) o q s=some r:=h
    unfold z135_k5 at h
    obtain ⟨K,h⟩|⟨K,h⟩:=oc' h
    ·refine wH J 6 K ?_
     obtain ⟨K,h⟩|⟨K,h⟩:=oc' h
     ·refine wH J 13 K ?_
      obtain ⟨K,h⟩|⟨K,h⟩:=oc h
      ·refine wH J 18 K ?_
       cases h
       exact wr J 5 func135 []
      exact wH J 18 K (wa J 8 (eSub [] (ih12 (w64 (m+1)) h)))
     refine wH J 13 K ?_
     obtain ⟨t,u,h⟩:=ob h
     refine wa J 3 (eIx J oO12 u ?_)
     obtain ⟨K,h⟩|⟨K,h⟩:=oc h
     ·refine wH J 6 K ?_
      cases h
      exact wr J 13 func135 []
     refine wH J 6 K ?_
     obtain ⟨K,h⟩|⟨K,h⟩:=oc h
     ·refine wH J 8 K ?_
      cases h
      exact wr J 5 func135 []
     exact wH J 8 K (wa J 8 (eSub [] (ih12 (w64 (m+1)) h)))
    refine wH J 6 K ?_
    obtain ⟨v,x,h⟩:=ob h
    refine wa J 3 (eIx J oO12 x ?_)
    obtain ⟨K,h⟩|⟨K,h⟩:=oc h
    ·refine wH J 5 K ?_
     cases h
     exact wr J 27 func135 []
    refine wH J 5 K ?_
    obtain ⟨K,h⟩|⟨K,h⟩:=oc' h
    ·refine wH J 4 K ?_
     obtain ⟨K,h⟩|⟨K,h⟩:=oc h
     ·refine wH J 18 K ?_
      cases h
      exact wr J 5 func135 []
     exact wH J 18 K (wa J 8 (eSub [] (ih12 (w64 (m+1)) h)))
    refine wH J 4 K ?_
    obtain ⟨y,z,h⟩:=ob h
    refine wa J 3 (eIx J oO12 z ?_)
    obtain ⟨K,h⟩|⟨K,h⟩:=oc h
    ·refine wH J 6 K ?_
     cases h
     exact wr J 13 func135 []
    refine wH J 6 K ?_
    obtain ⟨K,h⟩|⟨K,h⟩:=oc h
    ·refine wH J 8 K ?_
     cases h
     exact wr J 5 func135 []
    exact wH J 8 K (wa J 8 (eSub [] (ih12 (w64 (m+1)) h)))
   obtain ⟨K,h⟩|⟨K,h⟩:=oc' h
   ·exact eK K (wa J 2 (eSub [] (j18 0 h)))
   refine eK K ?_
   obtain ⟨A,C,h⟩:=ob h
   refine wa J 5 (eIx J oO12 C ?_)
   obtain ⟨D,G,h⟩:=ob h
   exact wa J 1 (eCl (z175_ct N A _ G) [] [] (wa J 2 (eSub [] (j18 D h))))
  obtain ⟨K,h⟩|⟨K,h⟩:=oc' h
  ·exact eK K (wa J 2 (eSub [] (j17 0 h)))
  refine eK K ?_
  obtain ⟨H,R,h⟩:=ob h
  refine wa J 5 (eIx J oO12 R ?_)
  obtain ⟨T,U,h⟩:=ob h
  exact wa J 1 (eCl (z175_ct N H _ U) [] [] (wa J 2 (eSub [] (j17 T h))))
 exact eSub [] (ih N 0 h)
theorem z68_ct (N:Nat) (decls_:(List T0)) (label_:Int) (values_:(List T12)) (known_:(List T12)) (r:Bool) (h:z68 N decls_ label_ values_ known_=some r) :
 Fn Tryz.prog 68 ⟨3,[.S 0,.I label_,.S 1,.S 2],[(0,.sl rR0 decls_),(1,.sl rR12 values_),(2,.sl rR12 known_)],[],3,.O r,[],[]⟩:=by
 refine eFn func68 rfl (fun E F w=>?_)
 unfold z68 at h
 obtain ⟨x1,c,h⟩:=ob h
 refine wa J 9 (eCl (z133_ct N decls_ label_ _ c) [] [(0,.sl 0)] ?_)
 obtain ⟨K,h⟩|⟨K,h⟩:=oc h
 ·refine wH J 2 K ?_
  cases h
  exact wr J 20 func68 []
 refine wH J 2 K ?_
 obtain ⟨x2,d,h⟩:=ob h
 refine wa J 2 (eCl (z48_ct N decls_ known_ _ d) [] [(0,.sl 0),(1,.sl 2)] ?_)
 obtain ⟨K,h⟩|⟨K,h⟩:=oc h
 ·refine wH J 3 K ?_
  cases h
  exact wr J 14 func68 []
 refine wH J 3 K ?_
 obtain ⟨x3,e,h⟩:=ob h
 refine wa J 2 (eIx J oO0 e ?_)
 obtain ⟨x4,f,h⟩:=ob h
 refine wa J 2 (eCl (z134_ct N x3 values_ _ f) [] [(0,.sl 4),(1,.sl 5),(2,.sl 6),(3,.sl 1)] ?_)
 obtain ⟨K,h⟩|⟨K,h⟩:=oc h
 ·refine wH J 3 K ?_
  cases h
  exact wr J 5 func68 []
 refine wH J 3 K ?_
 obtain ⟨x5,g,h⟩:=ob h
 refine wa J 6 (eIx J oO0 g ?_)
 obtain ⟨x6,i,h⟩:=ob h
 refine wa J 4 (eIx J oO0 i ?_)
 obtain ⟨x7,j,h⟩:=ob h
 refine wa J 3 (eCl (z136_ct N x6 values_ known_ _ j) [] [(0,.sl 12),(1,.sl 13),(2,.sl 14),(3,.sl 1),(4,.sl 2)] ?_)
 obtain ⟨x8,k,h⟩:=ob h
 refine eCb (z135_ct N x5.Guard x7 _ k) [] [(0,.sl 9),(1,.sl 10),(2,.sl 15)] [15] (.inr ⟨rfl,trivial⟩) (wa J 1 (eEnd ?_))
 cases h
 exact eRet J func68 []
theorem z22_ct (N:Nat) (a_:(List T12)) (b_:(List T12)) (r:Bool) (h:z22 N a_ b_=some r) :
 Fn Tryz.prog 22 ⟨2,[.S 0,.S 1],[(0,.sl rR12 a_),(1,.sl rR12 b_)],[],2,.O r,[],[]⟩:=by
 refine eFn func22 rfl (fun E F w=>?_)
 unfold z22 at h
 obtain ⟨K,h⟩|⟨K,h⟩:=oc h
 ·refine wH J 13 K ?_
  cases h
  exact wr J 5 func22 []
 refine wH J 13 K (wa J 7 (eCut (σ:=Unit) (fun st=>(zz15 a_ b_ [])) (fun st=>z22_k1=some r) ?_ (fun j1=>?_)))
 ·intro _ h
  replace h:z22_k1=some r:=h
  unfold z22_k1 at h
  cases h
  exact wr J 4 func22 []
 refine wa J 1 (eLoop (σ:=Int) (fun st=>(zz15 a_ b_ [(0,.S 0),(1,.S 1),(5,.I st)])) (fun n st=>z22_l2 a_ b_ n st) (r:=r) (fun _=>rfl) ?_ (fun ih=>?_))
 ·intro n2 ih3
  intro c h
  replace h:z22_l2 a_ b_ (n2+1) c=some r:=h
  unfold z22_l2 at h
  obtain ⟨K,h⟩|⟨K,h⟩:=oc' h
  ·exact wH J 8 K (wa J 2 (eSub [] (j1 () h)))
  refine wH J 8 K ?_
  obtain ⟨d,e,h⟩:=ob h
  refine wa J 8 (eIx J oO12 e ?_)
  obtain ⟨f,g,h⟩:=ob h
  refine wa J 3 (eIx J oO12 g (wa J 1 (eEq (eEnd ?_))))
  obtain ⟨K,h⟩|⟨K,h⟩:=oc h
  ·refine eK K ?_
   cases h
   exact wr J 5 func22 []
  exact eK K (wa J 8 (eSub [] (ih3 (w64 (c+1)) h)))
 exact eSub [] (ih N 0 h)
theorem z69_ct (N:Nat) (decls_:(List T0)) (label_:Int) (values_:(List T12)) (known_:(List T12)) (r:(List T12) × Int) (h:z69 N decls_ label_ values_ known_=some r) :
 Fn Tryz.prog 69 ⟨3,[.S 0,.I label_,.S 1,.S 2],[(0,.sl rR0 decls_),(1,.sl rR12 values_),(2,.sl rR12 known_)],[],4,.t [.inl (.sl 3),.inl (.I r.2)],[],[(3,.own rR12 r.1 true)]⟩:=by
 refine eFn func69 rfl (fun E F w=>?_)
 unfold z69 at h
 obtain ⟨x1,c,h⟩:=ob h
 refine wa J 11 (eCl (z133_ct N decls_ label_ _ c) [] [(0,.sl 0)] ?_)
 obtain ⟨K,h⟩|⟨K,h⟩:=oc h
 ·refine wH J 2 K ?_
  cases h
  exact wr J 13 func69 [(3,.nil)]
 refine wH J 2 K ?_
 obtain ⟨x2,d,h⟩:=ob h
 refine wa J 2 (eCl (z48_ct N decls_ known_ _ d) [] [(0,.sl 0),(1,.sl 2)] ?_)
 obtain ⟨K,h⟩|⟨K,h⟩:=oc h
 ·refine wH J 4 K ?_
  cases h
  exact wr J 6 func69 [(3,.nil)]
 refine wH J 4 K ?_
 obtain ⟨x3,e,h⟩:=ob h
 refine wa J 5 (eIx J oO0 e ?_)
 obtain ⟨x4,f,h⟩:=ob h
 refine wa J 2 (eCl (z134_ct N x3 values_ _ f) [] [(0,.sl 4),(1,.sl 5),(2,.sl 6),(3,.sl 1)] ?_)
 obtain ⟨K,h⟩|⟨K,h⟩:=oc h
 ·refine wH J 3 K ?_
  cases h
  exact wr J 6 func69 [(3,.nil)]
 refine wH J 3 K ?_
 obtain ⟨x5,g,h⟩:=ob h
 refine wa J 7 (eIx J oO0 g ?_)
 obtain ⟨x6,i,h⟩:=ob h
 refine wa J 3 (eCl (z136_ct N x5 values_ known_ _ i) [] [(0,.sl 8),(1,.sl 9),(2,.sl 10),(3,.sl 1),(4,.sl 2)] ?_)
 cases h
 exact wr J 3 func69 [(3,.sl 11)]
theorem z26_ct (N:Nat) (g_:T5) (m_:T8) (s_:T17) (x_:T3) (r:T17 × Int) (h:z26 N g_ m_ s_ x_=some r) :
 Fn Tryz.prog 26 ⟨10,[.a (cC5 0 1 2 3 g_),.a (cC8 4 5 6 m_),.a (cC17 7 8 s_),.a (cC3 9 x_)],((0,.sl rS g_.Roles)::(1,.sl rR0 g_.Decls)::(2,.sl rR2 g_.Edges)::(3,.sl rR11 g_.Timeouts)::(4,.sl rB m_.Finals)::(5,.sl rR9 m_.Moves)::(6,.sl rR11 m_.Timeouts)::vV17 7 8 s_ [(9,.sl rR12 x_.Values)]),[],12,.t [.inr (cC17 10 11 r.1),.inl (.I r.2)],(vV17 10 11 r.1 []),[]⟩:=by
 refine eFn func26 rfl (fun E F w=>?_)
 unfold z26 at h
 obtain ⟨x1,c,h⟩:=ob h
 refine wa J 15 (eCl (z28_ct N g_ m_ s_ _ c) [] [(0,.sl 0),(1,.sl 1),(2,.sl 2),(3,.sl 3),(4,.sl 4),(5,.sl 5),(6,.sl 6),(7,.sl 7),(8,.sl 8)] ?_)
 obtain ⟨K,h⟩|⟨K,h⟩:=oc h
 ·refine wH J 2 K ?_
  cases h
  exact wr J 7 func26 [(10,.nil),(11,.nil)]
 refine wH J 2 K ?_
 obtain ⟨x2,d,h⟩:=ob h
 refine wa J 8 (eCl (z34_ct N m_ s_.At x_ _ d) [] [(0,.sl 4),(1,.sl 5),(2,.sl 6),(3,.sl 9)] ?_)
 obtain ⟨K,h⟩|⟨K,h⟩:=oc h
 ·refine wH J 13 K ?_
  cases h
  exact wr J 7 func26 [(10,.nil),(11,.nil)]
 refine wH J 13 K ?_
 obtain ⟨K,h⟩|⟨K,h⟩:=oc h
 ·refine wH J 7 K ?_
  cases h
  exact wr J 7 func26 [(10,.nil),(11,.nil)]
 refine wH J 7 K ?_
 obtain ⟨x3,e,h⟩:=ob h
 refine wa J 7 (eIx J oO0 e ?_)
 obtain ⟨x4,f,h⟩:=ob h
 refine wa J 3 (eCl (z67_ct N x3 x_.Values _ f) [] [(0,.sl 16),(1,.sl 17),(2,.sl 18),(3,.sl 9)] (wa J 2 (eEnd ?_)))
 obtain ⟨K,h⟩|⟨K,h⟩:=oc h
 ·refine eK K ?_
  cases h
  exact wr J 7 func26 [(10,.nil),(11,.nil)]
 refine eK K ?_
 obtain ⟨x5,g,h⟩:=ob h
 refine wa J 11 (eCl (z68_ct N g_.Decls x_.Label x_.Values s_.Known _ g) [] [(0,.sl 1),(1,.sl 9),(2,.sl 7)] ?_)
 refine wa J 2 (eCut (σ:=Bool) (fun st=>⟨[(4,.B 10 0),(5,.B 11 0),(6,.B 12 0),(7,.B 13 0),(8,.B 14 0),(10,.I x2),(46,.O st)],[(10,.box (cC5 0 1 2 3 g_) 27),(11,.box (cC8 4 5 6 m_) 31),(12,.box (cC17 7 8 s_) 41),(13,.box (cC3 9 x_) 67),(14,.box [.I 0,.nil,.nil] 41)],((0,.sl rS g_.Roles)::(1,.sl rR0 g_.Decls)::(2,.sl rR2 g_.Edges)::(3,.sl rR11 g_.Timeouts)::(4,.sl rB m_.Finals)::(5,.sl rR9 m_.Moves)::(6,.sl rR11 m_.Timeouts)::vV17 7 8 s_ [(9,.sl rR12 x_.Values)]),19⟩) (fun st=>z26_k1 N g_ m_ s_ x_ x2 st=some r) ?_ (fun j1=>?_))
 ·intro i h
  replace h:z26_k1 N g_ m_ s_ x_ x2 i=some r:=h
  unfold z26_k1 at h
  obtain ⟨K,h⟩|⟨K,h⟩:=oc h
  ·refine eK K ?_
   cases h
   exact wr J 7 func26 [(10,.nil),(11,.nil)]
  refine eK K ?_
  obtain ⟨x8,j,h⟩:=ob h
  refine wa J 8 (eIx J oO9 j ?_)
  obtain ⟨x9,k,h⟩:=ob h
  refine wa J 16 (eCl (z69_ct N g_.Decls x_.Label x_.Values s_.Known _ k) [] [(0,.sl 1),(1,.sl 9),(2,.sl 7)] ?_)
  obtain ⟨K,h⟩|⟨K,h⟩:=oc' h
  ·refine wH J 12 K (wa J 8 (eFr [21] ?_))
   cases h
   exact eRet J func26 [(10,.sl 21),(11,.nil)]
  refine wH J 12 K (wa J 2 (eBs J [] oO12 ([]:List T12) ?_))
  obtain ⟨l,m,h⟩:=ob h
  refine wa J 2 (eAp J rR12 m (wa J 9 (eFr [21] (eFr [23] ?_))))
  cases h
  exact eRet J func26 [(10,.sl 21),(11,.sl 23)]
 obtain ⟨K,h⟩|⟨K,h⟩:=oc h
 ·exact eK K (wa J 17 (eSub [] (j1 true h)))
 refine eK K ?_
 obtain ⟨o,p,h⟩:=ob h
 refine wa J 3 (eIx J oO9 p ?_)
 obtain ⟨K,h⟩|⟨K,h⟩:=oc' h
 ·exact wH J 3 K (wa J 10 (eSub [] (j1 false h)))
 refine wH J 3 K ?_
 obtain ⟨q,s,h⟩:=ob h
 exact wa J 4 (eCl (z22_ct N x_.Values s_.Pending _ s) [] [(0,.sl 9),(1,.sl 8)] (wa J 5 (eSub [] (j1 (!q) h))))
theorem z17_ct (N:Nat) (a_:T17) (b_:T17) (r:Bool) (h:z17 N a_ b_=some r) :
 Fn Tryz.prog 17 ⟨4,[.a (cC17 0 1 a_),.a (cC17 2 3 b_)],(vV17 0 1 a_ (vV17 2 3 b_ [])),[],4,.O r,[],[]⟩:=by
 refine eFn func17 rfl (fun E F w=>?_)
 unfold z17 at h
 obtain ⟨K,h⟩|⟨K,h⟩:=oc' h
 ·refine wH J 14 K ?_
  cases h
  exact wr J 15 func17 []
 refine wH J 14 K ?_
 obtain ⟨x1,c,h⟩:=ob h
 refine wa J 4 (eCl (z22_ct N a_.Known b_.Known _ c) [] [(0,.sl 0),(1,.sl 2)] ?_)
 obtain ⟨K,h⟩|⟨K,h⟩:=oc' h
 ·refine wH J 2 K ?_
  cases h
  exact wr J 8 func17 []
 refine wH J 2 K ?_
 obtain ⟨x2,d,h⟩:=ob h
 refine wa J 4 (eCl (z22_ct N a_.Pending b_.Pending _ d) [] [(0,.sl 1),(1,.sl 3)] ?_)
 cases h
 exact wr J 3 func17 []
theorem z25_ct (N:Nat) (g_:T5) (m_:T8) (s_:T17) (x_:T3) (r:T17 × Int) (h:z25 N g_ m_ s_ x_=some r) :
 Fn Tryz.prog 25 ⟨10,[.a (cC5 0 1 2 3 g_),.a (cC8 4 5 6 m_),.a (cC17 7 8 s_),.a (cC3 9 x_)],((0,.sl rS g_.Roles)::(1,.sl rR0 g_.Decls)::(2,.sl rR2 g_.Edges)::(3,.sl rR11 g_.Timeouts)::(4,.sl rB m_.Finals)::(5,.sl rR9 m_.Moves)::(6,.sl rR11 m_.Timeouts)::vV17 7 8 s_ [(9,.sl rR12 x_.Values)]),[],12,.t [.inr (cC17 10 11 r.1),.inl (.I r.2)],(vV17 10 11 r.1 []),[]⟩:=by
 refine eFn func25 rfl (fun E F w=>?_)
 unfold z25 at h
 obtain ⟨x1,c,h⟩:=ob h
 refine wa J 15 (eCl (z27_ct N g_ m_ s_ _ c) [] [(0,.sl 0),(1,.sl 1),(2,.sl 2),(3,.sl 3),(4,.sl 4),(5,.sl 5),(6,.sl 6),(7,.sl 7),(8,.sl 8)] ?_)
 obtain ⟨K,h⟩|⟨K,h⟩:=oc h
 ·refine wH J 2 K ?_
  cases h
  exact wr J 7 func25 [(10,.nil),(11,.nil)]
 refine wH J 2 K ?_
 obtain ⟨x2,d,h⟩:=ob h
 refine wa J 8 (eCl (z56_ct N g_ m_ s_ x_ _ d) [] [(0,.sl 0),(1,.sl 1),(2,.sl 2),(3,.sl 3),(4,.sl 4),(5,.sl 5),(6,.sl 6),(7,.sl 7),(8,.sl 8),(9,.sl 9)] ?_)
 cases h
 exact wr J 5 func25 [(10,.sl 15),(11,.sl 16)]
theorem z29_ct (N:Nat) (g_:T5) (m_:T8) (s_:T17) (r:Bool) (h:z29 N g_ m_ s_=some r) :
 Fn Tryz.prog 29 ⟨9,[.a (cC5 0 1 2 3 g_),.a (cC8 4 5 6 m_),.a (cC17 7 8 s_)],((0,.sl rS g_.Roles)::(1,.sl rR0 g_.Decls)::(2,.sl rR2 g_.Edges)::(3,.sl rR11 g_.Timeouts)::(4,.sl rB m_.Finals)::(5,.sl rR9 m_.Moves)::(6,.sl rR11 m_.Timeouts)::vV17 7 8 s_ []),[],9,.O r,[],[]⟩:=by
 refine eFn func29 rfl (fun E F w=>?_)
 unfold z29 at h
 obtain ⟨x1,c,h⟩:=ob h
 refine wa J 12 (eCl (z28_ct N g_ m_ s_ _ c) [] [(0,.sl 0),(1,.sl 1),(2,.sl 2),(3,.sl 3),(4,.sl 4),(5,.sl 5),(6,.sl 6),(7,.sl 7),(8,.sl 8)] ?_)
 obtain ⟨K,h⟩|⟨K,h⟩:=oc' h
 ·refine wH J 1 K ?_
  cases h
  exact wr J 9 func29 []
 refine wH J 1 K ?_
 obtain ⟨x2,d,h⟩:=ob h
 refine wa J 4 (eIx J oB d ?_)
 cases h
 exact wr J 4 func29 []
theorem law40_MonitorStep_ct (N:Nat) (g_:T5) (m_:T8) (a_:T14) (r:Bool) (h:law40_MonitorStep N g_ m_ a_=some r) :
 Fn Tryz.prog 5 ⟨10,[.a (cC5 0 1 2 3 g_),.a (cC8 4 5 6 m_),.a (cC14 7 8 9 a_)],((0,.sl rS g_.Roles)::(1,.sl rR0 g_.Decls)::(2,.sl rR2 g_.Edges)::(3,.sl rR11 g_.Timeouts)::(4,.sl rB m_.Finals)::(5,.sl rR9 m_.Moves)::(6,.sl rR11 m_.Timeouts)::vV14 7 8 9 a_ []),[],10,.O r,[],[]⟩:=by
 refine eFn func5 rfl (fun E F w=>?_)
 unfold law40_MonitorStep at h
 obtain ⟨x1,c,h⟩:=ob h
 refine wa J 10 (eCl (z13_ct N _ c) [] [] ?_)
 obtain ⟨K,h⟩|⟨K,h⟩:=oc h
 ·refine wH J 2 K ?_
  cases h
  exact wr J 5 func5 []
 refine wH J 2 K (wa J 9 (eBs J [] oO3 ([a_.X]:List T3) ?_))
 obtain ⟨x2,d,h⟩:=ob h
 refine eCb (z14_ct N g_ m_ ([a_.X]:List T3) _ d) [] [(0,.sl 0),(1,.sl 1),(2,.sl 2),(3,.sl 3),(4,.sl 4),(5,.sl 5),(6,.sl 6),(7,.sl 13)] [13] (.inr ⟨rfl,trivial⟩) ?_
 obtain ⟨K,h⟩|⟨K,h⟩:=oc h
 ·refine wH J 2 K ?_
  cases h
  exact wr J 19 func5 []
 refine wH J 2 K ?_
 obtain ⟨x3,e,h⟩:=ob h
 refine wa J 3 (eCl (z20_ct N a_.S.Known _ e) [] [(0,.sl 7)] ?_)
 obtain ⟨K,h⟩|⟨K,h⟩:=oc h
 ·refine wH J 3 K ?_
  cases h
  exact wr J 12 func5 []
 refine wH J 3 K ?_
 obtain ⟨x4,f,h⟩:=ob h
 refine wa J 3 (eCl (z20_ct N a_.S.Pending _ f) [] [(0,.sl 8)] ?_)
 obtain ⟨K,h⟩|⟨K,h⟩:=oc h
 ·refine wH J 3 K ?_
  cases h
  exact wr J 5 func5 []
 refine wH J 3 K ?_
 obtain ⟨x5,g,h⟩:=ob h
 refine wa J 16 (eCl (z25_ct N g_ m_ a_.S a_.X _ g) [] [(0,.sl 0),(1,.sl 1),(2,.sl 2),(3,.sl 3),(4,.sl 4),(5,.sl 5),(6,.sl 6),(7,.sl 7),(8,.sl 8),(9,.sl 9)] ?_)
 obtain ⟨x6,i,h⟩:=ob h
 refine wa J 15 (eCl (z26_ct N g_ m_ a_.S a_.X _ i) [] [(0,.sl 0),(1,.sl 1),(2,.sl 2),(3,.sl 3),(4,.sl 4),(5,.sl 5),(6,.sl 6),(7,.sl 7),(8,.sl 8),(9,.sl 9)] ?_)
 obtain ⟨K,h⟩|⟨K,h⟩:=oc h
 ·refine wH J 14 K ?_
  cases h
  exact wr J 22 func5 []
 refine wH J 14 K ?_
 obtain ⟨x7,j,h⟩:=ob h
 refine wa J 2 (eCl (z17_ct N x5.1 x6.1 _ j) [] [(0,.sl 15),(1,.sl 16),(2,.sl 18),(3,.sl 19)] ?_)
 obtain ⟨K,h⟩|⟨K,h⟩:=oc h
 ·refine wH J 3 K ?_
  cases h
  exact wr J 16 func5 []
 refine wH J 3 K ?_
 obtain ⟨K,h⟩|⟨K,h⟩:=oc' h
 ·refine wH J 3 K ?_
  obtain ⟨k,l,h⟩:=ob h
  refine wa J 15 (eCl (z27_ct N g_ m_ a_.S _ l) [] [(0,.sl 0),(1,.sl 1),(2,.sl 2),(3,.sl 3),(4,.sl 4),(5,.sl 5),(6,.sl 6),(7,.sl 7),(8,.sl 8)] ?_)
  obtain ⟨m,o,h⟩:=ob h
  refine wa J 4 (eCl (z28_ct N g_ m_ a_.S _ o) [] [(0,.sl 0),(1,.sl 1),(2,.sl 2),(3,.sl 3),(4,.sl 4),(5,.sl 5),(6,.sl 6),(7,.sl 7),(8,.sl 8)] ?_)
  obtain ⟨K,h⟩|⟨K,h⟩:=oc' h
  ·refine wH J 2 K (wa J 31 (eEnd ?_))
   cases h
   exact eRet J func5 []
  refine wH J 2 K ?_
  obtain ⟨p,q,h⟩:=ob h
  refine wa J 3 (eCl (z23_ct N g_ m_ a_.S _ q) [] [(0,.sl 0),(1,.sl 1),(2,.sl 2),(3,.sl 3),(4,.sl 4),(5,.sl 5),(6,.sl 6),(7,.sl 7),(8,.sl 8)] ?_)
  obtain ⟨s,t,h⟩:=ob h
  refine wa J 4 (eCl (z29_ct N g_ m_ a_.S _ t) [] [(0,.sl 0),(1,.sl 1),(2,.sl 2),(3,.sl 3),(4,.sl 4),(5,.sl 5),(6,.sl 6),(7,.sl 7),(8,.sl 8)] ?_)
  obtain ⟨K,h⟩|⟨K,h⟩:=oc' h
  ·refine wH J 3 K (wa J 19 (eEnd ?_))
   cases h
   exact eRet J func5 []
  refine wH J 3 K ?_
  obtain ⟨u,v,h⟩:=ob h
  refine wa J 2 (eCl (z30_ct N g_ m_ _ v) [] [(0,.sl 0),(1,.sl 1),(2,.sl 2),(3,.sl 3),(4,.sl 4),(5,.sl 5),(6,.sl 6)] ?_)
  obtain ⟨x,y,h⟩:=ob h
  refine wa J 2 (eCl (z31_ct N g_ m_ _ y) [] [(0,.sl 0),(1,.sl 1),(2,.sl 2),(3,.sl 3),(4,.sl 4),(5,.sl 5),(6,.sl 6)] ?_)
  obtain ⟨z,A,h⟩:=ob h
  refine eCl (z17_ct N u x _ A) [] [(0,.sl 21),(1,.sl 22),(2,.sl 23),(3,.sl 24)] ?_
  obtain ⟨K,h⟩|⟨K,h⟩:=oc' h
  ·refine wH J 2 K (wa J 10 (eEnd ?_))
   cases h
   exact eRet J func5 []
  refine wH J 2 K ?_
  obtain ⟨C,D,h⟩:=ob h
  refine wa J 2 (eCl (z32_ct N a_.S x5.1 _ D) [] [(0,.sl 7),(1,.sl 8),(2,.sl 15),(3,.sl 16)] ?_)
  obtain ⟨G,H,h⟩:=ob h
  refine wa J 3 (eCl (z17_ct N a_.S x6.1 _ H) [] [(0,.sl 7),(1,.sl 8),(2,.sl 18),(3,.sl 19)] (wa J 3 (eEnd ?_)))
  cases h
  exact eRet J func5 []
 refine wH J 3 K ?_
 obtain ⟨x8,R,h⟩:=ob h
 refine wa J 3 (eCl (z27_ct N g_ m_ x5.1 _ R) [] [(0,.sl 0),(1,.sl 1),(2,.sl 2),(3,.sl 3),(4,.sl 4),(5,.sl 5),(6,.sl 6),(7,.sl 15),(8,.sl 16)] ?_)
 obtain ⟨K,h⟩|⟨K,h⟩:=oc h
 ·refine wH J 4 K ?_
  cases h
  exact wr J 5 func5 []
 refine wH J 4 K ?_
 obtain ⟨x9,T,h⟩:=ob h
 refine wa J 7 (eCl (z27_ct N g_ m_ a_.S _ T) [] [(0,.sl 0),(1,.sl 1),(2,.sl 2),(3,.sl 3),(4,.sl 4),(5,.sl 5),(6,.sl 6),(7,.sl 7),(8,.sl 8)] ?_)
 obtain ⟨U,Y,h⟩:=ob h
 refine wa J 4 (eCl (z28_ct N g_ m_ a_.S _ Y) [] [(0,.sl 0),(1,.sl 1),(2,.sl 2),(3,.sl 3),(4,.sl 4),(5,.sl 5),(6,.sl 6),(7,.sl 7),(8,.sl 8)] ?_)
 obtain ⟨K,h⟩|⟨K,h⟩:=oc' h
 ·refine wH J 2 K (wa J 31 (eEnd ?_))
  cases h
  exact eRet J func5 []
 refine wH J 2 K ?_
 obtain ⟨Z,a0,h⟩:=ob h
 refine wa J 3 (eCl (z23_ct N g_ m_ a_.S _ a0) [] [(0,.sl 0),(1,.sl 1),(2,.sl 2),(3,.sl 3),(4,.sl 4),(5,.sl 5),(6,.sl 6),(7,.sl 7),(8,.sl 8)] ?_)
 obtain ⟨b0,c0,h⟩:=ob h
 refine wa J 4 (eCl (z29_ct N g_ m_ a_.S _ c0) [] [(0,.sl 0),(1,.sl 1),(2,.sl 2),(3,.sl 3),(4,.sl 4),(5,.sl 5),(6,.sl 6),(7,.sl 7),(8,.sl 8)] ?_)
 obtain ⟨K,h⟩|⟨K,h⟩:=oc' h
 ·refine wH J 3 K (wa J 19 (eEnd ?_))
  cases h
  exact eRet J func5 []
 refine wH J 3 K ?_
 obtain ⟨d0,e0,h⟩:=ob h
 refine wa J 2 (eCl (z30_ct N g_ m_ _ e0) [] [(0,.sl 0),(1,.sl 1),(2,.sl 2),(3,.sl 3),(4,.sl 4),(5,.sl 5),(6,.sl 6)] ?_)
 obtain ⟨f0,g0,h⟩:=ob h
 refine wa J 2 (eCl (z31_ct N g_ m_ _ g0) [] [(0,.sl 0),(1,.sl 1),(2,.sl 2),(3,.sl 3),(4,.sl 4),(5,.sl 5),(6,.sl 6)] ?_)
 obtain ⟨i0,j0,h⟩:=ob h
 refine eCl (z17_ct N d0 f0 _ j0) [] [(0,.sl 21),(1,.sl 22),(2,.sl 23),(3,.sl 24)] ?_
 obtain ⟨K,h⟩|⟨K,h⟩:=oc' h
 ·refine wH J 2 K (wa J 10 (eEnd ?_))
  cases h
  exact eRet J func5 []
 refine wH J 2 K ?_
 obtain ⟨k0,l0,h⟩:=ob h
 refine wa J 2 (eCl (z32_ct N a_.S x5.1 _ l0) [] [(0,.sl 7),(1,.sl 8),(2,.sl 15),(3,.sl 16)] ?_)
 obtain ⟨m0,o0,h⟩:=ob h
 refine wa J 3 (eCl (z17_ct N a_.S x6.1 _ o0) [] [(0,.sl 7),(1,.sl 8),(2,.sl 18),(3,.sl 19)] (wa J 3 (eEnd ?_)))
 cases h
 exact eRet J func5 []
end Gx
end
