/- Each function of the statement computes what its plain definition says, part 2. -/
import Derived.Test.YtdomlpmomldmhaaGreatDoorMonitorExactWalk1
set_option linter.all false
section
set_option maxRecDepth 10000
set_option maxHeartbeats 4000000
open Go Go.Kx Go.Proofs Tryz
namespace Gx
theorem z116_ct (N:Nat) (g_:T5) (r:Bool) (h:z116 N g_=some r) :
 Fn Tryz.prog 116 ⟨4,[.a (cC5 0 1 2 3 g_)],(vV5 0 1 2 3 g_ []),[],4,.O r,[],[]⟩:=by
 refine eFn func116 rfl (fun E F w=>?_)
 unfold z116 at h
 refine wa J 10 (eCut (σ:=Unit) (fun st=>(zz1 g_ [(1,.B 4 0)])) (fun st=>z116_k1 N g_=some r) ?_ (fun j1=>?_))
 ·intro _ h
  replace h:z116_k1 N g_=some r:=h
  unfold z116_k1 at h
  obtain ⟨K,h⟩|⟨K,h⟩:=oc' h
  ·refine wH J 6 K ?_
   cases h
   exact wr J 24 func116 []
  refine wH J 6 K ?_
  obtain ⟨K,h⟩|⟨K,h⟩:=oc' h
  ·refine wH J 5 K ?_
   cases h
   exact wr J 19 func116 []
  refine wH J 5 K ?_
  obtain ⟨c,d,h⟩:=ob h
  refine wa J 3 (eCl (z179_ct N g_ g_.Start _ d) [] [(0,.sl 0),(1,.sl 1),(2,.sl 2),(3,.sl 3)] ?_)
  obtain ⟨K,h⟩|⟨K,h⟩:=oc' h
  ·refine wH J 2 K ?_
   cases h
   exact wr J 13 func116 []
  refine wH J 2 K ?_
  obtain ⟨e,f,h⟩:=ob h
  refine wa J 3 (eCl (z179_ct N g_ g_.End _ f) [] [(0,.sl 0),(1,.sl 1),(2,.sl 2),(3,.sl 3)] ?_)
  obtain ⟨K,h⟩|⟨K,h⟩:=oc h
  ·refine wH J 2 K ?_
   cases h
   exact wr J 7 func116 []
  refine wH J 2 K ?_
  cases h
  exact wr J 7 func116 []
 refine wa J 1 (eLoop (σ:=Int) (fun st=>(zz1 g_ [(1,.B 4 0),(3,.I st)])) (fun n st=>z116_l2 N g_ n st) (r:=r) (fun _=>rfl) ?_ (fun ih=>?_))
 ·intro n2 ih3
  intro g h
  replace h:z116_l2 N g_ (n2+1) g=some r:=h
  unfold z116_l2 at h
  obtain ⟨K,h⟩|⟨K,h⟩:=oc' h
  ·exact wH J 9 K (wa J 2 (eSub [] (j1 () h)))
  refine wH J 9 K ?_
  obtain ⟨i,j,h⟩:=ob h
  refine wa J 9 (eIx J oO2 j ?_)
  obtain ⟨k,l,h⟩:=ob h
  refine wa J 9 (eCl (z179_ct N g_ i.From _ l) [] [(0,.sl 0),(1,.sl 1),(2,.sl 2),(3,.sl 3)] ?_)
  obtain ⟨K,h⟩|⟨K,h⟩:=oc h
  ·refine wH J 2 K ?_
   cases h
   exact wr J 66 func116 []
  refine wH J 2 K ?_
  obtain ⟨m,o,h⟩:=ob h
  refine wa J 3 (eCl (z179_ct N g_ i.To _ o) [] [(0,.sl 0),(1,.sl 1),(2,.sl 2),(3,.sl 3)] ?_)
  obtain ⟨K,h⟩|⟨K,h⟩:=oc h
  ·refine wH J 3 K ?_
   cases h
   exact wr J 59 func116 []
  refine wH J 3 K ?_
  obtain ⟨K,h⟩|⟨K,h⟩:=oc h
  ·refine wH J 6 K ?_
   cases h
   exact wr J 53 func116 []
  refine wH J 6 K ?_
  obtain ⟨K,h⟩|⟨K,h⟩:=oc h
  ·refine wH J 9 K ?_
   cases h
   exact wr J 44 func116 []
  refine wH J 9 K ?_
  obtain ⟨K,h⟩|⟨K,h⟩:=oc h
  ·refine wH J 6 K ?_
   cases h
   exact wr J 38 func116 []
  refine wH J 6 K ?_
  obtain ⟨K,h⟩|⟨K,h⟩:=oc h
  ·refine wH J 9 K ?_
   cases h
   exact wr J 29 func116 []
  refine wH J 9 K ?_
  obtain ⟨K,h⟩|⟨K,h⟩:=oc h
  ·refine wH J 9 K ?_
   cases h
   exact wr J 20 func116 []
  refine wH J 9 K ?_
  obtain ⟨K,h⟩|⟨K,h⟩:=oc h
  ·refine wH J 6 K ?_
   cases h
   exact wr J 14 func116 []
  refine wH J 6 K ?_
  obtain ⟨K,h⟩|⟨K,h⟩:=oc h
  ·refine wH J 9 K ?_
   cases h
   exact wr J 5 func116 []
  exact wH J 9 K (wa J 8 (eSub [] (ih3 (w64 (g+1)) h)))
 exact eSub [] (ih N 0 h)
theorem z117_ct (N:Nat) (g_:T5) (r:Bool) (h:z117 N g_=some r) :
 Fn Tryz.prog 117 ⟨4,[.a (cC5 0 1 2 3 g_)],(vV5 0 1 2 3 g_ []),[],4,.O r,[],[]⟩:=by
 refine eFn func117 rfl (fun E F w=>?_)
 unfold z117 at h
 refine wa J 10 (eCut (σ:=Unit) (fun st=>(zz4 g_ [])) (fun st=>z117_k1=some r) ?_ (fun j1=>?_))
 ·intro _ h
  replace h:z117_k1=some r:=h
  unfold z117_k1 at h
  cases h
  exact wr J 4 func117 []
 refine wa J 1 (eLoop (σ:=Int) (fun st=>(zz1 g_ [(1,.B 4 0),(3,.I st)])) (fun n st=>z117_l2 N g_ n st) (r:=r) (fun _=>rfl) ?_ (fun ih=>?_))
 ·intro n12 ih33
  intro c h
  replace h:z117_l2 N g_ (n12+1) c=some r:=h
  unfold z117_l2 at h
  obtain ⟨K,h⟩|⟨K,h⟩:=oc' h
  ·exact wH J 9 K (wa J 2 (eSub [] (j1 () h)))
  refine wH J 9 K ?_
  obtain ⟨d,e,h⟩:=ob h
  refine wa J 9 (eIx J oO2 e ?_)
  refine wa J 10 (eCut (σ:=Bool) (fun st=>(zz11 g_ d [(1,.B 4 0),(3,.I c),(4,.B 6 0),(27,.O st)])) (fun st=>z117_k6 N g_ c (z117_l2 N g_ n12) d st=some r) ?_ (fun j54=>?_))
  ·intro f h
   replace h:z117_k6 N g_ c (z117_l2 N g_ n12) d f=some r:=h
   unfold z117_k6 at h
   obtain ⟨K,h⟩|⟨K,h⟩:=oc h
   ·refine eK K ?_
    cases h
    exact wr J 5 func117 []
   refine eK K (wa J 6 (eCut (σ:=Unit) (fun st=>⟨[(1,.B 4 0),(3,.I c)],[(4,.box (cC5 0 1 2 3 g_) 27)],(vV5 0 1 2 3 g_ []),7⟩) (fun st=>z117_k3 c (z117_l2 N g_ n12)=some r) ?_ (fun j55=>?_)))
   ·intro _ h
    replace h:z117_k3 c (z117_l2 N g_ n12)=some r:=h
    unfold z117_k3 at h
    exact wa J 6 (eSub [] (ih33 (w64 (c+1)) h))
   refine wa J 1 (eLoop (σ:=Int) (fun st=>(zz11 g_ d [(1,.B 4 0),(3,.I c),(4,.B 6 0),(5,.I st)])) (fun n st=>z117_l4 g_ c (z117_l2 N g_ n12) d n st) (r:=r) (fun _=>rfl) ?_ (fun ih=>?_))
   ·intro n14 ih60
    intro g h
    replace h:z117_l4 g_ c (z117_l2 N g_ n12) d (n14+1) g=some r:=h
    unfold z117_l4 at h
    obtain ⟨K,h⟩|⟨K,h⟩:=oc' h
    ·exact wH J 9 K (wa J 2 (eSub [] (j55 () h)))
    refine wH J 9 K ?_
    obtain ⟨i,j,h⟩:=ob h
    refine wa J 9 (eIx J oO2 j ?_)
    refine wa J 11 (eCut (σ:=Bool) (fun st=>(zz24 g_ d i [(1,.B 4 0),(3,.I c),(4,.B 6 0),(5,.I g),(6,.B 8 0),(69,.O st)])) (fun st=>z117_k5 d g (z117_l4 g_ c (z117_l2 N g_ n12) d n14) i st=some r) ?_ (fun j63=>?_))
    ·intro k h
     replace h:z117_k5 d g (z117_l4 g_ c (z117_l2 N g_ n12) d n14) i k=some r:=h
     unfold z117_k5 at h
     obtain ⟨K,h⟩|⟨K,h⟩:=oc h
     ·refine eK K ?_
      cases h
      exact wr J 5 func117 []
     refine eK K ?_
     obtain ⟨K,h⟩|⟨K,h⟩:=oc' h
     ·exact wH J 7 K (wa J 33 (eSub [] (ih60 (w64 (g+1)) h)))
     refine wH J 7 K ?_
     obtain ⟨K,h⟩|⟨K,h⟩:=oc' h
     ·exact wH J 7 K (wa J 26 (eSub [] (ih60 (w64 (g+1)) h)))
     refine wH J 7 K ?_
     obtain ⟨K,h⟩|⟨K,h⟩:=oc h
     ·refine wH J 8 K ?_
      cases h
      exact wr J 15 func117 []
     refine wH J 8 K ?_
     obtain ⟨K,h⟩|⟨K,h⟩:=oc h
     ·refine wH J 10 K ?_
      cases h
      exact wr J 5 func117 []
     exact wH J 10 K (wa J 8 (eSub [] (ih60 (w64 (g+1)) h)))
    obtain ⟨K,h⟩|⟨K,h⟩:=oc' h
    ·exact eK K (wa J 27 (eSub [] (j63 false h)))
    refine eK K ?_
    obtain ⟨K,h⟩|⟨K,h⟩:=oc' h
    ·exact wH J 7 K (wa J 20 (eSub [] (j63 false h)))
    refine wH J 7 K (wa J 4 (eEq ?_))
    obtain ⟨K,h⟩|⟨K,h⟩:=oc h
    ·exact wH J 1 K (wa J 14 (eSub [] (j63 true h)))
    refine wH J 1 K ?_
    obtain ⟨K,h⟩|⟨K,h⟩:=oc h
    ·exact wH J 9 K (wa J 5 (eSub [] (j63 true h)))
    exact wH J 9 K (wa J 5 (eSub [] (j63 d.Again h)))
   exact eSub [] (ih N 0 h)
  obtain ⟨K,h⟩|⟨K,h⟩:=oc h
  ·exact eK K (wa J 7 (eSub [] (j54 (d.From==g_.Start) h)))
  exact eK K (wa J 7 (eSub [] (j54 false h)))
 exact eSub [] (ih N 0 h)
theorem z180_ct (N:Nat) (g_:T5) (r:(List Int)) (h:z180 N g_=some r) :
 Fn Tryz.prog 180 ⟨4,[.a (cC5 0 1 2 3 g_)],(vV5 0 1 2 3 g_ []),[],5,.S 4,[],[(4,.own (rI .i64) r true)]⟩:=by
 refine eFn func180 rfl (fun E F w=>?_)
 unfold z180 at h
 obtain ⟨x1,c,h⟩:=ob h
 refine wa J 9 (eMk J (oI .i64) c (wa J 7 (eCut (σ:=(List Int)) (fun st=>(zz19 g_ st [(1,.B 4 0),(3,.S 5)])) (fun st=>z180_k5 N g_ st=some r) ?_ (fun j1=>?_))))
 ·intro d h
  replace h:z180_k5 N g_ d=some r:=h
  unfold z180_k5 at h
  obtain ⟨x6,e,h⟩:=ob h
  refine wa J 5 (eIo J (rI .i64) e (eSt J [] (oI .i64) 0 e (wa J 6 (eCut (σ:=(List Int)) (fun st=>⟨[(3,.S 5)],[(5,.own (rI .i64) st true)],(vV5 0 1 2 3 g_ []),7⟩) (fun st=>z180_k1 st=some r) ?_ (fun j3=>?_)))))
  ·intro f h
   replace h:z180_k1 f=some r:=h
   unfold z180_k1 at h
   cases h
   exact wr J 5 func180 [(4,.sl 5)]
  refine wa J 1 (eLoop (σ:=(List Int) × Int) (fun st=>(zz9 g_ st.1 [(1,.B 4 0),(3,.S 5),(5,.I st.2)])) (fun n st=>z180_l2 N g_ n st.1 st.2) (r:=r) (fun _=>rfl) ?_ (fun ih=>?_))
  ·intro n13 ih14
   rintro ⟨g,i⟩ h
   replace h:z180_l2 N g_ (n13+1) g i=some r:=h
   unfold z180_l2 at h
   obtain ⟨K,h⟩|⟨K,h⟩:=oc' h
   ·exact wH J 8 K (wa J 2 (eSub [] (j3 g h)))
   refine wH J 8 K (wa J 8 (eCut (σ:=(List Int)) (fun st=>(zz9 g_ st [(1,.B 4 0),(3,.S 5),(5,.I i)])) (fun st=>z180_k3 i (z180_l2 N g_ n13) st=some r) ?_ (fun j21=>?_)))
   ·intro j h
    replace h:z180_k3 i (z180_l2 N g_ n13) j=some r:=h
    unfold z180_k3 at h
    exact wa J 6 (eSub [] (ih14 (j,(w64 (i+1))) h))
   refine wa J 1 (eLoop (σ:=(List Int) × Int) (fun st=>(zz9 g_ st.1 [(1,.B 4 0),(3,.S 5),(5,.I i),(6,.I st.2)])) (fun n st=>z180_l4 g_ i (z180_l2 N g_ n13) n st.1 st.2) (r:=r) (fun _=>rfl) ?_ (fun ih=>?_))
   ·intro n15 ih23
    rintro ⟨k,l⟩ h
    replace h:z180_l4 g_ i (z180_l2 N g_ n13) (n15+1) k l=some r:=h
    unfold z180_l4 at h
    obtain ⟨K,h⟩|⟨K,h⟩:=oc' h
    ·exact wH J 9 K (wa J 2 (eSub [] (j21 k h)))
    refine wH J 9 K ?_
    obtain ⟨m,o,h⟩:=ob h
    refine wa J 9 (eIx J oO2 o ?_)
    obtain ⟨p,q,h⟩:=ob h
    refine wa J 9 (eIo J (rI .i64) q (eLd J (oI .i64) q ?_))
    obtain ⟨K,h⟩|⟨K,h⟩:=oc' h
    ·exact wH J 3 K (wa J 16 (eSub [] (ih23 (k,(w64 (l+1))) h)))
    refine wH J 3 K ?_
    obtain ⟨s,t,h⟩:=ob h
    refine wa J 3 (eIo J (rI .i64) t (eLd J (oI .i64) t ?_))
    obtain ⟨K,h⟩|⟨K,h⟩:=oc' h
    ·exact wH J 3 K (wa J 8 (eSub [] (ih23 (k,(w64 (l+1))) h)))
    refine wH J 3 K ?_
    obtain ⟨u,v,h⟩:=ob h
    exact wa J 7 (eIo J (rI .i64) v (eSt J [] (oI .i64) (w64 (i+1)) v (wa J 7 (eSub [] (ih23 ((setL' k m.From (w64 (i+1))),(w64 (l+1))) h)))))
   exact eSub [] (ih N (g,0) h)
  exact eSub [] (ih N ((setL' d g_.End 0),0) h)
 refine wa J 1 (eLoop (σ:=(List Int) × Int) (fun st=>(zz19 g_ st.1 [(1,.B 4 0),(3,.S 5),(4,.I st.2)])) (fun n st=>z180_l6 N g_ n st.1 st.2) (r:=r) (fun _=>rfl) ?_ (fun ih=>?_))
 ·intro n16 ih24
  rintro ⟨x,y⟩ h
  replace h:z180_l6 N g_ (n16+1) x y=some r:=h
  unfold z180_l6 at h
  obtain ⟨K,h⟩|⟨K,h⟩:=oc' h
  ·exact wH J 8 K (wa J 2 (eSub [] (j1 x h)))
  refine wH J 8 K ?_
  obtain ⟨z,A,h⟩:=ob h
  exact wa J 7 (eIo J (rI .i64) A (eSt J [] (oI .i64) (-1) A (wa J 7 (eSub [] (ih24 ((setL' x y (-1)),(w64 (y+1))) h)))))
 exact eSub [] (ih N (x1,0) h)
theorem z237_ct (N:Nat) (g_:T5) (i_:Int) (k_:Int) (r:Bool) (h:z237 N g_ i_ k_=some r) :
 Fn Tryz.prog 237 ⟨4,[.a (cC5 0 1 2 3 g_),.I i_,.I k_],(vV5 0 1 2 3 g_ []),[],4,.O r,[],[]⟩:=by
 refine eFn func237 rfl (fun E F w=>?_)
 unfold z237 at h
 obtain ⟨x1,c,h⟩:=ob h
 refine wa J 10 (eIx J oO2 c ?_)
 obtain ⟨x2,d,h⟩:=ob h
 refine wa J 5 (eIx J oO2 d (wa J 6 (eEnd ?_)))
 obtain ⟨K,h⟩|⟨K,h⟩:=oc h
 ·refine wH J 9 K ?_
  cases h
  exact wr J 10 func237 []
 refine wH J 9 K ?_
 obtain ⟨K,h⟩|⟨K,h⟩:=oc h
 ·refine wH J 11 K ?_
  cases h
  exact wr J 10 func237 []
 refine wH J 11 K ?_
 cases h
 exact wr J 9 func237 []
theorem z181_ct (N:Nat) (g_:T5) (s_:Int) (r:(List Int)) (h:z181 N g_ s_=some r) :
 Fn Tryz.prog 181 ⟨4,[.a (cC5 0 1 2 3 g_),.I s_],(vV5 0 1 2 3 g_ []),[],5,.S 4,[],[(4,.own (rI .i64) r true)]⟩:=by
 refine eFn func181 rfl (fun E F w=>?_)
 unfold z181 at h
 refine wa J 14 (eCut (σ:=(List Int)) (fun st=>⟨[(5,.S 5)],[(5,.own (rI .i64) st true)],(vV5 0 1 2 3 g_ []),6⟩) (fun st=>z181_k1 st=some r) ?_ (fun j1=>?_))
 ·intro c h
  replace h:z181_k1 c=some r:=h
  unfold z181_k1 at h
  cases h
  exact wr J 5 func181 [(4,.sl 5)]
 refine wa J 1 (eLoop (σ:=(List Int) × Int) (fun st=>(zz19 g_ st.1 [(1,.I s_),(2,.B 4 0),(5,.S 5),(6,.I st.2)])) (fun n st=>z181_l2 N g_ s_ n st.1 st.2) (r:=r) (fun _=>rfl) ?_ (fun ih=>?_))
 ·intro n12 ih12
  rintro ⟨d,e⟩ h
  replace h:z181_l2 N g_ s_ (n12+1) d e=some r:=h
  unfold z181_l2 at h
  obtain ⟨K,h⟩|⟨K,h⟩:=oc' h
  ·exact wH J 9 K (wa J 2 (eSub [] (j1 d h)))
  refine wH J 9 K ?_
  obtain ⟨f,g,h⟩:=ob h
  refine wa J 10 (eIx J oO2 g ?_)
  obtain ⟨K,h⟩|⟨K,h⟩:=oc h
  ·exact wH J 5 K (wa J 7 (eSub [] (ih12 (d,(w64 (e+1))) h)))
  refine wH J 5 K (wa J 7 (eCut (σ:=Int) (fun st=>(zz9 g_ d [(1,.I s_),(2,.B 4 0),(5,.S 5),(6,.I e),(7,.I st)])) (fun st=>z181_k3 d e (z181_l2 N g_ s_ n12) st=some r) ?_ (fun j19=>?_)))
  ·intro i h
   replace h:z181_k3 d e (z181_l2 N g_ s_ n12) i=some r:=h
   unfold z181_k3 at h
   obtain ⟨j,k,h⟩:=ob h
   refine wa J 3 (eVw J (rI .i64) k (wa J 1 (eBs J [] (oI .i64) ([e]:List Int) ?_)))
   obtain ⟨l,m,h⟩:=ob h
   refine wa J 2 (eVw J (rI .i64) m ?_)
   obtain ⟨o,p,h⟩:=ob h
   refine eAv J (rI .i64) m p ?_
   obtain ⟨q,s,h⟩:=ob h
   exact eAz J (rI .i64) k s (wa J 1 (eEnd (wa J 6 (eSub [(5,.sl 11)] (ih12 (q,(w64 (e+1))) h)))))
  refine wa J 1 (eLoop (σ:=Int) (fun st=>(zz9 g_ d [(1,.I s_),(2,.B 4 0),(5,.S 5),(6,.I e),(7,.I st)])) (fun n st=>z181_l4 N g_ d e (z181_l2 N g_ s_ n12) n st) (r:=r) (fun _=>rfl) ?_ (fun ih=>?_))
  ·intro n14 ih21
   intro t h
   replace h:z181_l4 N g_ d e (z181_l2 N g_ s_ n12) (n14+1) t=some r:=h
   unfold z181_l4 at h
   obtain ⟨K,h⟩|⟨K,h⟩:=oc' h
   ·exact wH J 8 K (wa J 8 (eEnd (wa J 2 (eSub [] (j19 t h)))))
   refine wH J 8 K ?_
   obtain ⟨u,v,h⟩:=ob h
   refine wa J 3 (eIo J (rI .i64) v (eLd J (oI .i64) v ?_))
   obtain ⟨x,y,h⟩:=ob h
   refine wa J 1 (eCl (z237_ct N g_ u e _ y) [] [(0,.sl 0),(1,.sl 1),(2,.sl 2),(3,.sl 3)] (wa J 1 (eEnd ?_)))
   obtain ⟨K,h⟩|⟨K,h⟩:=oc h
   ·exact eK K (wa J 9 (eSub [] (ih21 (w64 (t+1)) h)))
   exact eK K (wa J 2 (eSub [] (j19 t h)))
  exact eSub [] (ih N 0 h)
 exact eSub [(5,.nil)] (ih N (([]:List Int),0) h)
theorem z118_ct (N:Nat) (g_:T5) (r:Bool) (h:z118 N g_=some r) :
 Fn Tryz.prog 118 ⟨4,[.a (cC5 0 1 2 3 g_)],(vV5 0 1 2 3 g_ []),[],4,.O r,[],[]⟩:=by
 refine eFn func118 rfl (fun E F w=>?_)
 unfold z118 at h
 obtain ⟨x1,c,h⟩:=ob h
 refine wa J 9 (eMk J oB c ?_)
 obtain ⟨x2,d,h⟩:=ob h
 refine wa J 7 (eIo J rB d (eSt J [] oB true d (wa J 6 (eCut (σ:=(List Bool)) (fun st=>(zz17 g_ st [(1,.B 4 0),(3,.S 5)])) (fun st=>z118_k3 N g_ st=some r) ?_ (fun j1=>?_)))))
 ·intro e h
  replace h:z118_k3 N g_ e=some r:=h
  unfold z118_k3 at h
  obtain ⟨f,g,h⟩:=ob h
  refine wa J 3 (eCl (z180_ct N g_ _ g) [] [(0,.sl 0),(1,.sl 1),(2,.sl 2),(3,.sl 3)] (wa J 7 (eCut (σ:=Unit) (fun st=>⟨[(1,.B 4 0)],[(4,.box (cC5 0 1 2 3 g_) 27)],(vV5 0 1 2 3 g_ []),8⟩) (fun st=>z118_k1 N g_=some r) ?_ (fun j12=>?_))))
  ·intro _ h
   replace h:z118_k1 N g_=some r:=h
   unfold z118_k1 at h
   obtain ⟨i,j,h⟩:=ob h
   refine wa J 5 (eCl (z181_ct N g_ g_.End _ j) [] [(0,.sl 0),(1,.sl 1),(2,.sl 2),(3,.sl 3)] ?_)
   cases h
   exact wr J 4 func118 []
  refine wa J 1 (eLoop (σ:=Int) (fun st=>⟨[(1,.B 4 0),(3,.S 5),(6,.S 7),(7,.I st)],[(4,.box (cC5 0 1 2 3 g_) 27),(5,.own rB e true),(7,.own (rI .i64) f true)],(vV5 0 1 2 3 g_ []),8⟩) (fun n st=>z118_l2 N g_ e f n st) (r:=r) (fun _=>rfl) ?_ (fun ih=>?_))
  ·intro n9 ih14
   intro k h
   replace h:z118_l2 N g_ e f (n9+1) k=some r:=h
   unfold z118_l2 at h
   obtain ⟨K,h⟩|⟨K,h⟩:=oc' h
   ·exact wH J 8 K (wa J 2 (eSub [] (j12 () h)))
   refine wH J 8 K ?_
   obtain ⟨l,m,h⟩:=ob h
   refine wa J 8 (eIo J rB m (eLd J oB m ?_))
   obtain ⟨K,h⟩|⟨K,h⟩:=oc h
   ·refine wH J 2 K ?_
    cases h
    exact wr J 12 func118 []
   refine wH J 2 K ?_
   obtain ⟨o,p,h⟩:=ob h
   refine wa J 2 (eIo J (rI .i64) p (eLd J (oI .i64) p ?_))
   obtain ⟨K,h⟩|⟨K,h⟩:=oc h
   ·refine wH J 3 K ?_
    cases h
    exact wr J 5 func118 []
   exact wH J 3 K (wa J 8 (eSub [] (ih14 (w64 (k+1)) h)))
  exact eSub [] (ih N 0 h)
 refine wa J 1 (eLoop (σ:=(List Bool) × Int) (fun st=>(zz17 g_ st.1 [(1,.B 4 0),(3,.S 5),(4,.I st.2)])) (fun n st=>z118_l4 N g_ n st.1 st.2) (r:=r) (fun _=>rfl) ?_ (fun ih=>?_))
 ·intro n14 ih15
  rintro ⟨q,s⟩ h
  replace h:z118_l4 N g_ (n14+1) q s=some r:=h
  unfold z118_l4 at h
  obtain ⟨K,h⟩|⟨K,h⟩:=oc' h
  ·exact wH J 8 K (wa J 2 (eSub [] (j1 q h)))
  refine wH J 8 K (wa J 8 (eCut (σ:=(List Bool)) (fun st=>(zz17 g_ st [(1,.B 4 0),(3,.S 5),(4,.I s)])) (fun st=>z118_k5 s (z118_l4 N g_ n14) st=some r) ?_ (fun j22=>?_)))
  ·intro t h
   replace h:z118_k5 s (z118_l4 N g_ n14) t=some r:=h
   unfold z118_k5 at h
   exact wa J 6 (eSub [] (ih15 (t,(w64 (s+1))) h))
  refine wa J 1 (eLoop (σ:=(List Bool) × Int) (fun st=>(zz17 g_ st.1 [(1,.B 4 0),(3,.S 5),(4,.I s),(5,.I st.2)])) (fun n st=>z118_l6 g_ s (z118_l4 N g_ n14) n st.1 st.2) (r:=r) (fun _=>rfl) ?_ (fun ih=>?_))
  ·intro n16 ih24
   rintro ⟨u,v⟩ h
   replace h:z118_l6 g_ s (z118_l4 N g_ n14) (n16+1) u v=some r:=h
   unfold z118_l6 at h
   obtain ⟨K,h⟩|⟨K,h⟩:=oc' h
   ·exact wH J 9 K (wa J 2 (eSub [] (j22 u h)))
   refine wH J 9 K ?_
   obtain ⟨x,y,h⟩:=ob h
   refine wa J 9 (eIx J oO2 y ?_)
   obtain ⟨z,A,h⟩:=ob h
   refine wa J 6 (eIx J oO2 A ?_)
   obtain ⟨C,D,h⟩:=ob h
   refine wa J 2 (eIo J rB D (eLd J oB D ?_))
   obtain ⟨K,h⟩|⟨K,h⟩:=oc h
   ·refine wH J 1 K ?_
    obtain ⟨G,H,h⟩:=ob h
    exact wa J 10 (eIo J rB H (eSt J [] oB true H (eEnd (wa J 6 (eSub [] (ih24 ((setL' u x.To true),(w64 (v+1))) h))))))
   refine wH J 1 K ?_
   obtain ⟨R,T,h⟩:=ob h
   refine wa J 4 (eIx J oO2 T ?_)
   obtain ⟨U,X,h⟩:=ob h
   refine wa J 2 (eIo J rB X (eLd J oB X ?_))
   obtain ⟨Y,Z,h⟩:=ob h
   exact wa J 1 (eIo J rB Z (eSt J [] oB U Z (eEnd (wa J 6 (eSub [] (ih24 ((setL' u x.To U),(w64 (v+1))) h))))))
  exact eSub [] (ih N (q,0) h)
 exact eSub [] (ih N ((setL' x1 g_.Start true),0) h)
theorem z119_ct (N:Nat) (g_:T5) (r:Bool) (h:z119 N g_=some r) :
 Fn Tryz.prog 119 ⟨4,[.a (cC5 0 1 2 3 g_)],(vV5 0 1 2 3 g_ []),[],4,.O r,[],[]⟩:=by
 refine eFn func119 rfl (fun E F w=>?_)
 unfold z119 at h
 refine wa J 10 (eCut (σ:=Unit) (fun st=>(zz4 g_ [])) (fun st=>z119_k1=some r) ?_ (fun j1=>?_))
 ·intro _ h
  replace h:z119_k1=some r:=h
  unfold z119_k1 at h
  cases h
  exact wr J 4 func119 []
 refine wa J 1 (eLoop (σ:=Int) (fun st=>(zz1 g_ [(1,.B 4 0),(3,.I st)])) (fun n st=>z119_l2 N g_ n st) (r:=r) (fun _=>rfl) ?_ (fun ih=>?_))
 ·intro n2 ih3
  intro c h
  replace h:z119_l2 N g_ (n2+1) c=some r:=h
  unfold z119_l2 at h
  obtain ⟨K,h⟩|⟨K,h⟩:=oc' h
  ·exact wH J 9 K (wa J 2 (eSub [] (j1 () h)))
  refine wH J 9 K ?_
  obtain ⟨d,e,h⟩:=ob h
  refine wa J 9 (eIx J oO11 e ?_)
  obtain ⟨f,g,h⟩:=ob h
  refine wa J 9 (eCl (z179_ct N g_ d.State _ g) [] [(0,.sl 0),(1,.sl 1),(2,.sl 2),(3,.sl 3)] ?_)
  obtain ⟨K,h⟩|⟨K,h⟩:=oc h
  ·refine wH J 2 K (wa J 59 (eEnd ?_))
   cases h
   exact wr J 5 func119 []
  refine wH J 2 K ?_
  obtain ⟨K,h⟩|⟨K,h⟩:=oc' h
  ·refine wH J 3 K ?_
   obtain ⟨K,h⟩|⟨K,h⟩:=oc h
   ·refine wH J 18 K (wa J 38 (eEnd ?_))
    cases h
    exact wr J 5 func119 []
   refine wH J 18 K ?_
   obtain ⟨K,h⟩|⟨K,h⟩:=oc h
   ·refine wH J 5 K (wa J 33 (eEnd ?_))
    cases h
    exact wr J 5 func119 []
   refine wH J 5 K ?_
   obtain ⟨K,h⟩|⟨K,h⟩:=oc h
   ·refine wH J 5 K (wa J 28 (eEnd ?_))
    cases h
    exact wr J 5 func119 []
   refine wH J 5 K ?_
   obtain ⟨K,h⟩|⟨K,h⟩:=oc h
   ·refine wH J 8 K (wa J 20 (eEnd ?_))
    cases h
    exact wr J 5 func119 []
   refine wH J 8 K ?_
   obtain ⟨i,j,h⟩:=ob h
   refine wa J 4 (eIx J oO2 j ?_)
   obtain ⟨K,h⟩|⟨K,h⟩:=oc h
   ·refine wH J 7 K (wa J 8 (eEnd ?_))
    cases h
    exact wr J 5 func119 []
   refine wH J 7 K ?_
   obtain ⟨k,l,h⟩:=ob h
   refine wa J 4 (eIx J oO2 l (wa J 3 (eEnd ?_)))
   obtain ⟨K,h⟩|⟨K,h⟩:=oc h
   ·refine eK K ?_
    cases h
    exact wr J 5 func119 []
   exact eK K (wa J 8 (eSub [] (ih3 (w64 (c+1)) h)))
  refine wH J 3 K ?_
  obtain ⟨m,o,h⟩:=ob h
  refine wa J 6 (eIx J oO11 o ?_)
  obtain ⟨K,h⟩|⟨K,h⟩:=oc h
  ·refine wH J 6 K (wa J 43 (eEnd ?_))
   cases h
   exact wr J 5 func119 []
  refine wH J 6 K ?_
  obtain ⟨K,h⟩|⟨K,h⟩:=oc h
  ·refine wH J 5 K (wa J 38 (eEnd ?_))
   cases h
   exact wr J 5 func119 []
  refine wH J 5 K ?_
  obtain ⟨K,h⟩|⟨K,h⟩:=oc h
  ·refine wH J 5 K (wa J 33 (eEnd ?_))
   cases h
   exact wr J 5 func119 []
  refine wH J 5 K ?_
  obtain ⟨K,h⟩|⟨K,h⟩:=oc h
  ·refine wH J 5 K (wa J 28 (eEnd ?_))
   cases h
   exact wr J 5 func119 []
  refine wH J 5 K ?_
  obtain ⟨K,h⟩|⟨K,h⟩:=oc h
  ·refine wH J 8 K (wa J 20 (eEnd ?_))
   cases h
   exact wr J 5 func119 []
  refine wH J 8 K ?_
  obtain ⟨p,q,h⟩:=ob h
  refine wa J 4 (eIx J oO2 q ?_)
  obtain ⟨K,h⟩|⟨K,h⟩:=oc h
  ·refine wH J 7 K (wa J 8 (eEnd ?_))
   cases h
   exact wr J 5 func119 []
  refine wH J 7 K ?_
  obtain ⟨s,t,h⟩:=ob h
  refine wa J 4 (eIx J oO2 t (wa J 3 (eEnd ?_)))
  obtain ⟨K,h⟩|⟨K,h⟩:=oc h
  ·refine eK K ?_
   cases h
   exact wr J 5 func119 []
  exact eK K (wa J 8 (eSub [] (ih3 (w64 (c+1)) h)))
 exact eSub [] (ih N 0 h)
theorem z59_ct (N:Nat) (g_:T5) (r:Bool) (h:z59 N g_=some r) :
 Fn Tryz.prog 59 ⟨4,[.a (cC5 0 1 2 3 g_)],(vV5 0 1 2 3 g_ []),[],4,.O r,[],[]⟩:=by
 refine eFn func59 rfl (fun E F w=>?_)
 unfold z59 at h
 obtain ⟨x1,c,h⟩:=ob h
 refine wa J 8 (eCl (z115_ct N g_ _ c) [] [(0,.sl 0),(1,.sl 1),(2,.sl 2),(3,.sl 3)] ?_)
 obtain ⟨K,h⟩|⟨K,h⟩:=oc' h
 ·refine wH J 1 K ?_
  cases h
  exact wr J 17 func59 []
 refine wH J 1 K ?_
 obtain ⟨x2,d,h⟩:=ob h
 refine wa J 1 (eCl (z116_ct N g_ _ d) [] [(0,.sl 0),(1,.sl 1),(2,.sl 2),(3,.sl 3)] ?_)
 obtain ⟨K,h⟩|⟨K,h⟩:=oc' h
 ·refine wH J 2 K ?_
  cases h
  exact wr J 13 func59 []
 refine wH J 2 K ?_
 obtain ⟨x3,e,h⟩:=ob h
 refine wa J 1 (eCl (z117_ct N g_ _ e) [] [(0,.sl 0),(1,.sl 1),(2,.sl 2),(3,.sl 3)] ?_)
 obtain ⟨K,h⟩|⟨K,h⟩:=oc' h
 ·refine wH J 2 K ?_
  cases h
  exact wr J 9 func59 []
 refine wH J 2 K ?_
 obtain ⟨x4,f,h⟩:=ob h
 refine wa J 1 (eCl (z118_ct N g_ _ f) [] [(0,.sl 0),(1,.sl 1),(2,.sl 2),(3,.sl 3)] ?_)
 obtain ⟨K,h⟩|⟨K,h⟩:=oc' h
 ·refine wH J 2 K ?_
  cases h
  exact wr J 5 func59 []
 refine wH J 2 K ?_
 obtain ⟨x5,g,h⟩:=ob h
 refine wa J 1 (eCl (z119_ct N g_ _ g) [] [(0,.sl 0),(1,.sl 1),(2,.sl 2),(3,.sl 3)] ?_)
 cases h
 exact wr J 3 func59 []
theorem z120_ct (N:Nat) (m_:T8) (r:Bool) (h:z120 N m_=some r) :
 Fn Tryz.prog 120 ⟨3,[.a (cC8 0 1 2 m_)],(vV8 0 1 2 m_ []),[],3,.O r,[],[]⟩:=by
 refine eFn func120 rfl (fun E F w=>?_)
 unfold z120 at h
 obtain ⟨K,h⟩|⟨K,h⟩:=oc h
 ·refine wH J 12 K ?_
  cases h
  exact wr J 46 func120 []
 refine wH J 12 K ?_
 obtain ⟨K,h⟩|⟨K,h⟩:=oc h
 ·refine wH J 5 K ?_
  cases h
  exact wr J 41 func120 []
 refine wH J 5 K ?_
 obtain ⟨K,h⟩|⟨K,h⟩:=oc h
 ·refine wH J 5 K ?_
  cases h
  exact wr J 36 func120 []
 refine wH J 5 K ?_
 obtain ⟨K,h⟩|⟨K,h⟩:=oc h
 ·refine wH J 5 K ?_
  cases h
  exact wr J 31 func120 []
 refine wH J 5 K ?_
 obtain ⟨K,h⟩|⟨K,h⟩:=oc h
 ·refine wH J 5 K ?_
  cases h
  exact wr J 26 func120 []
 refine wH J 5 K ?_
 obtain ⟨K,h⟩|⟨K,h⟩:=oc h
 ·refine wH J 7 K ?_
  cases h
  exact wr J 19 func120 []
 refine wH J 7 K ?_
 obtain ⟨K,h⟩|⟨K,h⟩:=oc h
 ·refine wH J 8 K ?_
  cases h
  exact wr J 11 func120 []
 refine wH J 8 K ?_
 obtain ⟨K,h⟩|⟨K,h⟩:=oc h
 ·refine wH J 6 K ?_
  cases h
  exact wr J 5 func120 []
 refine wH J 6 K (wa J 7 (eCut (σ:=Unit) (fun st=>⟨[],[],(vV8 0 1 2 m_ []),4⟩) (fun st=>z120_k1=some r) ?_ (fun j1=>?_)))
 ·intro _ h
  replace h:z120_k1=some r:=h
  unfold z120_k1 at h
  cases h
  exact wr J 4 func120 []
 refine wa J 1 (eLoop (σ:=Int) (fun st=>(zz13 m_ [(1,.B 3 0),(3,.I st)])) (fun n st=>z120_l2 m_ n st) (r:=r) (fun _=>rfl) ?_ (fun ih=>?_))
 ·intro n2 ih3
  intro c h
  replace h:z120_l2 m_ (n2+1) c=some r:=h
  unfold z120_l2 at h
  obtain ⟨K,h⟩|⟨K,h⟩:=oc' h
  ·exact wH J 9 K (wa J 2 (eSub [] (j1 () h)))
  refine wH J 9 K ?_
  obtain ⟨x9,d,h⟩:=ob h
  refine wa J 9 (eIx J oO9 d ?_)
  obtain ⟨K,h⟩|⟨K,h⟩:=oc h
  ·refine wH J 10 K ?_
   cases h
   exact wr J 51 func120 []
  refine wH J 10 K ?_
  obtain ⟨K,h⟩|⟨K,h⟩:=oc h
  ·refine wH J 7 K ?_
   cases h
   exact wr J 44 func120 []
  refine wH J 7 K ?_
  obtain ⟨K,h⟩|⟨K,h⟩:=oc h
  ·refine wH J 5 K ?_
   cases h
   exact wr J 39 func120 []
  refine wH J 5 K ?_
  obtain ⟨K,h⟩|⟨K,h⟩:=oc h
  ·refine wH J 7 K ?_
   cases h
   exact wr J 32 func120 []
  refine wH J 7 K ?_
  obtain ⟨K,h⟩|⟨K,h⟩:=oc h
  ·refine wH J 5 K ?_
   cases h
   exact wr J 27 func120 []
  refine wH J 5 K ?_
  obtain ⟨K,h⟩|⟨K,h⟩:=oc h
  ·refine wH J 5 K ?_
   cases h
   exact wr J 22 func120 []
  refine wH J 5 K ?_
  obtain ⟨K,h⟩|⟨K,h⟩:=oc h
  ·refine wH J 7 K ?_
   cases h
   exact wr J 15 func120 []
  refine wH J 7 K ?_
  obtain ⟨K,h⟩|⟨K,h⟩:=oc h
  ·refine wH J 5 K ?_
   cases h
   exact wr J 10 func120 []
  refine wH J 5 K ?_
  obtain ⟨K,h⟩|⟨K,h⟩:=oc h
  ·refine wH J 5 K ?_
   cases h
   exact wr J 5 func120 []
  exact wH J 5 K (wa J 8 (eSub [] (ih3 (w64 (c+1)) h)))
 exact eSub [] (ih N 0 h)
theorem z121_ct (N:Nat) (m_:T8) (r:Bool) (h:z121 N m_=some r) :
 Fn Tryz.prog 121 ⟨3,[.a (cC8 0 1 2 m_)],(vV8 0 1 2 m_ []),[],3,.O r,[],[]⟩:=by
 refine eFn func121 rfl (fun E F w=>?_)
 unfold z121 at h
 refine wa J 10 (eCut (σ:=Unit) (fun st=>⟨[],[],(vV8 0 1 2 m_ []),4⟩) (fun st=>z121_k1=some r) ?_ (fun j1=>?_))
 ·intro _ h
  replace h:z121_k1=some r:=h
  unfold z121_k1 at h
  cases h
  exact wr J 4 func121 []
 refine wa J 1 (eLoop (σ:=Int) (fun st=>(zz13 m_ [(1,.B 3 0),(3,.I st)])) (fun n st=>z121_l2 N m_ n st) (r:=r) (fun _=>rfl) ?_ (fun ih=>?_))
 ·intro n12 ih33
  intro c h
  replace h:z121_l2 N m_ (n12+1) c=some r:=h
  unfold z121_l2 at h
  obtain ⟨K,h⟩|⟨K,h⟩:=oc' h
  ·exact wH J 9 K (wa J 2 (eSub [] (j1 () h)))
  refine wH J 9 K ?_
  obtain ⟨d,e,h⟩:=ob h
  refine wa J 9 (eIx J oO9 e ?_)
  refine wa J 10 (eCut (σ:=Bool) (fun st=>⟨[(1,.B 3 0),(3,.I c),(4,.B 5 0),(40,.O st)],[(3,.box (cC8 0 1 2 m_) 31),(5,.box (cC9 d) 93)],(vV8 0 1 2 m_ []),6⟩) (fun st=>z121_k6 N m_ c (z121_l2 N m_ n12) d st=some r) ?_ (fun j54=>?_))
  ·intro f h
   replace h:z121_k6 N m_ c (z121_l2 N m_ n12) d f=some r:=h
   unfold z121_k6 at h
   obtain ⟨K,h⟩|⟨K,h⟩:=oc h
   ·refine eK K ?_
    cases h
    exact wr J 5 func121 []
   refine eK K (wa J 6 (eCut (σ:=Unit) (fun st=>⟨[(1,.B 3 0),(3,.I c)],[(3,.box (cC8 0 1 2 m_) 31)],(vV8 0 1 2 m_ []),6⟩) (fun st=>z121_k3 c (z121_l2 N m_ n12)=some r) ?_ (fun j55=>?_)))
   ·intro _ h
    replace h:z121_k3 c (z121_l2 N m_ n12)=some r:=h
    unfold z121_k3 at h
    exact wa J 6 (eSub [] (ih33 (w64 (c+1)) h))
   refine wa J 1 (eLoop (σ:=Int) (fun st=>⟨[(1,.B 3 0),(3,.I c),(4,.B 5 0),(5,.I st)],[(3,.box (cC8 0 1 2 m_) 31),(5,.box (cC9 d) 93)],(vV8 0 1 2 m_ []),6⟩) (fun n st=>z121_l4 m_ c (z121_l2 N m_ n12) d n st) (r:=r) (fun _=>rfl) ?_ (fun ih=>?_))
   ·intro n14 ih60
    intro g h
    replace h:z121_l4 m_ c (z121_l2 N m_ n12) d (n14+1) g=some r:=h
    unfold z121_l4 at h
    obtain ⟨K,h⟩|⟨K,h⟩:=oc' h
    ·exact wH J 9 K (wa J 2 (eSub [] (j55 () h)))
    refine wH J 9 K ?_
    obtain ⟨i,j,h⟩:=ob h
    refine wa J 9 (eIx J oO9 j ?_)
    refine wa J 11 (eCut (σ:=Bool) (fun st=>⟨[(1,.B 3 0),(3,.I c),(4,.B 5 0),(5,.I g),(6,.B 7 0),(87,.O st)],[(3,.box (cC8 0 1 2 m_) 31),(5,.box (cC9 d) 93),(7,.box (cC9 i) 93)],(vV8 0 1 2 m_ []),8⟩) (fun st=>z121_k5 d g (z121_l4 m_ c (z121_l2 N m_ n12) d n14) i st=some r) ?_ (fun j63=>?_))
    ·intro k h
     replace h:z121_k5 d g (z121_l4 m_ c (z121_l2 N m_ n12) d n14) i k=some r:=h
     unfold z121_k5 at h
     obtain ⟨K,h⟩|⟨K,h⟩:=oc h
     ·refine eK K ?_
      cases h
      exact wr J 5 func121 []
     refine eK K ?_
     obtain ⟨K,h⟩|⟨K,h⟩:=oc' h
     ·exact wH J 7 K (wa J 27 (eSub [] (ih60 (w64 (g+1)) h)))
     refine wH J 7 K ?_
     obtain ⟨K,h⟩|⟨K,h⟩:=oc' h
     ·exact wH J 7 K (wa J 20 (eSub [] (ih60 (w64 (g+1)) h)))
     refine wH J 7 K ?_
     obtain ⟨K,h⟩|⟨K,h⟩:=oc h
     ·refine wH J 4 K ?_
      cases h
      exact wr J 13 func121 []
     refine wH J 4 K ?_
     obtain ⟨K,h⟩|⟨K,h⟩:=oc h
     ·refine wH J 8 K ?_
      cases h
      exact wr J 5 func121 []
     exact wH J 8 K (wa J 8 (eSub [] (ih60 (w64 (g+1)) h)))
    obtain ⟨K,h⟩|⟨K,h⟩:=oc' h
    ·exact eK K (wa J 32 (eSub [] (j63 false h)))
    refine eK K ?_
    obtain ⟨K,h⟩|⟨K,h⟩:=oc' h
    ·exact wH J 7 K (wa J 25 (eSub [] (j63 false h)))
    refine wH J 7 K ?_
    obtain ⟨K,h⟩|⟨K,h⟩:=oc h
    ·exact wH J 6 K (wa J 19 (eSub [] (j63 true h)))
    refine wH J 6 K ?_
    obtain ⟨K,h⟩|⟨K,h⟩:=oc' h
    ·exact wH J 6 K (wa J 13 (eSub [] (j63 d.Again h)))
    refine wH J 6 K ?_
    obtain ⟨K,h⟩|⟨K,h⟩:=oc h
    ·exact wH J 8 K (wa J 5 (eSub [] (j63 true h)))
    exact wH J 8 K (wa J 5 (eSub [] (j63 d.Again h)))
   exact eSub [] (ih N 0 h)
  obtain ⟨K,h⟩|⟨K,h⟩:=oc' h
  ·exact eK K (wa J 20 (eSub [] (j54 false h)))
  refine eK K ?_
  obtain ⟨K,h⟩|⟨K,h⟩:=oc h
  ·exact wH J 4 K (wa J 16 (eSub [] (j54 true h)))
  refine wH J 4 K ?_
  obtain ⟨K,h⟩|⟨K,h⟩:=oc h
  ·exact wH J 7 K (wa J 9 (eSub [] (j54 true h)))
  refine wH J 7 K ?_
  obtain ⟨l,m,h⟩:=ob h
  exact wa J 4 (eIx J oB m (wa J 4 (eSub [] (j54 l h))))
 exact eSub [] (ih N 0 h)
theorem z122_ct (N:Nat) (m_:T8) (r:Bool) (h:z122 N m_=some r) :
 Fn Tryz.prog 122 ⟨3,[.a (cC8 0 1 2 m_)],(vV8 0 1 2 m_ []),[],3,.O r,[],[]⟩:=by
 refine eFn func122 rfl (fun E F w=>?_)
 unfold z122 at h
 refine wa J 10 (eCut (σ:=Unit) (fun st=>⟨[],[],(vV8 0 1 2 m_ []),4⟩) (fun st=>z122_k1=some r) ?_ (fun j1=>?_))
 ·intro _ h
  replace h:z122_k1=some r:=h
  unfold z122_k1 at h
  cases h
  exact wr J 4 func122 []
 refine wa J 1 (eLoop (σ:=Int) (fun st=>(zz13 m_ [(1,.B 3 0),(3,.I st)])) (fun n st=>z122_l2 m_ n st) (r:=r) (fun _=>rfl) ?_ (fun ih=>?_))
 ·intro n2 ih6
  intro c h
  replace h:z122_l2 m_ (n2+1) c=some r:=h
  unfold z122_l2 at h
  obtain ⟨K,h⟩|⟨K,h⟩:=oc' h
  ·exact wH J 9 K (wa J 2 (eSub [] (j1 () h)))
  refine wH J 9 K ?_
  obtain ⟨d,e,h⟩:=ob h
  refine wa J 9 (eIx J oO11 e ?_)
  refine wa J 11 (eCut (σ:=Bool) (fun st=>⟨[(1,.B 3 0),(3,.I c),(4,.B 5 0),(54,.O st)],[(3,.box (cC8 0 1 2 m_) 31),(5,.box (cC11 d) 235)],(vV8 0 1 2 m_ []),6⟩) (fun st=>z122_k3 m_ c (z122_l2 m_ n2) d st=some r) ?_ (fun j9=>?_))
  ·intro f h
   replace h:z122_k3 m_ c (z122_l2 m_ n2) d f=some r:=h
   unfold z122_k3 at h
   obtain ⟨K,h⟩|⟨K,h⟩:=oc h
   ·refine eK K ?_
    cases h
    exact wr J 5 func122 []
   refine eK K ?_
   obtain ⟨g,i,h⟩:=ob h
   refine wa J 8 (eIx J oO9 i ?_)
   obtain ⟨K,h⟩|⟨K,h⟩:=oc h
   ·refine wH J 12 K ?_
    cases h
    exact wr J 14 func122 []
   refine wH J 12 K ?_
   obtain ⟨K,h⟩|⟨K,h⟩:=oc h
   ·refine wH J 5 K ?_
    cases h
    exact wr J 9 func122 []
   refine wH J 5 K ?_
   obtain ⟨K,h⟩|⟨K,h⟩:=oc h
   ·refine wH J 4 K ?_
    cases h
    exact wr J 5 func122 []
   exact wH J 4 K (wa J 8 (eSub [] (ih6 (w64 (c+1)) h)))
  obtain ⟨K,h⟩|⟨K,h⟩:=oc h
  ·exact eK K (wa J 33 (eEnd (eSub [] (j9 true h))))
  refine eK K ?_
  obtain ⟨K,h⟩|⟨K,h⟩:=oc h
  ·exact wH J 5 K (wa J 28 (eEnd (eSub [] (j9 true h))))
  refine wH J 5 K ?_
  obtain ⟨K,h⟩|⟨K,h⟩:=oc h
  ·exact wH J 5 K (wa J 23 (eEnd (eSub [] (j9 true h))))
  refine wH J 5 K ?_
  obtain ⟨K,h⟩|⟨K,h⟩:=oc h
  ·exact wH J 8 K (wa J 15 (eEnd (eSub [] (j9 true h))))
  refine wH J 8 K ?_
  obtain ⟨K,h⟩|⟨K,h⟩:=oc' h
  ·exact wH J 3 K (wa J 12 (eEnd (eSub [] (j9 false h))))
  refine wH J 3 K ?_
  obtain ⟨j,k,h⟩:=ob h
  exact wa J 6 (eIx J oO11 k (wa J 5 (eEnd (eSub [] (j9 (decide (d.State≤j.State)) h)))))
 exact eSub [] (ih N 0 h)
theorem z182_ct (N:Nat) (l_:(List Int)) (n_:Int) (r:Bool) (h:z182 N l_ n_=some r) :
 Fn Tryz.prog 182 ⟨1,[.S 0,.I n_],[(0,.sl (rI .i64) l_)],[],1,.O r,[],[]⟩:=by
 refine eFn func182 rfl (fun E F w=>?_)
 unfold z182 at h
 refine wa J 9 (eCut (σ:=Unit) (fun st=>(zz3 l_ [])) (fun st=>z182_k1=some r) ?_ (fun j1=>?_))
 ·intro _ h
  replace h:z182_k1=some r:=h
  unfold z182_k1 at h
  cases h
  exact wr J 4 func182 []
 refine wa J 1 (eLoop (σ:=Int) (fun st=>(zz3 l_ [(0,.S 0),(1,.I n_),(5,.I st)])) (fun n st=>z182_l2 l_ n_ n st) (r:=r) (fun _=>rfl) ?_ (fun ih=>?_))
 ·intro n2 ih3
  intro c h
  replace h:z182_l2 l_ n_ (n2+1) c=some r:=h
  unfold z182_l2 at h
  obtain ⟨K,h⟩|⟨K,h⟩:=oc' h
  ·exact wH J 8 K (wa J 2 (eSub [] (j1 () h)))
  refine wH J 8 K ?_
  obtain ⟨x9,d,h⟩:=ob h
  refine wa J 8 (eIx J (oI .i64) d ?_)
  obtain ⟨K,h⟩|⟨K,h⟩:=oc h
  ·refine wH J 4 K ?_
   cases h
   exact wr J 5 func182 []
  exact wH J 4 K (wa J 8 (eSub [] (ih3 (w64 (c+1)) h)))
 exact eSub [] (ih N 0 h)
theorem z183_ct (N:Nat) (l_:(List Int)) (n_:Int) (r:(List Int)) (h:z183 N l_ n_=some r) :
 Fn Tryz.prog 183 ⟨1,[.S 0,.I n_],[(0,.sl (rI .i64) l_)],[],2,.S 1,[],[(1,.own (rI .i64) r true)]⟩:=by
 refine eFn func183 rfl (fun E F w=>?_)
 unfold z183 at h
 refine wa J 17 (eCut (σ:=(List Int) × Bool) (fun st=>(zz12 st.1 l_ [(1,.I n_),(5,.S 1),(6,.O st.2)])) (fun st=>z183_k1 n_ st.1 st.2=some r) ?_ (fun j1=>?_))
 ·rintro ⟨c,d⟩ h
  replace h:z183_k1 n_ c d=some r:=h
  unfold z183_k1 at h
  obtain ⟨K,h⟩|⟨K,h⟩:=oc' h
  ·refine wH J 6 K ?_
   cases h
   exact wr J 7 func183 [(1,.sl 1)]
  refine wH J 6 K (wa J 4 (eBs J [] (oI .i64) ([n_]:List Int) ?_))
  obtain ⟨e,f,h⟩:=ob h
  refine eAp J (rI .i64) f ?_
  cases h
  exact wr J 7 func183 [(1,.sl 3)]
 refine wa J 1 (eLoop (σ:=(List Int) × Bool × Int) (fun st=>(zz12 st.1 l_ [(0,.S 0),(1,.I n_),(5,.S 1),(6,.O st.2.1),(7,.I st.2.2)])) (fun n st=>z183_l2 l_ n_ n st.1 st.2.1 st.2.2) (r:=r) (fun _=>rfl) ?_ (fun ih=>?_))
 ·intro n2 ih3
  rintro ⟨g,i,j⟩ h
  replace h:z183_l2 l_ n_ (n2+1) g i j=some r:=h
  unfold z183_l2 at h
  obtain ⟨K,h⟩|⟨K,h⟩:=oc' h
  ·exact wH J 8 K (wa J 2 (eSub [] (j1 (g,i) h)))
  refine wH J 8 K ?_
  obtain ⟨K,h⟩|⟨K,h⟩:=oc' h
  ·refine wH J 10 K ?_
   obtain ⟨k,l,h⟩:=ob h
   refine wa J 14 (eIx J (oI .i64) l (wa J 1 (eBs J [] (oI .i64) ([k]:List Int) ?_)))
   obtain ⟨m,o,h⟩:=ob h
   exact eAp J (rI .i64) o (wa J 8 (eSub [(1,.sl 4)] (ih3 (m,i,(w64 (j+1))) h)))
  refine wH J 10 K ?_
  obtain ⟨p,q,h⟩:=ob h
  refine wa J 2 (eIx J (oI .i64) q ?_)
  obtain ⟨K,h⟩|⟨K,h⟩:=oc' h
  ·refine wH J 5 K ?_
   obtain ⟨s,t,h⟩:=ob h
   refine wa J 6 (eIx J (oI .i64) t (wa J 1 (eBs J [] (oI .i64) ([s]:List Int) ?_)))
   obtain ⟨u,v,h⟩:=ob h
   exact eAp J (rI .i64) v (wa J 8 (eSub [(1,.sl 5)] (ih3 (u,i,(w64 (j+1))) h)))
  refine wH J 5 K ?_
  obtain ⟨x,y,h⟩:=ob h
  refine wa J 6 (eIx J (oI .i64) y ?_)
  obtain ⟨K,h⟩|⟨K,h⟩:=oc' h
  ·refine wH J 4 K ?_
   obtain ⟨z,A,h⟩:=ob h
   refine wa J 9 (eIx J (oI .i64) A (wa J 1 (eBs J [] (oI .i64) ([z]:List Int) ?_)))
   obtain ⟨C,D,h⟩:=ob h
   exact eAp J (rI .i64) D (wa J 8 (eSub [(1,.sl 6)] (ih3 (C,true,(w64 (j+1))) h)))
  refine wH J 4 K (wa J 4 (eBs J [] (oI .i64) ([n_]:List Int) ?_))
  obtain ⟨G,H,h⟩:=ob h
  refine eAp J (rI .i64) H ?_
  obtain ⟨R,T,h⟩:=ob h
  refine wa J 9 (eIx J (oI .i64) T (wa J 1 (eBs J [] (oI .i64) ([R]:List Int) ?_)))
  obtain ⟨U,X,h⟩:=ob h
  exact eAp J (rI .i64) X (wa J 8 (eSub [(1,.sl 8)] (ih3 (U,true,(w64 (j+1))) h)))
 exact eSub [(1,.nil)] (ih N (([]:List Int),false,0) h)
theorem z123_ct (N:Nat) (m_:T8) (r:(List Int)) (h:z123 N m_=some r) :
 Fn Tryz.prog 123 ⟨3,[.a (cC8 0 1 2 m_)],(vV8 0 1 2 m_ []),[],4,.S 3,[],[(3,.own (rI .i64) r true)]⟩:=by
 refine eFn func123 rfl (fun E F w=>?_)
 unfold z123 at h
 refine wa J 9 (eBs J [] (oI .i64) ([m_.Start]:List Int) (wa J 7 (eCut (σ:=(List Int)) (fun st=>⟨[(3,.S 5)],[(5,.own (rI .i64) st true)],(vV8 0 1 2 m_ []),6⟩) (fun st=>z123_k1 st=some r) ?_ (fun j1=>?_))))
 ·intro c h
  replace h:z123_k1 c=some r:=h
  unfold z123_k1 at h
  cases h
  exact wr J 5 func123 [(3,.sl 5)]
 refine wa J 1 (eLoop (σ:=(List Int) × Int) (fun st=>⟨[(1,.B 3 0),(3,.S 5),(4,.I st.2)],[(3,.box (cC8 0 1 2 m_) 31),(5,.own (rI .i64) st.1 true)],(vV8 0 1 2 m_ []),6⟩) (fun n st=>z123_l2 N m_ n st.1 st.2) (r:=r) (fun _=>rfl) ?_ (fun ih=>?_))
 ·intro n12 ih12
  rintro ⟨d,e⟩ h
  replace h:z123_l2 N m_ (n12+1) d e=some r:=h
  unfold z123_l2 at h
  obtain ⟨K,h⟩|⟨K,h⟩:=oc' h
  ·exact wH J 8 K (wa J 2 (eSub [] (j1 d h)))
  refine wH J 8 K (wa J 8 (eCut (σ:=(List Int)) (fun st=>⟨[(1,.B 3 0),(3,.S 6),(4,.I e)],[(3,.box (cC8 0 1 2 m_) 31),(6,.own (rI .i64) st true)],(vV8 0 1 2 m_ []),7⟩) (fun st=>z123_k3 e (z123_l2 N m_ n12) st=some r) ?_ (fun j19=>?_)))
  ·intro f h
   replace h:z123_k3 e (z123_l2 N m_ n12) f=some r:=h
   unfold z123_k3 at h
   exact wa J 6 (eSub [(5,.sl 6)] (ih12 (f,(w64 (e+1))) h))
  refine wa J 1 (eLoop (σ:=(List Int) × Int) (fun st=>⟨[(1,.B 3 0),(3,.S 6),(4,.I e),(5,.I st.2)],[(3,.box (cC8 0 1 2 m_) 31),(6,.own (rI .i64) st.1 true)],(vV8 0 1 2 m_ []),7⟩) (fun n st=>z123_l4 N m_ e (z123_l2 N m_ n12) n st.1 st.2) (r:=r) (fun _=>rfl) ?_ (fun ih=>?_))
  ·intro n14 ih21
   rintro ⟨g,i⟩ h
   replace h:z123_l4 N m_ e (z123_l2 N m_ n12) (n14+1) g i=some r:=h
   unfold z123_l4 at h
   obtain ⟨K,h⟩|⟨K,h⟩:=oc' h
   ·exact wH J 9 K (wa J 2 (eSub [] (j19 g h)))
   refine wH J 9 K ?_
   obtain ⟨j,k,h⟩:=ob h
   refine wa J 10 (eIx J oO9 k ?_)
   obtain ⟨l,m,h⟩:=ob h
   refine wa J 2 (eCb (z182_ct N g j.From _ m) [] [(0,.sl 6)] [6] (.inr ⟨rfl,trivial⟩) ?_)
   obtain ⟨K,h⟩|⟨K,h⟩:=oc' h
   ·exact wH J 1 K (wa J 8 (eSub [] (ih21 (g,(w64 (i+1))) h)))
   refine wH J 1 K ?_
   obtain ⟨o,p,h⟩:=ob h
   refine wa J 6 (eIx J oO9 p ?_)
   obtain ⟨q,s,h⟩:=ob h
   exact wa J 2 (eCb (z183_ct N g o.To _ s) [] [(0,.sl 6)] [6] (.inr ⟨rfl,⟨(rI_flat _),trivial⟩⟩) (wa J 8 (eSub [(6,.sl 9)] (ih21 (q,(w64 (i+1))) h))))
  exact eSub [(6,.sl 5)] (ih N (d,0) h)
 exact eSub [(5,.sl 4)] (ih N (([m_.Start]:List Int),0) h)
theorem z60_ct (N:Nat) (m_:T8) (r:Bool) (h:z60 N m_=some r) :
 Fn Tryz.prog 60 ⟨3,[.a (cC8 0 1 2 m_)],(vV8 0 1 2 m_ []),[],3,.O r,[],[]⟩:=by
 refine eFn func60 rfl (fun E F w=>?_)
 unfold z60 at h
 obtain ⟨x1,c,h⟩:=ob h
 refine wa J 8 (eCl (z120_ct N m_ _ c) [] [(0,.sl 0),(1,.sl 1),(2,.sl 2)] ?_)
 obtain ⟨K,h⟩|⟨K,h⟩:=oc' h
 ·refine wH J 1 K (wa J 16 (eEnd ?_))
  cases h
  exact eRet J func60 []
 refine wH J 1 K ?_
 obtain ⟨x2,d,h⟩:=ob h
 refine wa J 1 (eCl (z121_ct N m_ _ d) [] [(0,.sl 0),(1,.sl 1),(2,.sl 2)] ?_)
 obtain ⟨K,h⟩|⟨K,h⟩:=oc' h
 ·refine wH J 2 K (wa J 12 (eEnd ?_))
  cases h
  exact eRet J func60 []
 refine wH J 2 K ?_
 obtain ⟨x3,e,h⟩:=ob h
 refine wa J 1 (eCl (z122_ct N m_ _ e) [] [(0,.sl 0),(1,.sl 1),(2,.sl 2)] ?_)
 obtain ⟨K,h⟩|⟨K,h⟩:=oc' h
 ·refine wH J 2 K (wa J 8 (eEnd ?_))
  cases h
  exact eRet J func60 []
 refine wH J 2 K ?_
 obtain ⟨x4,f,h⟩:=ob h
 refine wa J 1 (eCl (z123_ct N m_ _ f) [] [(0,.sl 0),(1,.sl 1),(2,.sl 2)] (wa J 6 (eEnd ?_)))
 cases h
 exact eRet J func60 []
theorem z57_ct (N:Nat) (g_:T5) (m_:T8) (r:Bool) (h:z57 N g_ m_=some r) :
 Fn Tryz.prog 57 ⟨7,[.a (cC5 0 1 2 3 g_),.a (cC8 4 5 6 m_)],((0,.sl rS g_.Roles)::(1,.sl rR0 g_.Decls)::(2,.sl rR2 g_.Edges)::(3,.sl rR11 g_.Timeouts)::vV8 4 5 6 m_ []),[],7,.O r,[],[]⟩:=by
 refine eFn func57 rfl (fun E F w=>?_)
 unfold z57 at h
 obtain ⟨x1,c,h⟩:=ob h
 refine wa J 10 (eCl (z59_ct N g_ _ c) [] [(0,.sl 0),(1,.sl 1),(2,.sl 2),(3,.sl 3)] ?_)
 obtain ⟨K,h⟩|⟨K,h⟩:=oc h
 ·refine wH J 2 K ?_
  cases h
  exact wr J 18 func57 []
 refine wH J 2 K ?_
 obtain ⟨x2,d,h⟩:=ob h
 refine wa J 1 (eCl (z60_ct N m_ _ d) [] [(0,.sl 4),(1,.sl 5),(2,.sl 6)] ?_)
 obtain ⟨K,h⟩|⟨K,h⟩:=oc h
 ·refine wH J 3 K ?_
  cases h
  exact wr J 13 func57 []
 refine wH J 3 K ?_
 obtain ⟨K,h⟩|⟨K,h⟩:=oc h
 ·refine wH J 8 K ?_
  cases h
  exact wr J 5 func57 []
 refine wH J 8 K (wa J 7 (eCut (σ:=Unit) (fun st=>⟨[],[],((0,.sl rS g_.Roles)::(1,.sl rR0 g_.Decls)::(2,.sl rR2 g_.Edges)::(3,.sl rR11 g_.Timeouts)::vV8 4 5 6 m_ []),9⟩) (fun st=>z57_k1=some r) ?_ (fun j1=>?_)))
 ·intro _ h
  replace h:z57_k1=some r:=h
  unfold z57_k1 at h
  cases h
  exact wr J 4 func57 []
 refine wa J 1 (eLoop (σ:=Int) (fun st=>⟨[(2,.B 7 0),(3,.B 8 0),(5,.I st)],[(7,.box (cC5 0 1 2 3 g_) 27),(8,.box (cC8 4 5 6 m_) 31)],((0,.sl rS g_.Roles)::(1,.sl rR0 g_.Decls)::(2,.sl rR2 g_.Edges)::(3,.sl rR11 g_.Timeouts)::vV8 4 5 6 m_ []),9⟩) (fun n st=>z57_l2 g_ m_ n st) (r:=r) (fun _=>rfl) ?_ (fun ih=>?_))
 ·intro n2 ih3
  intro e h
  replace h:z57_l2 g_ m_ (n2+1) e=some r:=h
  unfold z57_l2 at h
  obtain ⟨K,h⟩|⟨K,h⟩:=oc' h
  ·exact wH J 9 K (wa J 2 (eSub [] (j1 () h)))
  refine wH J 9 K ?_
  obtain ⟨f,g,h⟩:=ob h
  refine wa J 9 (eIx J oO9 g ?_)
  obtain ⟨K,h⟩|⟨K,h⟩:=oc h
  ·refine wH J 7 K (wa J 11 (eEnd ?_))
   cases h
   exact wr J 5 func57 []
  refine wH J 7 K ?_
  obtain ⟨i,j,h⟩:=ob h
  refine wa J 3 (eIx J oO9 j (wa J 7 (eEnd ?_)))
  obtain ⟨K,h⟩|⟨K,h⟩:=oc h
  ·refine eK K ?_
   cases h
   exact wr J 5 func57 []
  exact eK K (wa J 8 (eSub [] (ih3 (w64 (e+1)) h)))
 exact eSub [] (ih N 0 h)
theorem z75_ct (N:Nat) (decls_:(List T0)) (r:(List T12)) (h:z75 N decls_=some r) :
 Fn Tryz.prog 75 ⟨1,[.S 0],[(0,.sl rR0 decls_)],[],2,.S 1,[],[(1,.own rR12 r true)]⟩:=by
 refine eFn func75 rfl (fun E F w=>?_)
 unfold z75 at h
 obtain ⟨x1,c,h⟩:=ob h
 refine wa J 7 (eCl (z104_ct N decls_ _ c) [] [(0,.sl 0)] ?_)
 obtain ⟨x2,d,h⟩:=ob h
 refine eMk J oO12 d ?_
 cases h
 exact wr J 2 func75 [(1,.sl 1)]
theorem z31_ct (N:Nat) (g_:T5) (m_:T8) (r:T17) (h:z31 N g_ m_=some r) :
 Fn Tryz.prog 31 ⟨7,[.a (cC5 0 1 2 3 g_),.a (cC8 4 5 6 m_)],((0,.sl rS g_.Roles)::(1,.sl rR0 g_.Decls)::(2,.sl rR2 g_.Edges)::(3,.sl rR11 g_.Timeouts)::vV8 4 5 6 m_ []),[],9,.a (cC17 7 8 r),(vV17 7 8 r []),[]⟩:=by
 refine eFn func31 rfl (fun E F w=>?_)
 unfold z31 at h
 obtain ⟨x1,c,h⟩:=ob h
 refine wa J 11 (eCl (z57_ct N g_ m_ _ c) [] [(0,.sl 0),(1,.sl 1),(2,.sl 2),(3,.sl 3),(4,.sl 4),(5,.sl 5),(6,.sl 6)] ?_)
 obtain ⟨K,h⟩|⟨K,h⟩:=oc h
 ·refine wH J 2 K ?_
  cases h
  exact wr J 6 func31 [(7,.nil),(8,.nil)]
 refine wH J 2 K ?_
 obtain ⟨x2,d,h⟩:=ob h
 refine wa J 8 (eCl (z75_ct N g_.Decls _ d) [] [(0,.sl 1)] (wa J 2 (eEnd (eFr [10] ?_))))
 cases h
 exact eRet J func31 [(7,.sl 10),(8,.nil)]
theorem z175_ct (N:Nat) (v_:T12) (r:Int) (h:z175 N v_=some r) :
 Fn Tryz.prog 175 ⟨0,[.a (cC12 v_)],[],[],0,.I r,[],[]⟩:=by
 refine eFn func175 rfl (fun E F w=>?_)
 unfold z175 at h
 obtain ⟨K,h⟩|⟨K,h⟩:=oc h
 ·refine wH J 12 K ?_
  cases h
  exact wr J 8 func175 []
 refine wH J 12 K ?_
 cases h
 exact wr J 8 func175 []
theorem z105_ct (N:Nat) (s_:T10) (v_:T12) (r:Bool) (h:z105 N s_ v_=some r) :
 Fn Tryz.prog 105 ⟨0,[.a (cC10 s_),.a (cC12 v_)],[],[],0,.O r,[],[]⟩:=by
 refine eFn func105 rfl (fun E F w=>?_)
 unfold z105 at h
 refine wa J 11 (eCut (σ:=Unit) (fun st=>(zz20 s_ v_ [(2,.B 0 0),(3,.B 1 0)])) (fun st=>z105_k2 N s_ v_=some r) ?_ (fun j1=>?_))
 ·intro _ h
  replace h:z105_k2 N s_ v_=some r:=h
  unfold z105_k2 at h
  refine wa J 7 (eCut (σ:=Bool) (fun st=>(zz20 s_ v_ [(2,.B 0 0),(3,.B 1 0),(42,.O st)])) (fun st=>z105_k1 N s_ v_ st=some r) ?_ (fun j3=>?_))
  ·intro c h
   replace h:z105_k1 N s_ v_ c=some r:=h
   unfold z105_k1 at h
   obtain ⟨K,h⟩|⟨K,h⟩:=oc h
   ·refine eK K ?_
    cases h
    exact wr J 5 func105 []
   refine eK K ?_
   obtain ⟨K,h⟩|⟨K,h⟩:=oc' h
   ·refine wH J 10 K (wa J 14 (eEnd ?_))
    cases h
    exact eRet J func105 []
   refine wH J 10 K ?_
   obtain ⟨x9,d,h⟩:=ob h
   refine wa J 1 (eCl (z175_ct N v_ _ d) [] [] ?_)
   obtain ⟨K,h⟩|⟨K,h⟩:=oc' h
   ·refine wH J 5 K (wa J 7 (eEnd ?_))
    cases h
    exact eRet J func105 []
   refine wH J 5 K ?_
   obtain ⟨e,f,h⟩:=ob h
   refine wa J 1 (eCl (z175_ct N v_ _ f) [] [] (wa J 5 (eEnd ?_)))
   cases h
   exact eRet J func105 []
  obtain ⟨K,h⟩|⟨K,h⟩:=oc' h
  ·refine eK K ?_
   obtain ⟨K,h⟩|⟨K,h⟩:=oc h
   ·exact wH J 9 K (wa J 6 (eSub [] (j3 (!(v_.S.toList==(str []).toList)) h)))
   exact wH J 9 K (wa J 6 (eSub [] (j3 false h)))
  refine eK K ?_
  obtain ⟨K,h⟩|⟨K,h⟩:=oc h
  ·exact wH J 5 K (wa J 10 (eSub [] (j3 true h)))
  refine wH J 5 K ?_
  obtain ⟨K,h⟩|⟨K,h⟩:=oc h
  ·exact wH J 4 K (wa J 6 (eSub [] (j3 (!(v_.S.toList==(str []).toList)) h)))
  exact wH J 4 K (wa J 6 (eSub [] (j3 false h)))
 refine wa J 1 (eLoop (σ:=Int) (fun st=>(zz20 s_ v_ [(2,.B 0 0),(3,.B 1 0),(5,.I st)])) (fun n st=>z105_l3 N s_ v_ n st) (r:=r) (fun _=>rfl) ?_ (fun ih=>?_))
 ·intro n2 ih4
  intro g h
  replace h:z105_l3 N s_ v_ (n2+1) g=some r:=h
  unfold z105_l3 at h
  obtain ⟨K,h⟩|⟨K,h⟩:=oc' h
  ·exact wH J 9 K (wa J 2 (eSub [] (j1 () h)))
  refine wH J 9 K ?_
  obtain ⟨i,j,h⟩:=ob h
  refine wa J 9 (eSx J j ?_)
  obtain ⟨K,h⟩|⟨K,h⟩:=oc h
  ·refine wH J 2 K ?_
   cases h
   exact wr J 12 func105 []
  refine wH J 2 K ?_
  obtain ⟨k,l,h⟩:=ob h
  refine wa J 3 (eSx J l ?_)
  obtain ⟨K,h⟩|⟨K,h⟩:=oc h
  ·refine wH J 3 K ?_
   cases h
   exact wr J 5 func105 []
  exact wH J 3 K (wa J 8 (eSub [] (ih4 (w64 (g+1)) h)))
 exact eSub [] (ih N 0 h)
theorem z48_ct (N:Nat) (decls_:(List T0)) (known_:(List T12)) (r:Bool) (h:z48 N decls_ known_=some r) :
 Fn Tryz.prog 48 ⟨2,[.S 0,.S 1],[(0,.sl rR0 decls_),(1,.sl rR12 known_)],[],2,.O r,[],[]⟩:=by
 refine eFn func48 rfl (fun E F w=>?_)
 unfold z48 at h
 obtain ⟨x1,c,h⟩:=ob h
 refine wa J 10 (eCl (z104_ct N decls_ _ c) [] [(0,.sl 0)] ?_)
 obtain ⟨K,h⟩|⟨K,h⟩:=oc h
 ·refine wH J 2 K ?_
  cases h
  exact wr J 5 func48 []
 refine wH J 2 K (wa J 7 (eCut (σ:=Unit) (fun st=>⟨[],[],[(0,.sl rR0 decls_),(1,.sl rR12 known_)],2⟩) (fun st=>z48_k1=some r) ?_ (fun j1=>?_)))
 ·intro _ h
  replace h:z48_k1=some r:=h
  unfold z48_k1 at h
  cases h
  exact wr J 4 func48 []
 refine wa J 1 (eLoop (σ:=Int) (fun st=>⟨[(0,.S 0),(1,.S 1),(5,.I st)],[],[(0,.sl rR0 decls_),(1,.sl rR12 known_)],2⟩) (fun n st=>z48_l2 N decls_ known_ n st) (r:=r) (fun _=>rfl) ?_ (fun ih=>?_))
 ·intro n2 ih3
  intro d h
  replace h:z48_l2 N decls_ known_ (n2+1) d=some r:=h
  unfold z48_l2 at h
  obtain ⟨K,h⟩|⟨K,h⟩:=oc' h
  ·exact wH J 8 K (wa J 2 (eSub [] (j1 () h)))
  refine wH J 8 K ?_
  obtain ⟨e,f,h⟩:=ob h
  refine wa J 8 (eIx J oO12 f (wa J 2 (eEq ?_)))
  obtain ⟨K,h⟩|⟨K,h⟩:=oc' h
  ·exact wH J 1 K (wa J 11 (eEnd (wa J 8 (eSub [] (ih3 (w64 (d+1)) h)))))
  refine wH J 1 K ?_
  obtain ⟨g,i,h⟩:=ob h
  refine wa J 2 (eCl (z106_ct N decls_ d _ i) [] [(0,.sl 0)] ?_)
  obtain ⟨j,k,h⟩:=ob h
  refine wa J 3 (eIx J oO12 k ?_)
  obtain ⟨l,m,h⟩:=ob h
  refine wa J 1 (eCl (z105_ct N g.Sort' j _ m) [] [] (wa J 2 (eEnd ?_)))
  obtain ⟨K,h⟩|⟨K,h⟩:=oc h
  ·refine eK K ?_
   cases h
   exact wr J 5 func48 []
  exact eK K (wa J 8 (eSub [] (ih3 (w64 (d+1)) h)))
 exact eSub [] (ih N 0 h)
theorem z28_ct (N:Nat) (g_:T5) (m_:T8) (s_:T17) (r:Bool) (h:z28 N g_ m_ s_=some r) :
 Fn Tryz.prog 28 ⟨9,[.a (cC5 0 1 2 3 g_),.a (cC8 4 5 6 m_),.a (cC17 7 8 s_)],((0,.sl rS g_.Roles)::(1,.sl rR0 g_.Decls)::(2,.sl rR2 g_.Edges)::(3,.sl rR11 g_.Timeouts)::(4,.sl rB m_.Finals)::(5,.sl rR9 m_.Moves)::(6,.sl rR11 m_.Timeouts)::vV17 7 8 s_ []),[],9,.O r,[],[]⟩:=by
 refine eFn func28 rfl (fun E F w=>?_)
 unfold z28 at h
 obtain ⟨x1,c,h⟩:=ob h
 refine wa J 11 (eCl (z57_ct N g_ m_ _ c) [] [(0,.sl 0),(1,.sl 1),(2,.sl 2),(3,.sl 3),(4,.sl 4),(5,.sl 5),(6,.sl 6)] ?_)
 obtain ⟨K,h⟩|⟨K,h⟩:=oc' h
 ·refine wH J 1 K ?_
  cases h
  exact wr J 20 func28 []
 refine wH J 1 K ?_
 obtain ⟨K,h⟩|⟨K,h⟩:=oc' h
 ·refine wH J 5 K ?_
  cases h
  exact wr J 15 func28 []
 refine wH J 5 K ?_
 obtain ⟨K,h⟩|⟨K,h⟩:=oc' h
 ·refine wH J 7 K ?_
  cases h
  exact wr J 8 func28 []
 refine wH J 7 K ?_
 obtain ⟨x2,d,h⟩:=ob h
 refine wa J 4 (eCl (z48_ct N g_.Decls s_.Known _ d) [] [(0,.sl 1),(1,.sl 7)] ?_)
 cases h
 exact wr J 3 func28 []
theorem z34_ct (N:Nat) (m_:T8) (at_:Int) (x_:T3) (r:Int) (h:z34 N m_ at_ x_=some r) :
 Fn Tryz.prog 34 ⟨4,[.a (cC8 0 1 2 m_),.I at_,.a (cC3 3 x_)],(vV8 0 1 2 m_ [(3,.sl rR12 x_.Values)]),[],4,.I r,[],[]⟩:=by
 refine eFn func34 rfl (fun E F w=>?_)
 unfold z34 at h
 refine wa J 11 (eCut (σ:=Unit) (fun st=>⟨[],[],(vV8 0 1 2 m_ [(3,.sl rR12 x_.Values)]),6⟩) (fun st=>z34_k1=some r) ?_ (fun j1=>?_))
 ·intro _ h
  replace h:z34_k1=some r:=h
  unfold z34_k1 at h
  cases h
  exact wr J 4 func34 []
 refine wa J 1 (eLoop (σ:=Int) (fun st=>⟨[(1,.I at_),(3,.B 4 0),(5,.B 5 0),(7,.I st)],[(4,.box (cC8 0 1 2 m_) 31),(5,.box (cC3 3 x_) 67)],(vV8 0 1 2 m_ [(3,.sl rR12 x_.Values)]),6⟩) (fun n st=>z34_l2 m_ at_ x_ n st) (r:=r) (fun _=>rfl) ?_ (fun ih=>?_))
 ·intro n2 ih3
  intro c h
  replace h:z34_l2 m_ at_ x_ (n2+1) c=some r:=h
  unfold z34_l2 at h
  obtain ⟨K,h⟩|⟨K,h⟩:=oc' h
  ·exact wH J 9 K (wa J 2 (eSub [] (j1 () h)))
  refine wH J 9 K ?_
  obtain ⟨x9,d,h⟩:=ob h
  refine wa J 9 (eIx J oO9 d ?_)
  obtain ⟨K,h⟩|⟨K,h⟩:=oc' h
  ·exact wH J 11 K (wa J 29 (eSub [] (ih3 (w64 (c+1)) h)))
  refine wH J 11 K ?_
  obtain ⟨K,h⟩|⟨K,h⟩:=oc' h
  ·exact wH J 7 K (wa J 22 (eSub [] (ih3 (w64 (c+1)) h)))
  refine wH J 7 K ?_
  obtain ⟨K,h⟩|⟨K,h⟩:=oc' h
  ·exact wH J 7 K (wa J 15 (eSub [] (ih3 (w64 (c+1)) h)))
  refine wH J 7 K ?_
  obtain ⟨K,h⟩|⟨K,h⟩:=oc h
  ·refine wH J 7 K ?_
   cases h
   exact wr J 6 func34 []
  exact wH J 7 K (wa J 8 (eSub [] (ih3 (w64 (c+1)) h)))
 exact eSub [] (ih N 0 h)
theorem z22_ct (N:Nat) (a_:(List T12)) (b_:(List T12)) (r:Bool) (h:z22 N a_ b_=some r) :
 Fn Tryz.prog 22 ⟨2,[.S 0,.S 1],[(0,.sl rR12 a_),(1,.sl rR12 b_)],[],2,.O r,[],[]⟩:=by
 refine eFn func22 rfl (fun E F w=>?_)
 unfold z22 at h
 obtain ⟨K,h⟩|⟨K,h⟩:=oc h
 ·refine wH J 13 K ?_
  cases h
  exact wr J 5 func22 []
 refine wH J 13 K (wa J 7 (eCut (σ:=Unit) (fun st=>(zz14 a_ b_ [])) (fun st=>z22_k1=some r) ?_ (fun j1=>?_)))
 ·intro _ h
  replace h:z22_k1=some r:=h
  unfold z22_k1 at h
  cases h
  exact wr J 4 func22 []
 refine wa J 1 (eLoop (σ:=Int) (fun st=>(zz14 a_ b_ [(0,.S 0),(1,.S 1),(5,.I st)])) (fun n st=>z22_l2 a_ b_ n st) (r:=r) (fun _=>rfl) ?_ (fun ih=>?_))
 ·intro n2 ih3
  intro c h
  replace h:z22_l2 a_ b_ (n2+1) c=some r:=h
  unfold z22_l2 at h
  obtain ⟨K,h⟩|⟨K,h⟩:=oc' h
  ·exact wH J 8 K (wa J 2 (eSub [] (j1 () h)))
  refine wH J 8 K ?_
  obtain ⟨d,e,h⟩:=ob h
  refine wa J 8 (eIx J oO12 e ?_)
  obtain ⟨f,g,h⟩:=ob h
  refine wa J 3 (eIx J oO12 g (wa J 1 (eEq (eEnd ?_))))
  obtain ⟨K,h⟩|⟨K,h⟩:=oc h
  ·refine eK K ?_
   cases h
   exact wr J 5 func22 []
  exact eK K (wa J 8 (eSub [] (ih3 (w64 (c+1)) h)))
 exact eSub [] (ih N 0 h)
theorem z154_23_ct (N:Nat) (k_:Int) (x_:T15) (c0_:T16) (r:Int) (h:z154_23 N k_ x_ c0_=some r) :
 Fn Tryz.prog 154 ⟨6,[.I k_,.a (cC15 x_),.B 5 0],(vV16 1 2 3 4 c0_ []),[(0,.box (cC16 1 2 3 4 c0_) 218),(5,.box [.bp 0 0] 139)],6,.I r,[],[(0,.box (cC16 1 2 3 4 c0_) 218),(5,.box [.bp 0 0] 139)]⟩:=by
 refine eFn func154 rfl (fun E F w=>?_)
 unfold z154_23 at h
 obtain ⟨x1,c,h⟩:=ob h
 refine wa J 13 (eIx J oO9 c ?_)
 obtain ⟨x2,d,h⟩:=ob h
 refine wa J 1 (eCl (z155_ct N x1 _ d) [] [] ?_)
 obtain ⟨x3,e,h⟩:=ob h
 refine wa J 1 (eCl (z156_ct N x2 x_ _ e) [] [] (wa J 1 (eEnd ?_)))
 cases h
 exact eRet J func154 []
theorem z153_24_ct (N:Nat) (x_:(List Int)) (target_:T15) (c0_:T16) (r:Int × Bool) (h:z153_24 N x_ target_ c0_=some r) :
 Fn Tryz.prog 153 ⟨7,[.S 0,.a (cC15 target_),.c (.cl 154 [] [6])],((0,.sl (rI .i64) x_)::vV16 2 3 4 5 c0_ []),[(1,.box (cC16 2 3 4 5 c0_) 218),(6,.box [.bp 1 0] 139)],7,.t [.inl (.I r.1),.inl (.b r.2)],[],[(1,.box (cC16 2 3 4 5 c0_) 218),(6,.box [.bp 1 0] 139)]⟩:=by
 refine eFn func153 rfl (fun E F w=>?_)
 unfold z153_24 at h
 refine wa J 19 (eCut (σ:=Int) (fun st=>(zz30 c0_ target_ x_ [(0,.S 0),(2,.c (.cl 154 [] [6])),(4,.B 7 0),(8,.I (x_.length:Int)),(9,.I st)])) (fun st=>z153_24_k1 N x_ target_ c0_ st=some r) ?_ (fun j1=>?_))
 ·intro d h
  replace h:z153_24_k1 N x_ target_ c0_ d=some r:=h
  unfold z153_24_k1 at h
  obtain ⟨K,h⟩|⟨K,h⟩:=oc' h
  ·refine wH J 7 K (wa J 11 (eEnd ?_))
   cases h
   exact eRet J func153 []
  refine wH J 7 K ?_
  obtain ⟨e,f,h⟩:=ob h
  refine wa J 3 (eIx J (oI .i64) f ?_)
  obtain ⟨g,i,h⟩:=ob h
  refine wa J 2 (eCl (z154_23_ct N e target_ c0_ _ i) [] [(0,.bp 1 0),(1,.sl 2),(2,.sl 3),(3,.sl 4),(4,.sl 5),(5,.bp 6 0)] (wa J 4 (eEnd ?_)))
  cases h
  exact eRet J func153 []
 refine wa J 1 (eLoop (σ:=Int × Int) (fun st=>(zz30 c0_ target_ x_ [(0,.S 0),(2,.c (.cl 154 [] [6])),(4,.B 7 0),(8,.I (x_.length:Int)),(9,.I st.1),(10,.I st.2)])) (fun n st=>z153_24_l2 N x_ target_ c0_ n st.1 st.2) (r:=r) (fun _=>rfl) ?_ (fun ih=>?_))
 ·intro n2 ih3
  rintro ⟨j,k⟩ h
  replace h:z153_24_l2 N x_ target_ c0_ (n2+1) j k=some r:=h
  unfold z153_24_l2 at h
  obtain ⟨K,h⟩|⟨K,h⟩:=oc' h
  ·exact wH J 7 K (wa J 2 (eSub [] (j1 j h)))
  refine wH J 7 K ?_
  obtain ⟨l,m,h⟩:=ob h
  refine wa J 9 (eBi m ?_)
  obtain ⟨o,p,h⟩:=ob h
  refine wa J 8 (eIx J (oI .i64) p ?_)
  obtain ⟨q,s,h⟩:=ob h
  refine wa J 2 (eCl (z154_23_ct N o target_ c0_ _ s) [] [(0,.bp 1 0),(1,.sl 2),(2,.sl 3),(3,.sl 4),(4,.sl 5),(5,.bp 6 0)] (wa J 1 (eEnd ?_)))
  obtain ⟨K,h⟩|⟨K,h⟩:=oc h
  ·exact eK K (wa J 7 (eSub [] (ih3 ((w64 ((w64 (l))+1)),k) h)))
  exact eK K (wa J 6 (eSub [] (ih3 (j,(w64 (l))) h)))
 exact eSub [] (ih N (0,(x_.length:Int)) h)
theorem z78_ct (N:Nat) (t_:T16) (s_:Int) (x_:T15) (r:Int) (h:z78 N t_ s_ x_=some r) :
 Fn Tryz.prog 78 ⟨5,[.B 0 0,.I s_,.a (cC15 x_)],(vV16 1 2 3 4 t_ []),[(0,.box (cC16 1 2 3 4 t_) 218)],5,.I r,[],[(0,.box (cC16 1 2 3 4 t_) 218)]⟩:=by
 refine eFn func78 rfl (fun E F w=>?_)
 unfold z78 at h
 obtain ⟨x1,c,h⟩:=ob h
 refine wa J 13 (eIx J (oSl (rI .i64)) c ?_)
 obtain ⟨x2,d,h⟩:=ob h
 refine wa J 3 (eCl (z153_24_ct N x1 x_ t_ _ d) [] [(0,.sl 8),(1,.bp 0 0),(2,.sl 1),(3,.sl 2),(4,.sl 3),(5,.sl 4),(6,.bp 5 0)] (wa J 5 (eEnd ?_)))
 obtain ⟨K,h⟩|⟨K,h⟩:=oc h
 ·refine wH J 6 K ?_
  cases h
  exact wr J 5 func78 []
 refine wH J 6 K ?_
 obtain ⟨x3,e,h⟩:=ob h
 refine wa J 9 (eIx J (oSl (rI .i64)) e ?_)
 obtain ⟨x4,f,h⟩:=ob h
 refine wa J 2 (eIx J (oI .i64) f ?_)
 cases h
 exact wr J 3 func78 []
theorem z33_ct (N:Nat) (m_:T8) (history_:(List T3)) (r:Int × Int × Int) (h:z33 N m_ history_=some r) :
 Fn Tryz.prog 33 ⟨4,[.a (cC8 0 1 2 m_),.S 3],(vV8 0 1 2 m_ [(3,.sl rR3 history_)]),[],4,.t [.inl (.I r.1),.inl (.I r.2.1),.inl (.I r.2.2)],[],[]⟩:=by
 refine eFn func33 rfl (fun E F w=>?_)
 unfold z33 at h
 obtain ⟨x1,d,h⟩:=ob h
 rcases oO h with ⟨ox1,h⟩ | ⟨q2,ox1,h⟩
 ·refine wa J 10 (eCl (machine_open_ctn N m_ _ d ox1) [] [(0,.sl 0),(1,.sl 1),(2,.sl 2)] ?_)
  obtain ⟨K,h⟩|⟨K,h⟩:=oc h
  ·refine wH J 12 K ?_
   cases h
   exact wr J 7 func33 []
  refine wH J 12 K (wa J 15 (eCut (σ:=Int) (fun st=>⟨[(1,.S 3),(9,.I st)],[],(vV8 0 1 2 m_ [(3,.sl rR3 history_)]),10⟩) (fun st=>z33_k1 history_ st=some r) ?_ (fun j1=>?_)))
  ·intro e h
   replace h:z33_k1 history_ e=some r:=h
   unfold z33_k1 at h
   cases h
   exact wr J 9 func33 []
  refine wa J 1 (eLoop (σ:=Int × Int) (fun st=>⟨[(1,.S 3),(2,.B 4 0),(7,.c (.v (.pointer none))),(9,.I st.1),(22,.S 3),(23,.I (history_.length:Int)),(24,.I st.2)],[(4,.box (cC8 0 1 2 m_) 31)],(vV8 0 1 2 m_ [(3,.sl rR3 history_)]),10⟩) (fun n st=>z33_l2 m_ history_ n st.1 st.2) (r:=r) (fun _=>rfl) ?_ (fun ih=>?_))
  ·intro n2 ih6
   rintro ⟨f,g⟩ h
   replace h:z33_l2 m_ history_ (n2+1) f g=some r:=h
   unfold z33_l2 at h
   obtain ⟨K,h⟩|⟨K,h⟩:=oc' h
   ·exact wH J 5 K (wa J 2 (eSub [] (j1 f h)))
   refine wH J 5 K ?_
   obtain ⟨i,j,h⟩:=ob h
   refine wa J 7 (eIx J oO3 j ?_)
   obtain ⟨K,h⟩|⟨K,h⟩:=oc h
   ·refine wH J 18 K ?_
    cases h
   refine wH J 18 K ?_
   obtain ⟨K,h⟩|⟨K,h⟩:=oc h
   ·refine wH J 8 K ?_
    cases h
    exact wr J 9 func33 []
   refine wH J 8 K ?_
   obtain ⟨k,l,h⟩:=ob h
   exact wa J 6 (eIx J oO9 l (wa J 9 (eSub [] (ih6 (k.To,(w64 (g+1))) h))))
  exact eSub [] (ih N (m_.Start,0) h)
 refine wa J 10 (eCl (machine_open_cts N m_ _ d q2 ox1) [] [(0,.sl 0),(1,.sl 1),(2,.sl 2)] ?_)
 obtain ⟨K,h⟩|⟨K,h⟩:=oc h
 ·refine wH J 12 K ?_
  cases h
  exact wr J 7 func33 []
 refine wH J 12 K (wa J 15 (eCut (σ:=Int) (fun st=>⟨[(1,.S 3),(9,.I st)],[],(vV8 0 1 2 m_ [(3,.sl rR3 history_)]),10⟩) (fun st=>z33_k3 history_ st=some r) ?_ (fun j10=>?_)))
 ·intro m h
  replace h:z33_k3 history_ m=some r:=h
  unfold z33_k3 at h
  cases h
  exact wr J 9 func33 []
 refine wa J 1 (eLoop (σ:=Int × Int) (fun st=>⟨[(1,.S 3),(2,.B 4 0),(7,.B 5 0),(9,.I st.1),(22,.S 3),(23,.I (history_.length:Int)),(24,.I st.2)],[(4,.box (cC8 0 1 2 m_) 31),(5,.box (cC16 6 7 8 9 q2) 218)],((0,.sl rB m_.Finals)::(1,.sl rR9 m_.Moves)::(2,.sl rR11 m_.Timeouts)::(3,.sl rR3 history_)::vV16 6 7 8 9 q2 []),10⟩) (fun n st=>z33_l4 N m_ history_ q2 n st.1 st.2) (r:=r) (fun _=>rfl) ?_ (fun ih=>?_))
 ·intro n4 ih15
  rintro ⟨o,p⟩ h
  replace h:z33_l4 N m_ history_ q2 (n4+1) o p=some r:=h
  unfold z33_l4 at h
  obtain ⟨K,h⟩|⟨K,h⟩:=oc' h
  ·exact wH J 5 K (wa J 2 (eSub [] (j10 o h)))
  refine wH J 5 K ?_
  obtain ⟨q,s,h⟩:=ob h
  refine wa J 7 (eIx J oO3 s (wa J 18 (eCut (σ:=Int) (fun st=>⟨[(1,.S 3),(2,.B 4 0),(7,.B 5 0),(9,.I o),(10,.I p),(12,.I st),(22,.S 3),(23,.I (history_.length:Int)),(24,.I p)],[(4,.box (cC8 0 1 2 m_) 31),(5,.box (cC16 6 7 8 9 q2) 218)],((0,.sl rB m_.Finals)::(1,.sl rR9 m_.Moves)::(2,.sl rR11 m_.Timeouts)::(3,.sl rR3 history_)::vV16 6 7 8 9 q2 []),13⟩) (fun st=>z33_k5 m_ o p (z33_l4 N m_ history_ q2 n4) st=some r) ?_ (fun j18=>?_))))
  ·intro u h
   replace h:z33_k5 m_ o p (z33_l4 N m_ history_ q2 n4) u=some r:=h
   unfold z33_k5 at h
   obtain ⟨K,h⟩|⟨K,h⟩:=oc h
   ·refine wH J 6 K ?_
    cases h
    exact wr J 9 func33 []
   refine wH J 6 K ?_
   obtain ⟨x,y,h⟩:=ob h
   exact wa J 6 (eIx J oO9 y (wa J 9 (eSub [] (ih15 (x.To,(w64 (p+1))) h))))
  obtain ⟨K,h⟩|⟨K,h⟩:=oc' h
  ·exact eK K (wa J 2 (eSub [] (j18 (-1) h)))
  refine eK K ?_
  obtain ⟨z,A,h⟩:=ob h
  exact wa J 11 (eCl (z78_ct N q2 o (⟨q.Send,q.Peer,q.Label⟩:T15) _ A) [] [(0,.bp 5 0),(1,.sl 6),(2,.sl 7),(3,.sl 8),(4,.sl 9)] (wa J 2 (eSub [] (j18 z h))))
 exact eSub [] (ih N (m_.Start,0) h)
theorem law40_MonitorExact_ct (N:Nat) (g_:T5) (m_:T8) (l_:(List T3)) (r:Bool) (h:law40_MonitorExact N g_ m_ l_=some r) :
 Fn Tryz.prog 7 ⟨8,[.a (cC5 0 1 2 3 g_),.a (cC8 4 5 6 m_),.S 7],((0,.sl rS g_.Roles)::(1,.sl rR0 g_.Decls)::(2,.sl rR2 g_.Edges)::(3,.sl rR11 g_.Timeouts)::vV8 4 5 6 m_ [(7,.sl rR3 l_)]),[],8,.O r,[],[]⟩:=by
 refine eFn func7 rfl (fun E F w=>?_)
 unfold law40_MonitorExact at h
 obtain ⟨x1,c,h⟩:=ob h
 refine wa J 9 (eCl (z13_ct N _ c) [] [] ?_)
 obtain ⟨K,h⟩|⟨K,h⟩:=oc h
 ·refine wH J 2 K ?_
  cases h
  exact wr J 5 func7 []
 refine wH J 2 K ?_
 obtain ⟨x2,d,h⟩:=ob h
 refine wa J 8 (eCl (z14_ct N g_ m_ l_ _ d) [] [(0,.sl 0),(1,.sl 1),(2,.sl 2),(3,.sl 3),(4,.sl 4),(5,.sl 5),(6,.sl 6),(7,.sl 7)] ?_)
 obtain ⟨K,h⟩|⟨K,h⟩:=oc h
 ·refine wH J 2 K ?_
  cases h
  exact wr J 5 func7 []
 refine wH J 2 K ?_
 obtain ⟨x3,e,h⟩:=ob h
 refine wa J 7 (eCl (z15_ct N g_ m_ l_ _ e) [] [(0,.sl 0),(1,.sl 1),(2,.sl 2),(3,.sl 3),(4,.sl 4),(5,.sl 5),(6,.sl 6),(7,.sl 7)] ?_)
 obtain ⟨K,h⟩|⟨K,h⟩:=oc h
 ·refine wH J 15 K ?_
  obtain ⟨x4,f,h⟩:=ob h
  refine wa J 7 (eCl (z31_ct N g_ m_ _ f) [] [(0,.sl 0),(1,.sl 1),(2,.sl 2),(3,.sl 3),(4,.sl 4),(5,.sl 5),(6,.sl 6)] ?_)
  obtain ⟨x5,g,h⟩:=ob h
  refine eCl (z28_ct N g_ m_ x4 _ g) [] [(0,.sl 0),(1,.sl 1),(2,.sl 2),(3,.sl 3),(4,.sl 4),(5,.sl 5),(6,.sl 6),(7,.sl 13),(8,.sl 14)] (wa J 2 (eEnd ?_))
  cases h
  exact eRet J func7 []
 refine wH J 15 K ?_
 obtain ⟨x6,i,h⟩:=ob h
 refine wa J 6 (eCl (z33_ct N m_ l_ _ i) [] [(0,.sl 4),(1,.sl 5),(2,.sl 6),(3,.sl 7)] ?_)
 obtain ⟨x7,j,h⟩:=ob h
 refine wa J 16 (eMk J oO12 j (wa J 7 (eCut (σ:=(List T12)) (fun st=>(zz31 g_ m_ st g_.Roles g_.Decls g_.Edges g_.Timeouts l_ [(2,.S 7),(3,.B 8 0),(4,.B 9 0),(9,.I x3.2.2),(13,.O (x6.2.2==0)),(14,.S 14)])) (fun st=>law40_MonitorExact_k4 N g_ m_ l_ x3 x6 st=some r) ?_ (fun j1=>?_))))
 ·intro k h
  replace h:law40_MonitorExact_k4 N g_ m_ l_ x3 x6 k=some r:=h
  unfold law40_MonitorExact_k4 at h
  refine wa J 11 (eCut (σ:=Bool) (fun st=>⟨[(9,.I x3.2.2),(13,.O st)],[],((0,.sl rS g_.Roles)::(1,.sl rR0 g_.Decls)::(2,.sl rR2 g_.Edges)::(3,.sl rR11 g_.Timeouts)::vV8 4 5 6 m_ [(7,.sl rR3 l_)]),15⟩) (fun st=>law40_MonitorExact_k1 x3 st=some r) ?_ (fun j12=>?_))
  ·intro l h
   replace h:law40_MonitorExact_k1 x3 l=some r:=h
   unfold law40_MonitorExact_k1 at h
   cases h
   exact wr J 8 func7 []
  refine wa J 1 (eLoop (σ:=Bool × (List T12) × Int × Int) (fun st=>(zz21 g_ m_ st.2.1 g_.Roles g_.Decls g_.Edges g_.Timeouts l_ [(2,.S 7),(3,.B 8 0),(4,.B 9 0),(9,.I x3.2.2),(13,.O st.1),(14,.S 15),(17,.I st.2.2.1),(18,.I st.2.2.2)])) (fun n st=>law40_MonitorExact_l2 N g_ m_ l_ x3 n st.1 st.2.1 st.2.2.1 st.2.2.2) (r:=r) (fun _=>rfl) ?_ (fun ih=>?_))
  ·intro n9 ih17
   rintro ⟨m,o,p,q⟩ h
   replace h:law40_MonitorExact_l2 N g_ m_ l_ x3 (n9+1) m o p q=some r:=h
   unfold law40_MonitorExact_l2 at h
   obtain ⟨K,h⟩|⟨K,h⟩:=oc' h
   ·exact wH J 8 K (wa J 5 (eSub [] (j12 m h)))
   refine wH J 8 K ?_
   obtain ⟨K,h⟩|⟨K,h⟩:=oc' h
   ·exact wH J 3 K (wa J 2 (eSub [] (j12 m h)))
   refine wH J 3 K ?_
   obtain ⟨s,t,h⟩:=ob h
   refine wa J 10 (eIx J oO3 t ?_)
   obtain ⟨u,v,h⟩:=ob h
   refine wa J 1 (eCl (z34_ct N m_ p s _ v) [] [(0,.sl 4),(1,.sl 5),(2,.sl 6),(3,.sl 17)] (wa J 1 (eEnd ?_)))
   obtain ⟨K,h⟩|⟨K,h⟩:=oc h
   ·exact wH J 6 K (wa J 16 (eEnd (wa J 6 (eSub [] (j12 false h)))))
   refine wH J 6 K ?_
   obtain ⟨x,y,h⟩:=ob h
   refine wa J 4 (eIx J oO3 y ?_)
   obtain ⟨z,A,h⟩:=ob h
   refine wa J 4 (eIx J oO3 A ?_)
   obtain ⟨C,D,h⟩:=ob h
   refine wa J 3 (eCb (z35_ct N g_.Decls x.Label z.Values o _ D) [] [(0,.sl 1),(1,.sl 21),(2,.sl 15)] [15] (.inr ⟨rfl,trivial⟩) (wa J 2 (eEnd ?_)))
   obtain ⟨K,h⟩|⟨K,h⟩:=oc h
   ·exact eK K (wa J 6 (eSub [] (j12 false h)))
   refine eK K ?_
   obtain ⟨G,H,h⟩:=ob h
   refine wa J 8 (eIx J oO9 H ?_)
   obtain ⟨K,h⟩|⟨K,h⟩:=oc' h
   ·refine wH J 3 K (wa J 27 (eEnd ?_))
    obtain ⟨R,T,h⟩:=ob h
    refine wa J 8 (eIx J oO3 T ?_)
    obtain ⟨U,X,h⟩:=ob h
    refine wa J 4 (eIx J oO3 X ?_)
    obtain ⟨Y,Z,h⟩:=ob h
    refine wa J 3 (eCb (z36_ct N g_.Decls R.Label U.Values o _ Z) [] [(0,.sl 1),(1,.sl 26),(2,.sl 15)] [15] (.inr ⟨rfl,⟨(rM_flat (rP_flat (rI_flat _) (rP_flat (rI_flat _) rS_flat))),trivial⟩⟩) (wa J 4 (eEnd ?_)))
    obtain ⟨a0,b0,h⟩:=ob h
    exact wa J 4 (eIx J oO9 b0 (wa J 10 (eSub [(15,.sl 27)] (ih17 (m,Y.1,a0.To,(w64 (q+1))) h))))
   refine wH J 3 K ?_
   obtain ⟨K,h⟩|⟨K,h⟩:=oc h
   ·refine wH J 3 K (wa J 24 (eEnd ?_))
    obtain ⟨c0,d0,h⟩:=ob h
    refine wa J 10 (eIx J oO3 d0 ?_)
    obtain ⟨e0,f0,h⟩:=ob h
    refine wa J 4 (eIx J oO3 f0 ?_)
    obtain ⟨g0,i0,h⟩:=ob h
    refine wa J 3 (eCb (z36_ct N g_.Decls c0.Label e0.Values o _ i0) [] [(0,.sl 1),(1,.sl 26),(2,.sl 15)] [15] (.inr ⟨rfl,⟨(rM_flat (rP_flat (rI_flat _) (rP_flat (rI_flat _) rS_flat))),trivial⟩⟩) (wa J 4 (eEnd ?_)))
    obtain ⟨j0,k0,h⟩:=ob h
    exact wa J 4 (eIx J oO9 k0 (wa J 10 (eSub [(15,.sl 27)] (ih17 (false,g0.1,j0.To,(w64 (q+1))) h))))
   refine wH J 3 K ?_
   obtain ⟨l0,m0,h⟩:=ob h
   refine wa J 3 (eIx J oO3 m0 ?_)
   obtain ⟨K,h⟩|⟨K,h⟩:=oc h
   ·refine wH J 5 K (wa J 15 (eEnd ?_))
    obtain ⟨o0,p0,h⟩:=ob h
    refine wa J 10 (eIx J oO3 p0 ?_)
    obtain ⟨q0,s0,h⟩:=ob h
    refine wa J 4 (eIx J oO3 s0 ?_)
    obtain ⟨t0,u0,h⟩:=ob h
    refine wa J 3 (eCb (z36_ct N g_.Decls o0.Label q0.Values o _ u0) [] [(0,.sl 1),(1,.sl 28),(2,.sl 15)] [15] (.inr ⟨rfl,⟨(rM_flat (rP_flat (rI_flat _) (rP_flat (rI_flat _) rS_flat))),trivial⟩⟩) (wa J 4 (eEnd ?_)))
    obtain ⟨v0,x0,h⟩:=ob h
    exact wa J 4 (eIx J oO9 x0 (wa J 10 (eSub [(15,.sl 29)] (ih17 (false,t0.1,v0.To,(w64 (q+1))) h))))
   refine wH J 5 K ?_
   obtain ⟨y0,z0,h⟩:=ob h
   refine wa J 2 (eIx J oO3 z0 ?_)
   obtain ⟨A0,B0,h⟩:=ob h
   refine wa J 5 (eIx J oO3 B0 ?_)
   obtain ⟨C0,D0,h⟩:=ob h
   refine wa J 2 (eCl (z22_ct N y0.Values A0.Values _ D0) [] [(0,.sl 26),(1,.sl 28)] (wa J 3 (eEnd (eCut (σ:=Bool) (fun st=>⟨[(2,.S 7),(3,.B 8 0),(4,.B 9 0),(9,.I x3.2.2),(13,.O st),(14,.S 15),(18,.I q),(19,.I u)],[(8,.box (cC5 0 1 2 3 g_) 27),(9,.box (cC8 4 5 6 m_) 31),(15,.own rR12 o true)],((0,.sl rS g_.Roles)::(1,.sl rR0 g_.Decls)::(2,.sl rR2 g_.Edges)::(3,.sl rR11 g_.Timeouts)::vV8 4 5 6 m_ [(7,.sl rR3 l_)]),29⟩) (fun st=>law40_MonitorExact_k3 N g_ m_ l_ o q (law40_MonitorExact_l2 N g_ m_ l_ x3 n9) u st=some r) ?_ (fun j20=>?_)))))
   ·intro G0 h
    replace h:law40_MonitorExact_k3 N g_ m_ l_ o q (law40_MonitorExact_l2 N g_ m_ l_ x3 n9) u G0=some r:=h
    unfold law40_MonitorExact_k3 at h
    obtain ⟨H0,I0,h⟩:=ob h
    refine wa J 6 (eIx J oO3 I0 ?_)
    obtain ⟨L0,M0,h⟩:=ob h
    refine wa J 4 (eIx J oO3 M0 ?_)
    obtain ⟨O0,R0,h⟩:=ob h
    refine wa J 3 (eCb (z36_ct N g_.Decls H0.Label L0.Values o _ R0) [] [(0,.sl 1),(1,.sl 32),(2,.sl 15)] [15] (.inr ⟨rfl,⟨(rM_flat (rP_flat (rI_flat _) (rP_flat (rI_flat _) rS_flat))),trivial⟩⟩) (wa J 4 (eEnd ?_)))
    obtain ⟨S0,T0,h⟩:=ob h
    exact wa J 4 (eIx J oO9 T0 (wa J 10 (eSub [(15,.sl 33)] (ih17 (G0,O0.1,S0.To,(w64 (q+1))) h))))
   obtain ⟨K,h⟩|⟨K,h⟩:=oc h
   ·exact eK K (wa J 4 (eSub [] (j20 false h)))
   exact eK K (wa J 2 (eSub [] (j20 m h)))
  exact eSub [(15,.sl 14)] (ih N ((x6.2.2==0),k,m_.Start,0) h)
 refine wa J 1 (eLoop (σ:=(List T12) × Int) (fun st=>(zz31 g_ m_ st.1 g_.Roles g_.Decls g_.Edges g_.Timeouts l_ [(2,.S 7),(3,.B 8 0),(4,.B 9 0),(9,.I x3.2.2),(13,.O (x6.2.2==0)),(14,.S 14),(15,.I st.2)])) (fun n st=>law40_MonitorExact_l5 N g_ m_ l_ x3 x6 n st.1 st.2) (r:=r) (fun _=>rfl) ?_ (fun ih=>?_))
 ·intro n14 ih21
  rintro ⟨U0,V0⟩ h
  replace h:law40_MonitorExact_l5 N g_ m_ l_ x3 x6 (n14+1) U0 V0=some r:=h
  unfold law40_MonitorExact_l5 at h
  obtain ⟨K,h⟩|⟨K,h⟩:=oc' h
  ·exact wH J 9 K (wa J 2 (eSub [] (j1 U0 h)))
  refine wH J 9 K (wa J 8 (eCut (σ:=(List T12)) (fun st=>(zz21 g_ m_ st g_.Roles g_.Decls g_.Edges g_.Timeouts l_ [(2,.S 7),(3,.B 8 0),(4,.B 9 0),(9,.I x3.2.2),(13,.O (x6.2.2==0)),(14,.S 15),(15,.I V0)])) (fun st=>law40_MonitorExact_k6 V0 (law40_MonitorExact_l5 N g_ m_ l_ x3 x6 n14) st=some r) ?_ (fun j28=>?_)))
  ·intro X0 h
   replace h:law40_MonitorExact_k6 V0 (law40_MonitorExact_l5 N g_ m_ l_ x3 x6 n14) X0=some r:=h
   unfold law40_MonitorExact_k6 at h
   exact wa J 6 (eSub [(14,.sl 15)] (ih21 (X0,(w64 (V0+1))) h))
  refine wa J 1 (eLoop (σ:=(List T12) × Int) (fun st=>(zz21 g_ m_ st.1 g_.Roles g_.Decls g_.Edges g_.Timeouts l_ [(2,.S 7),(3,.B 8 0),(4,.B 9 0),(9,.I x3.2.2),(13,.O (x6.2.2==0)),(14,.S 15),(15,.I V0),(16,.I st.2)])) (fun n st=>law40_MonitorExact_l7 g_ V0 (law40_MonitorExact_l5 N g_ m_ l_ x3 x6 n14) n st.1 st.2) (r:=r) (fun _=>rfl) ?_ (fun ih=>?_))
  ·intro n16 ih30
   rintro ⟨Y0,Z0⟩ h
   replace h:law40_MonitorExact_l7 g_ V0 (law40_MonitorExact_l5 N g_ m_ l_ x3 x6 n14) (n16+1) Y0 Z0=some r:=h
   unfold law40_MonitorExact_l7 at h
   obtain ⟨a1,b1,h⟩:=ob h
   refine wa J 7 (eIx J oO0 b1 ?_)
   obtain ⟨K,h⟩|⟨K,h⟩:=oc' h
   ·exact wH J 5 K (wa J 2 (eSub [] (j28 Y0 h)))
   refine wH J 5 K (wa J 7 (eBs J [] oO12 ([(⟨0,0,(str [])⟩:T12)]:List T12) ?_))
   obtain ⟨c1,d1,h⟩:=ob h
   exact eAp J rR12 d1 (wa J 8 (eSub [(15,.sl 21)] (ih30 (c1,(w64 (Z0+1))) h)))
  exact eSub [(15,.sl 14)] (ih N (U0,0) h)
 exact eSub [(14,.sl 13)] (ih N (x7,0) h)
end Gx
end
