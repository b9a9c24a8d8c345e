/- Each function of the statement computes what its plain definition says, part 2. -/
import Derived.Test.YtdlhgdfjpilcjaaGreatDoorExplainPermittedWalk1
set_option linter.all false
section
set_option maxRecDepth 10000
set_option maxHeartbeats 4000000
open Go Go.Kx Go.Proofs Tryz
namespace Gx
theorem z153_27_ct (N:Nat) (c0_:ByteArray) (r:Unit) (h:z153_27 N c0_=some r) :
 Fn Tryz.prog 153 ⟨2,[.B 0 0],[],[(0,.box [.bp 0 0,.sl 1] 132),(1,.buf c0_ 5)],2,.t [],[],[(0,.box [.bp 0 0,.sl 1] 132),(1,.buf c0_ 5)]⟩:=by
 refine eFn func153 rfl (fun E F w=>?_)
 unfold z153_27 at h
 refine wa J 6 (ePn false (wa J 9 (ePs ?_)))
 cases h
 exact wr J 3 func153 []
theorem z177_28_ct (N:Nat) (c_:Int) (c0_:ByteArray) (r:Unit × ByteArray) (h:z177_28 N c_ c0_=some r) :
 Fn Tryz.prog 177 ⟨2,[.B 0 0,.c (.i .u8 c_)],[],[(0,.box [.bp 0 0,.sl 1] 132),(1,.buf c0_ 5)],3,.c (.v .nilIface),[],[(1,.gone),(2,.buf r.2 5),(0,.box [.bp 0 0,.sl 2] 132)]⟩:=by
 refine eFn func177 rfl (fun E F w=>?_)
 unfold z177_28 at h
 obtain ⟨x1,d,h⟩:=ob h
 refine wa J 7 (eCl (z153_27_ct N c0_ _ d) [] [(0,.bp 0 0),(1,.sl 1)] (wa J 9 (eBs J [] (oI .u8) ([c_]:List Int) ?_)))
 obtain ⟨x2,e,h⟩:=ob h
 refine eBo (ty:=5) (fr:=true) (q:=2) J e ?_
 cases h
 exact wr J 8 func177 [(2,.sl 3)]
theorem z77_29_ct (N:Nat) (c0_:ByteArray) (r:ByteArray) (h:z77_29 N c0_=some r) :
 Fn Tryz.prog 77 ⟨2,[.B 0 0],[],[(0,.box [.bp 0 0,.sl 1] 132),(1,.buf c0_ 5)],2,.c (.s r),[],[(0,.box [.bp 0 0,.sl 1] 132),(1,.gone)]⟩:=by
 refine eFn func77 rfl (fun E F w=>?_)
 unfold z77_29 at h
 obtain ⟨x1,d,h⟩:=ob h
 refine wa J 10 (eUd (ty:=5) (gdB_ok d) (wa J 4 (eBl (sb:=c0_) (ty:=5) J ?_)))
 obtain ⟨x2,e,h⟩:=ob h
 refine eUs (ty:=5) (gdB_ok e) (wa J 1 (eEnd ?_))
 cases h
 exact eRet J func77 []
theorem z101_ct (N:Nat) (v_:T12) (r:ByteArray) (h:z101 N v_=some r) :
 Fn Tryz.prog 101 ⟨1,[.a (cC12 v_)],[],[(0,.abs powT)],1,.c (.s r),[],[(0,.abs powT)]⟩:=by
 refine eFn func101 rfl (fun E F w=>?_)
 unfold z101 at h
 obtain ⟨x1,d,h⟩:=ob h
 refine wa J 10 (eCl (z169_ct N v_ _ d) [] [] ?_)
 obtain ⟨K,h⟩|⟨K,h⟩:=oc h
 ·refine wH J 3 K ?_
  cases h
  exact wr J 5 func101 []
 refine wH J 3 K ?_
 obtain ⟨K,h⟩|⟨K,h⟩:=oc h
 ·refine wH J 8 K ?_
  obtain ⟨x2,e,h⟩:=ob h
  refine wa J 5 (eCl (z65_ct N v_.N _ e) [] [(0,.sl 0)] ?_)
  cases h
  exact wr J 2 func101 []
 refine wH J 8 K ?_
 obtain ⟨x3,f,h⟩:=ob h
 refine wa J 9 (eCl (z177_26_ct N 34 ByteArray.empty _ f) [] [(0,.bp 2 0)] (wa J 9 (eCut (σ:=ByteArray) (fun st=>⟨[(3,.B 2 0)],[(0,.abs powT),(2,.box [.bp 2 0,.sl 4] 132),(4,.buf st 5)],[],5⟩) (fun st=>z101_k1 N st=some r) ?_ (fun j1=>?_))))
 ·intro g h
  replace h:z101_k1 N g=some r:=h
  unfold z101_k1 at h
  obtain ⟨i,j,h⟩:=ob h
  refine wa J 2 (eCl (z177_28_ct N 34 g _ j) [] [(0,.bp 2 0),(1,.sl 4)] ?_)
  obtain ⟨k,l,h⟩:=ob h
  refine wa J 3 (eCl (z77_29_ct N i.2 _ l) [] [(0,.bp 2 0),(1,.sl 5)] ?_)
  cases h
  exact wr J 2 func101 []
 refine wa J 1 (eLoop (σ:=ByteArray × Int) (fun st=>⟨[(1,.B 1 0),(3,.B 2 0),(19,.I (v_.S.size:Int)),(20,.I st.2)],[(0,.abs powT),(1,.box (cC12 v_) 83),(2,.box [.bp 2 0,.sl 4] 132),(4,.buf st.1 5)],[],5⟩) (fun n st=>z101_l2 N v_ n st.1 st.2) (r:=r) (fun _=>rfl) ?_ (fun ih=>?_))
 ·intro n2 ih3
  rintro ⟨m,o⟩ h
  replace h:z101_l2 N v_ (n2+1) m o=some r:=h
  unfold z101_l2 at h
  obtain ⟨K,h⟩|⟨K,h⟩:=oc' h
  ·exact wH J 5 K (wa J 2 (eSub [] (j1 m h)))
  refine wH J 5 K ?_
  obtain ⟨p,q,h⟩:=ob h
  refine wa J 15 (eSx J q ?_)
  obtain ⟨K,h⟩|⟨K,h⟩:=oc h
  ·refine wH J 2 K ?_
   obtain ⟨t,u,h⟩:=ob h
   refine wa J 9 (eCl (z177_28_ct N 92 m _ u) [] [(0,.bp 2 0),(1,.sl 4)] ?_)
   obtain ⟨v,x,h⟩:=ob h
   refine wa J 5 (eSx J x ?_)
   obtain ⟨y,z,h⟩:=ob h
   exact eCl (z177_28_ct N v t.2 _ z) [] [(0,.bp 2 0),(1,.sl 5)] (wa J 6 (eSub [(4,.sl 6)] (ih3 (y.2,(w64 (o+1))) h)))
  refine wH J 2 K ?_
  obtain ⟨A,C,h⟩:=ob h
  refine wa J 3 (eSx J C ?_)
  obtain ⟨K,h⟩|⟨K,h⟩:=oc' h
  ·refine wH J 3 K ?_
   obtain ⟨D,G,h⟩:=ob h
   refine wa J 6 (eSx J G ?_)
   obtain ⟨H,R,h⟩:=ob h
   exact eCl (z177_28_ct N D m _ R) [] [(0,.bp 2 0),(1,.sl 4)] (wa J 6 (eSub [(4,.sl 5)] (ih3 (H.2,(w64 (o+1))) h)))
  refine wH J 3 K ?_
  obtain ⟨T,U,h⟩:=ob h
  refine wa J 2 (eCl (z177_28_ct N 92 m _ U) [] [(0,.bp 2 0),(1,.sl 4)] ?_)
  obtain ⟨X,Y,h⟩:=ob h
  refine wa J 5 (eSx J Y ?_)
  obtain ⟨Z,a0,h⟩:=ob h
  exact eCl (z177_28_ct N X T.2 _ a0) [] [(0,.bp 2 0),(1,.sl 5)] (wa J 6 (eSub [(4,.sl 6)] (ih3 (Z.2,(w64 (o+1))) h)))
 exact eSub [(4,.sl 3)] (ih N (x3.2,0) h)
theorem z100_ct (N:Nat) (l_:(List T12)) (r:ByteArray) (h:z100 N l_=some r) :
 Fn Tryz.prog 100 ⟨2,[.S 0],[(0,.sl rR12 l_)],[(1,.abs powT)],2,.c (.s r),[],[(1,.abs powT)]⟩:=by
 refine eFn func100 rfl (fun E F w=>?_)
 unfold z100 at h
 refine wa J 15 (eCut (σ:=(List ByteArray)) (fun st=>⟨[(3,.S 2)],[(1,.abs powT),(2,.own rS st true)],[(0,.sl rR12 l_)],3⟩) (fun st=>z100_k1 N st=some r) ?_ (fun j1=>?_))
 ·intro d h
  replace h:z100_k1 N d=some r:=h
  unfold z100_k1 at h
  obtain ⟨e,f,h⟩:=ob h
  refine wa J 3 (eCb (z40_ct N d (str [44,32]) _ f) [] [(0,.sl 2)] [2] (.inr ⟨rfl,trivial⟩) ?_)
  obtain ⟨g,i,h⟩:=ob h
  refine eCa i ?_
  obtain ⟨j,k,h⟩:=ob h
  refine eCa k ?_
  cases h
  exact wr J 2 func100 []
 refine wa J 1 (eLoop (σ:=(List ByteArray) × Int) (fun st=>⟨[(3,.S 2),(6,.S 0),(7,.I (l_.length:Int)),(8,.I st.2)],[(1,.abs powT),(2,.own rS st.1 true)],[(0,.sl rR12 l_)],3⟩) (fun n st=>z100_l2 N l_ n st.1 st.2) (r:=r) (fun _=>rfl) ?_ (fun ih=>?_))
 ·intro n2 ih3
  rintro ⟨l,m⟩ h
  replace h:z100_l2 N l_ (n2+1) l m=some r:=h
  unfold z100_l2 at h
  obtain ⟨K,h⟩|⟨K,h⟩:=oc' h
  ·exact wH J 5 K (wa J 2 (eSub [] (j1 l h)))
  refine wH J 5 K ?_
  obtain ⟨o,p,h⟩:=ob h
  refine wa J 6 (eIx J oO12 p ?_)
  obtain ⟨q,t,h⟩:=ob h
  refine wa J 7 (eCl (z101_ct N o _ t) [] [(0,.sl 1)] (eBs J [] oS ([q]:List ByteArray) ?_))
  obtain ⟨u,v,h⟩:=ob h
  exact eAp J rS v (wa J 7 (eSub [(2,.sl 6)] (ih3 (u,(w64 (m+1))) h)))
 exact eSub [(2,.nil)] (ih N (([]:List ByteArray),0) h)
theorem z49_ct (N:Nat) (g_:T5) (x_:T3) (r:ByteArray) (h:z49 N g_ x_=some r) :
 Fn Tryz.prog 49 ⟨6,[.a (cC5 0 1 2 3 g_),.a (cC3 4 x_)],(vV5 0 1 2 3 g_ [(4,.sl rR12 x_.Values)]),[(5,.abs powT)],6,.c (.s r),[],[(5,.abs powT)]⟩:=by
 refine eFn func49 rfl (fun E F w=>?_)
 unfold z49 at h
 refine wa J 17 (eCut (σ:=ByteArray × ByteArray) (fun st=>⟨[(2,.B 6 0),(3,.B 7 0),(5,.c (.s st.1)),(6,.c (.s st.2))],[(5,.abs powT),(6,.box (cC5 0 1 2 3 g_) 27),(7,.box (cC3 4 x_) 46)],(vV5 0 1 2 3 g_ [(4,.sl rR12 x_.Values)]),8⟩) (fun st=>z49_k1 N g_ x_ st.1 st.2=some r) ?_ (fun j1=>?_))
 ·rintro ⟨d,e⟩ h
  replace h:z49_k1 N g_ x_ d e=some r:=h
  unfold z49_k1 at h
  obtain ⟨x1,f,h⟩:=ob h
  refine wa J 6 (eCl (z98_ct N g_.Roles x_.Role _ f) [] [(0,.sl 0)] ?_)
  obtain ⟨x2,g,h⟩:=ob h
  refine wa J 1 (eCa g ?_)
  obtain ⟨x3,i,h⟩:=ob h
  refine wa J 2 (eCl (z99_ct N g_.Decls _ i) [] [(0,.sl 1)] ?_)
  obtain ⟨x4,j,h⟩:=ob h
  refine wa J 2 (eCb (z98_ct N x3 x_.Label _ j) [] [(0,.sl 8)] [8] (.inr ⟨rfl,trivial⟩) ?_)
  obtain ⟨x5,k,h⟩:=ob h
  refine eCa k ?_
  obtain ⟨x6,l,h⟩:=ob h
  refine wa J 2 (eCl (z100_ct N x_.Values _ l) [] [(0,.sl 4),(1,.sl 5)] ?_)
  obtain ⟨x7,m,h⟩:=ob h
  refine eCa m ?_
  obtain ⟨x8,o,h⟩:=ob h
  refine wa J 1 (eCa o ?_)
  obtain ⟨x9,p,h⟩:=ob h
  refine wa J 4 (eCl (z98_ct N g_.Roles x_.Peer _ p) [] [(0,.sl 0)] ?_)
  obtain ⟨q,t,h⟩:=ob h
  refine eCa t (wa J 1 (eEnd ?_))
  cases h
  exact eRet J func49 []
 obtain ⟨K,h⟩|⟨K,h⟩:=oc h
 ·exact eK K (wa J 5 (eSub [] (j1 ((str [32,115,101,110,100,115,32]),(str [32,116,111,32])) h)))
 exact eK K (wa J 2 (eSub [] (j1 ((str [32,103,101,116,115,32]),(str [32,102,114,111,109,32])) h)))
theorem z50_ct (N:Nat) (g_:T5) (m_:T8) (b_:T13) (x_:T3) (r:ByteArray) (h:z50 N g_ m_ b_ x_=some r) :
 Fn Tryz.prog 50 ⟨9,[.a (cC5 0 1 2 3 g_),.a (cC8 4 5 6 m_),.a (cC13 b_),.a (cC3 7 x_)],((0,.sl rS g_.Roles)::(1,.sl rR0 g_.Decls)::(2,.sl rR2 g_.Edges)::(3,.sl rR11 g_.Timeouts)::vV8 4 5 6 m_ [(7,.sl rR12 x_.Values)]),[(8,.abs powT)],9,.c (.s r),[],[(8,.abs powT)]⟩:=by
 refine eFn func50 rfl (fun E F w=>?_)
 unfold z50 at h
 obtain ⟨K,h⟩|⟨K,h⟩:=oc h
 ·refine wH J 20 K ?_
  obtain ⟨x1,d,h⟩:=ob h
  refine wa J 7 (eCl (z98_ct N g_.Roles m_.Role _ d) [] [(0,.sl 0)] ?_)
  obtain ⟨x2,e,h⟩:=ob h
  refine eCa e ?_
  cases h
  exact wr J 2 func50 []
 refine wH J 20 K ?_
 obtain ⟨K,h⟩|⟨K,h⟩:=oc h
 ·refine wH J 6 K ?_
  cases h
  exact wr J 5 func50 []
 refine wH J 6 K ?_
 obtain ⟨K,h⟩|⟨K,h⟩:=oc h
 ·refine wH J 6 K ?_
  obtain ⟨x3,f,h⟩:=ob h
  refine wa J 6 (eCl (z65_ct N (x_.Values.length:Int) _ f) [] [(0,.sl 8)] ?_)
  obtain ⟨x4,g,h⟩:=ob h
  refine eCa g ?_
  obtain ⟨x5,i,h⟩:=ob h
  refine eCa i ?_
  obtain ⟨x6,j,h⟩:=ob h
  refine wa J 4 (eIx J oO0 j ?_)
  obtain ⟨x7,k,h⟩:=ob h
  refine wa J 3 (eCl (z65_ct N (x6.Fields.length:Int) _ k) [] [(0,.sl 8)] ?_)
  obtain ⟨x8,l,h⟩:=ob h
  refine eCa l (wa J 1 (eEnd ?_))
  cases h
  exact eRet J func50 []
 refine wH J 6 K ?_
 obtain ⟨K,h⟩|⟨K,h⟩:=oc' h
 ·refine wH J 6 K ?_
  obtain ⟨K,h⟩|⟨K,h⟩:=oc' h
  ·refine wH J 6 K ?_
   cases h
   exact wr J 7 func50 []
  refine wH J 6 K ?_
  obtain ⟨m,o,h⟩:=ob h
  refine wa J 9 (eCl (z39_ct N g_.Decls x_.Label b_.Part _ o) [] [(0,.sl 1),(1,.sl 8)] ?_)
  obtain ⟨p,q,h⟩:=ob h
  refine eCa q ?_
  cases h
  exact wr J 2 func50 []
 refine wH J 6 K ?_
 obtain ⟨x9,t,h⟩:=ob h
 refine wa J 7 (eIx J oO0 t ?_)
 obtain ⟨u,v,h⟩:=ob h
 refine wa J 4 (eIx J oO4 v (wa J 3 (eEnd ?_)))
 obtain ⟨x,y,h⟩:=ob h
 refine wa J 6 (eIx J oO12 y ?_)
 obtain ⟨z,A,h⟩:=ob h
 refine wa J 1 (eCl (z101_ct N x _ A) [] [(0,.sl 8)] ?_)
 obtain ⟨C,D,h⟩:=ob h
 refine eCa D ?_
 obtain ⟨G,H,h⟩:=ob h
 refine eCa H ?_
 obtain ⟨R,T,h⟩:=ob h
 refine wa J 2 (eCa T ?_)
 obtain ⟨U,X,h⟩:=ob h
 refine eCa X ?_
 obtain ⟨Y,Z,h⟩:=ob h
 refine wa J 3 (eCl (z65_ct N u.Sort'.Lo _ Z) [] [(0,.sl 8)] ?_)
 obtain ⟨a0,b0,h⟩:=ob h
 refine eCa b0 ?_
 obtain ⟨c0,d0,h⟩:=ob h
 refine eCa d0 ?_
 obtain ⟨e0,f0,h⟩:=ob h
 refine wa J 3 (eCl (z65_ct N u.Sort'.Hi _ f0) [] [(0,.sl 8)] ?_)
 obtain ⟨g0,i0,h⟩:=ob h
 refine eCa i0 (wa J 1 (eEnd ?_))
 cases h
 exact eRet J func50 []
theorem z18_ct (N:Nat) (g_:T5) (m_:T8) (history_:(List T3)) (r:ByteArray × Int) (h:z18 N g_ m_ history_=some r) :
 Fn Tryz.prog 18 ⟨9,[.a (cC5 0 1 2 3 g_),.a (cC8 4 5 6 m_),.S 7],((0,.sl rS g_.Roles)::(1,.sl rR0 g_.Decls)::(2,.sl rR2 g_.Edges)::(3,.sl rR11 g_.Timeouts)::vV8 4 5 6 m_ [(7,.sl rR3 history_)]),[(8,.abs powT)],9,.t [.inl (.s r.1),.inl (.I r.2)],[],[(8,.abs powT)]⟩:=by
 refine eFn func18 rfl (fun E F w=>?_)
 unfold z18 at h
 obtain ⟨x1,c,h⟩:=ob h
 refine wa J 12 (eCl (z48_ct N g_ m_ history_ _ c) [] [(0,.sl 0),(1,.sl 1),(2,.sl 2),(3,.sl 3),(4,.sl 4),(5,.sl 5),(6,.sl 6),(7,.sl 7)] ?_)
 obtain ⟨K,h⟩|⟨K,h⟩:=oc h
 ·refine wH J 15 K ?_
  cases h
  exact wr J 11 func18 []
 refine wH J 15 K ?_
 obtain ⟨K,h⟩|⟨K,h⟩:=oc h
 ·refine wH J 4 K ?_
  cases h
  exact wr J 7 func18 []
 refine wH J 4 K ?_
 obtain ⟨x2,d,h⟩:=ob h
 refine wa J 7 (eIx J oO3 d ?_)
 obtain ⟨x3,e,h⟩:=ob h
 refine wa J 8 (eCl (z49_ct N g_ x2 _ e) [] [(0,.sl 0),(1,.sl 1),(2,.sl 2),(3,.sl 3),(4,.sl 13),(5,.sl 8)] ?_)
 obtain ⟨x4,f,h⟩:=ob h
 refine eCa f ?_
 obtain ⟨x5,g,h⟩:=ob h
 refine wa J 4 (eCl (z50_ct N g_ m_ x1.1 x2 _ g) [] [(0,.sl 0),(1,.sl 1),(2,.sl 2),(3,.sl 3),(4,.sl 4),(5,.sl 5),(6,.sl 6),(7,.sl 13),(8,.sl 8)] ?_)
 obtain ⟨x6,i,h⟩:=ob h
 refine eCa i (wa J 2 (eEnd ?_))
 cases h
 exact eRet J func18 []
theorem z15_ct (N:Nat) (g_:T5) (m_:T8) (history_:(List T3)) (x_:T3) (r:ByteArray × Int) (h:z15 N g_ m_ history_ x_=some r) :
 Fn Tryz.prog 15 ⟨10,[.a (cC5 0 1 2 3 g_),.a (cC8 4 5 6 m_),.S 7,.a (cC3 8 x_)],((0,.sl rS g_.Roles)::(1,.sl rR0 g_.Decls)::(2,.sl rR2 g_.Edges)::(3,.sl rR11 g_.Timeouts)::vV8 4 5 6 m_ [(7,.sl rR3 history_),(8,.sl rR12 x_.Values)]),[(9,.abs powT)],10,.t [.inl (.s r.1),.inl (.I r.2)],[],[(9,.abs powT)]⟩:=by
 refine eFn func15 rfl (fun E F w=>?_)
 unfold z15 at h
 obtain ⟨x1,c,h⟩:=ob h
 refine wa J 13 (eCl (z17_ct N g_ m_ history_ _ c) [] [(0,.sl 0),(1,.sl 1),(2,.sl 2),(3,.sl 3),(4,.sl 4),(5,.sl 5),(6,.sl 6),(7,.sl 7)] ?_)
 obtain ⟨K,h⟩|⟨K,h⟩:=oc h
 ·refine wH J 17 K ?_
  cases h
  exact wr J 6 func15 []
 refine wH J 17 K ?_
 obtain ⟨K,h⟩|⟨K,h⟩:=oc h
 ·refine wH J 7 K ?_
  cases h
  exact wr J 6 func15 []
 refine wH J 7 K ?_
 obtain ⟨x2,d,h⟩:=ob h
 refine wa J 8 (eCl (z44_ct N history_ _ d) [] [(0,.sl 7)] (wa J 1 (eBs J [] oO3 ([x_]:List T3) ?_)))
 obtain ⟨x3,e,h⟩:=ob h
 refine eAp J rR3 e ?_
 obtain ⟨x4,f,h⟩:=ob h
 refine eCl (z18_ct N g_ m_ x3 _ f) [18] [(0,.sl 0),(1,.sl 1),(2,.sl 2),(3,.sl 3),(4,.sl 4),(5,.sl 5),(6,.sl 6),(7,.sl 18),(8,.sl 9)] (wa J 5 (eEnd ?_))
 obtain ⟨K,h⟩|⟨K,h⟩:=oc h
 ·refine wH J 6 K ?_
  cases h
  exact wr J 11 func15 []
 refine wH J 6 K ?_
 obtain ⟨K,h⟩|⟨K,h⟩:=oc h
 ·refine wH J 4 K ?_
  cases h
  exact wr J 7 func15 []
 refine wH J 4 K ?_
 obtain ⟨x5,g,h⟩:=ob h
 refine wa J 8 (eCl (z31_ct N g_ m_ x1.1.At _ g) [] [(0,.sl 0),(1,.sl 1),(2,.sl 2),(3,.sl 3),(4,.sl 4),(5,.sl 5),(6,.sl 6),(7,.sl 9)] ?_)
 obtain ⟨x6,i,h⟩:=ob h
 refine eCb (z40_ct N x5 (str [59,32]) _ i) [] [(0,.sl 19)] [19] (.inr ⟨rfl,trivial⟩) ?_
 obtain ⟨K,h⟩|⟨K,h⟩:=oc h
 ·refine wH J 8 K ?_
  obtain ⟨x7,j,h⟩:=ob h
  refine wa J 7 (eCa j ?_)
  obtain ⟨x8,k,h⟩:=ob h
  refine wa J 1 (eCa k ?_)
  cases h
  exact wr J 3 func15 []
 refine wH J 8 K ?_
 obtain ⟨x9,l,h⟩:=ob h
 refine wa J 5 (eCa l ?_)
 obtain ⟨m,o,h⟩:=ob h
 refine wa J 1 (eCa o ?_)
 cases h
 exact wr J 3 func15 []
theorem z248_ct (N:Nat) (i_:Int) (j_:Int) (r:Int) (h:z248 N i_ j_=some r) :
 Fn Tryz.prog 248 ⟨0,[.I i_,.I j_],[],[],0,.I r,[],[]⟩:=by
 refine eFn func248 rfl (fun E F w=>?_)
 unfold z248 at h
 obtain ⟨K,h⟩|⟨K,h⟩:=oc h
 ·refine wH J 13 K ?_
  cases h
  exact wr J 5 func248 []
 refine wH J 13 K ?_
 obtain ⟨K,h⟩|⟨K,h⟩:=oc h
 ·refine wH J 6 K ?_
  cases h
  exact wr J 10 func248 []
 refine wH J 6 K ?_
 obtain ⟨K,h⟩|⟨K,h⟩:=oc h
 ·refine wH J 5 K ?_
  cases h
  exact wr J 5 func248 []
 refine wH J 5 K ?_
 cases h
 exact wr J 7 func248 []
theorem z195_ct (N:Nat) (n_:Int) (r:T17) (h:z195 N n_=some r) :
 Fn Tryz.prog 195 ⟨0,[.I n_],[],[],1,.a (cC17 0 r),[(0,.sl (rI .i64) r.B)],[]⟩:=by
 refine eFn func195 rfl (fun E F w=>?_)
 unfold z195 at h
 obtain ⟨x1,c,h⟩:=ob h
 refine wa J 12 (eMk J (oI .i64) c (wa J 11 (eCut (σ:=(List Int)) (fun st=>(zz20 st n_ [(2,.B 0 0),(3,.B 2 0)])) (fun st=>z195_k1 n_ st=some r) ?_ (fun j1=>?_))))
 ·intro d h
  replace h:z195_k1 n_ d=some r:=h
  unfold z195_k1 at h
  refine wa J 5 (eFr [1] ?_)
  cases h
  exact eRet J func195 [(0,.sl 1)]
 refine wa J 1 (eLoop (σ:=(List Int) × Int) (fun st=>(zz20 st.1 n_ [(0,.I n_),(2,.B 0 0),(3,.B 2 0),(15,.I (w64 (n_+1))),(16,.I st.2)])) (fun n st=>z195_l2 N n_ n st.1 st.2) (r:=r) (fun _=>rfl) ?_ (fun ih=>?_))
 ·intro n12 ih12
  rintro ⟨e,f⟩ h
  replace h:z195_l2 N n_ (n12+1) e f=some r:=h
  unfold z195_l2 at h
  obtain ⟨K,h⟩|⟨K,h⟩:=oc' h
  ·exact wH J 5 K (wa J 2 (eSub [] (j1 e h)))
  refine wH J 5 K (wa J 15 (eCut (σ:=(List Int)) (fun st=>(zz20 st n_ [(0,.I n_),(2,.B 0 0),(3,.B 2 0),(15,.I (w64 (n_+1))),(16,.I f)])) (fun st=>z195_k3 f (z195_l2 N n_ n12) st=some r) ?_ (fun j19=>?_)))
  ·intro g h
   replace h:z195_k3 f (z195_l2 N n_ n12) g=some r:=h
   unfold z195_k3 at h
   exact wa J 5 (eSub [] (ih12 (g,(w64 (f+1))) h))
  refine wa J 1 (eLoop (σ:=(List Int) × Int) (fun st=>(zz20 st.1 n_ [(0,.I n_),(2,.B 0 0),(3,.B 2 0),(4,.I f),(15,.I (w64 (n_+1))),(16,.I f),(20,.I (w64 (n_+1))),(21,.I st.2)])) (fun n st=>z195_l4 N n_ f (z195_l2 N n_ n12) n st.1 st.2) (r:=r) (fun _=>rfl) ?_ (fun ih=>?_))
  ·intro n14 ih21
   rintro ⟨i,j⟩ h
   replace h:z195_l4 N n_ f (z195_l2 N n_ n12) (n14+1) i j=some r:=h
   unfold z195_l4 at h
   obtain ⟨K,h⟩|⟨K,h⟩:=oc' h
   ·exact wH J 5 K (wa J 2 (eSub [] (j19 i h)))
   refine wH J 5 K ?_
   obtain ⟨k,l,h⟩:=ob h
   refine wa J 20 (eCl (z248_ct N f j _ l) [] [] ?_)
   obtain ⟨m,o,h⟩:=ob h
   exact eIo J (rI .i64) o (eSt J [] (oI .i64) k o (eEnd (wa J 5 (eSub [] (ih21 ((setL' i (w64 ((w64 (f * (w64 (n_+1))))+j)) k),(w64 (j+1))) h)))))
  exact eSub [] (ih N (e,0) h)
 exact eSub [] (ih N (x1,0) h)
theorem z109_ct (N:Nat) (n_:Int) (r:T17 × Int) (h:z109 N n_=some r) :
 Fn Tryz.prog 109 ⟨0,[.I n_],[],[],1,.t [.inr (cC17 0 r.1),.inl (.I r.2)],[(0,.sl (rI .i64) r.1.B)],[]⟩:=by
 refine eFn func109 rfl (fun E F w=>?_)
 unfold z109 at h
 obtain ⟨K,h⟩|⟨K,h⟩:=oc h
 ·refine wH J 11 K ?_
  cases h
  exact wr J 11 func109 [(0,.nil)]
 refine wH J 11 K ?_
 obtain ⟨K,h⟩|⟨K,h⟩:=oc h
 ·refine wH J 4 K ?_
  cases h
  exact wr J 7 func109 [(0,.nil)]
 refine wH J 4 K ?_
 obtain ⟨x1,c,h⟩:=ob h
 refine wa J 5 (eCl (z195_ct N n_ _ c) [] [] ?_)
 cases h
 exact wr J 3 func109 [(0,.sl 1)]
theorem z249_ct (N:Nat) (x_:(List Int)) (r:Int) (h:z249 N x_=some r) :
 Fn Tryz.prog 249 ⟨1,[.S 0],[(0,.sl (rI .i64) x_)],[],1,.I r,[],[]⟩:=by
 refine eFn func249 rfl (fun E F w=>?_)
 unfold z249 at h
 obtain ⟨K,h⟩|⟨K,h⟩:=oc h
 ·refine wH J 11 K ?_
  cases h
 refine wH J 11 K ?_
 obtain ⟨x1,c,h⟩:=ob h
 refine wa J 5 (eIx J (oI .i64) c (wa J 8 (eCut (σ:=Int) (fun st=>(zz21 x_ [(3,.I st)])) (fun st=>z249_k1 st=some r) ?_ (fun j2=>?_))))
 ·intro d h
  replace h:z249_k1 d=some r:=h
  unfold z249_k1 at h
  cases h
  exact wr J 5 func249 []
 refine wa J 1 (eLoop (σ:=Int × Int) (fun st=>(zz21 x_ [(0,.S 0),(3,.I st.1),(4,.I st.2)])) (fun n st=>z249_l2 x_ n st.1 st.2) (r:=r) (fun _=>rfl) ?_ (fun ih=>?_))
 ·intro n2 ih4
  rintro ⟨e,f⟩ h
  replace h:z249_l2 x_ (n2+1) e f=some r:=h
  unfold z249_l2 at h
  obtain ⟨K,h⟩|⟨K,h⟩:=oc' h
  ·exact wH J 8 K (wa J 2 (eSub [] (j2 e h)))
  refine wH J 8 K ?_
  obtain ⟨g,i,h⟩:=ob h
  exact wa J 8 (eIx J (oI .i64) i (wa J 10 (eSub [] (ih4 ((minI e g),(w64 (f+1))) h))))
 exact eSub [] (ih N (x1,1) h)
theorem z250_ct (N:Nat) (x_:(List Int)) (r:Int) (h:z250 N x_=some r) :
 Fn Tryz.prog 250 ⟨1,[.S 0],[(0,.sl (rI .i64) x_)],[],1,.I r,[],[]⟩:=by
 refine eFn func250 rfl (fun E F w=>?_)
 unfold z250 at h
 obtain ⟨K,h⟩|⟨K,h⟩:=oc h
 ·refine wH J 11 K ?_
  cases h
 refine wH J 11 K ?_
 obtain ⟨x1,c,h⟩:=ob h
 refine wa J 5 (eIx J (oI .i64) c (wa J 8 (eCut (σ:=Int) (fun st=>(zz21 x_ [(3,.I st)])) (fun st=>z250_k1 st=some r) ?_ (fun j2=>?_))))
 ·intro d h
  replace h:z250_k1 d=some r:=h
  unfold z250_k1 at h
  cases h
  exact wr J 5 func250 []
 refine wa J 1 (eLoop (σ:=Int × Int) (fun st=>(zz21 x_ [(0,.S 0),(3,.I st.1),(4,.I st.2)])) (fun n st=>z250_l2 x_ n st.1 st.2) (r:=r) (fun _=>rfl) ?_ (fun ih=>?_))
 ·intro n2 ih4
  rintro ⟨e,f⟩ h
  replace h:z250_l2 x_ (n2+1) e f=some r:=h
  unfold z250_l2 at h
  obtain ⟨K,h⟩|⟨K,h⟩:=oc' h
  ·exact wH J 8 K (wa J 2 (eSub [] (j2 e h)))
  refine wH J 8 K ?_
  obtain ⟨g,i,h⟩:=ob h
  exact wa J 8 (eIx J (oI .i64) i (wa J 10 (eSub [] (ih4 ((maxI e g),(w64 (f+1))) h))))
 exact eSub [] (ih N (x1,1) h)
theorem z196_ct (N:Nat) (z_:T17) (r:Bool) (h:z196 N z_=some r) :
 Fn Tryz.prog 196 ⟨1,[.a (cC17 0 z_)],[(0,.sl (rI .i64) z_.B)],[],1,.O r,[],[]⟩:=by
 refine eFn func196 rfl (fun E F w=>?_)
 unfold z196 at h
 obtain ⟨K,h⟩|⟨K,h⟩:=oc' h
 ·refine wH J 11 K ?_
  cases h
  exact wr J 31 func196 []
 refine wH J 11 K ?_
 obtain ⟨K,h⟩|⟨K,h⟩:=oc' h
 ·refine wH J 5 K ?_
  cases h
  exact wr J 26 func196 []
 refine wH J 5 K ?_
 obtain ⟨K,h⟩|⟨K,h⟩:=oc' h
 ·refine wH J 13 K ?_
  cases h
  exact wr J 13 func196 []
 refine wH J 13 K ?_
 obtain ⟨x1,c,h⟩:=ob h
 refine wa J 2 (eCl (z249_ct N z_.B _ c) [] [(0,.sl 0)] ?_)
 obtain ⟨K,h⟩|⟨K,h⟩:=oc' h
 ·refine wH J 3 K ?_
  cases h
  exact wr J 7 func196 []
 refine wH J 3 K ?_
 obtain ⟨x2,d,h⟩:=ob h
 refine wa J 2 (eCl (z250_ct N z_.B _ d) [] [(0,.sl 0)] ?_)
 cases h
 exact wr J 4 func196 []
theorem z197_ct (N:Nat) (z_:T17) (x_:Int) (r:Bool) (h:z197 N z_ x_=some r) :
 Fn Tryz.prog 197 ⟨1,[.a (cC17 0 z_),.I x_],[(0,.sl (rI .i64) z_.B)],[],1,.O r,[],[]⟩:=by
 refine eFn func197 rfl (fun E F w=>?_)
 unfold z197 at h
 obtain ⟨K,h⟩|⟨K,h⟩:=oc h
 ·refine wH J 10 K ?_
  cases h
  exact wr J 7 func197 []
 refine wH J 10 K ?_
 cases h
 exact wr J 7 func197 []
theorem z198_ct (N:Nat) (s_:(List Int)) (r:(List Int)) (h:z198 N s_=some r) :
 Fn Tryz.prog 198 ⟨1,[.S 0],[(0,.sl (rI .i64) s_)],[],2,.S 1,[],[(1,.own (rI .i64) r true)]⟩:=by
 refine eFn func198 rfl (fun E F w=>?_)
 unfold z198 at h
 refine wa J 8 (eNi (rI .i64) s_ false ?_)
 intro nb hnb
 cases nb
 ·refine wa J 5 (eBs J [] (oI .i64) ([]:List Int) ?_)
  obtain ⟨x1,c,h⟩:=ob h
  refine wa J 1 (eAp J (rI .i64) c ?_)
  cases h
  exact wr J 2 func198 [(1,.sl 2)]
 ·obtain rfl:=hnb rfl
  replace h:(some ([]:List Int):Option (List Int))=some r:=h
  cases h
  exact wr J 6 func198 [(1,.nil)]
theorem z111_ct (N:Nat) (z_:T17) (d_:T1) (r:T17 × Int) (h:z111 N z_ d_=some r) :
 Fn Tryz.prog 111 ⟨1,[.a (cC17 0 z_),.a (cC1 d_)],[(0,.sl (rI .i64) z_.B)],[],2,.t [.inr (cC17 1 r.1),.inl (.I r.2)],[(1,.sl (rI .i64) r.1.B)],[]⟩:=by
 refine eFn func111 rfl (fun E F w=>?_)
 unfold z111 at h
 obtain ⟨x1,c,h⟩:=ob h
 refine wa J 11 (eCl (z196_ct N z_ _ c) [] [(0,.sl 0)] ?_)
 obtain ⟨K,h⟩|⟨K,h⟩:=oc h
 ·refine wH J 2 K ?_
  cases h
  exact wr J 7 func111 [(1,.nil)]
 refine wH J 2 K ?_
 obtain ⟨x2,d,h⟩:=ob h
 refine wa J 8 (eCl (z197_ct N z_ d_.X _ d) [] [(0,.sl 0)] ?_)
 obtain ⟨K,h⟩|⟨K,h⟩:=oc h
 ·refine wH J 2 K ?_
  cases h
  exact wr J 14 func111 [(1,.nil)]
 refine wH J 2 K ?_
 obtain ⟨x3,e,h⟩:=ob h
 refine wa J 3 (eCl (z197_ct N z_ d_.Y _ e) [] [(0,.sl 0)] ?_)
 obtain ⟨K,h⟩|⟨K,h⟩:=oc h
 ·refine wH J 3 K ?_
  cases h
  exact wr J 7 func111 [(1,.nil)]
 refine wH J 3 K ?_
 obtain ⟨x4,f,h⟩:=ob h
 refine wa J 8 (eCl (z198_ct N z_.B _ f) [] [(0,.sl 0)] (wa J 3 (eEnd ?_)))
 obtain ⟨x5,g,h⟩:=ob h
 refine wa J 23 (eIo J (rI .i64) g (eLd J (oI .i64) g ?_))
 obtain ⟨x6,i,h⟩:=ob h
 refine wa J 4 (eIo J (rI .i64) i (eSt J [] (oI .i64) (minI x5 (maxI d_.C (-20001))) i (eEnd (wa J 6 (eFr [4] ?_)))))
 cases h
 exact eRet J func111 [(1,.sl 4)]
theorem z199_ct (N:Nat) (z_:T17) (r:T17 × Bool) (h:z199 N z_=some r) :
 Fn Tryz.prog 199 ⟨1,[.a (cC17 0 z_)],[(0,.sl (rI .i64) z_.B)],[],2,.t [.inr (cC17 1 r.1),.inl (.b r.2)],[(1,.sl (rI .i64) r.1.B)],[]⟩:=by
 refine eFn func199 rfl (fun E F w=>?_)
 unfold z199 at h
 obtain ⟨x1,c,h⟩:=ob h
 refine wa J 10 (eCl (z196_ct N z_ _ c) [] [(0,.sl 0)] ?_)
 obtain ⟨K,h⟩|⟨K,h⟩:=oc h
 ·refine wH J 2 K ?_
  cases h
  exact wr J 7 func199 [(1,.nil)]
 refine wH J 2 K ?_
 obtain ⟨x2,d,h⟩:=ob h
 refine wa J 15 (eCl (z198_ct N z_.B _ d) [] [(0,.sl 0)] (wa J 3 (eEnd (wa J 6 (eCut (σ:=(List Int)) (fun st=>(zz0 st z_ z_.B [(2,.B 2 0),(4,.I (w64 (z_.N+1))),(5,.B 4 0)])) (fun st=>z199_k9 N z_ st=some r) ?_ (fun j1=>?_))))))
 ·intro e h
  replace h:z199_k9 N z_ e=some r:=h
  unfold z199_k9 at h
  refine wa J 6 (eCut (σ:=(List Int)) (fun st=>(zz0 st z_ z_.B [(2,.B 2 0),(5,.B 4 0)])) (fun st=>z199_k1 z_ st=some r) ?_ (fun j12=>?_))
  ·intro f h
   replace h:z199_k1 z_ f=some r:=h
   unfold z199_k1 at h
   refine wa J 6 (eFr [3] ?_)
   cases h
   exact eRet J func199 [(1,.sl 3)]
  refine wa J 1 (eLoop (σ:=(List Int) × Int) (fun st=>(zz0 st.1 z_ z_.B [(2,.B 2 0),(4,.I (w64 (z_.N+1))),(5,.B 4 0),(56,.I (w64 (z_.N+1))),(57,.I st.2)])) (fun n st=>z199_l2 N z_ n st.1 st.2) (r:=r) (fun _=>rfl) ?_ (fun ih=>?_))
  ·intro n89 ih86
   rintro ⟨g,i⟩ h
   replace h:z199_l2 N z_ (n89+1) g i=some r:=h
   unfold z199_l2 at h
   obtain ⟨K,h⟩|⟨K,h⟩:=oc' h
   ·exact wH J 5 K (wa J 2 (eSub [] (j12 g h)))
   refine wH J 5 K (wa J 15 (eCut (σ:=(List Int)) (fun st=>(zz0 st z_ z_.B [(2,.B 2 0),(4,.I (w64 (z_.N+1))),(5,.B 4 0),(56,.I (w64 (z_.N+1))),(57,.I i)])) (fun st=>z199_k5 N z_ i (z199_l2 N z_ n89) st=some r) ?_ (fun j135=>?_)))
   ·intro j h
    replace h:z199_k5 N z_ i (z199_l2 N z_ n89) j=some r:=h
    unfold z199_k5 at h
    refine wa J 5 (eCut (σ:=Unit) (fun st=>(zz0 j z_ z_.B [(2,.B 2 0),(4,.I (w64 (z_.N+1))),(5,.B 4 0),(56,.I (w64 (z_.N+1))),(57,.I i)])) (fun st=>z199_k3 i (z199_l2 N z_ n89) j=some r) ?_ (fun j146=>?_))
    ·intro _ h
     replace h:z199_k3 i (z199_l2 N z_ n89) j=some r:=h
     unfold z199_k3 at h
     exact wa J 5 (eSub [] (ih86 (j,(w64 (i+1))) h))
    refine wa J 1 (eLoop (σ:=Int) (fun st=>(zz0 j z_ z_.B [(2,.B 2 0),(4,.I (w64 (z_.N+1))),(5,.B 4 0),(56,.I (w64 (z_.N+1))),(57,.I i),(107,.I (w64 (z_.N+1))),(108,.I st)])) (fun n st=>z199_l4 z_ i (z199_l2 N z_ n89) j n st) (r:=r) (fun _=>rfl) ?_ (fun ih=>?_))
    ·intro n98 ih148
     intro k h
     replace h:z199_l4 z_ i (z199_l2 N z_ n89) j (n98+1) k=some r:=h
     unfold z199_l4 at h
     obtain ⟨K,h⟩|⟨K,h⟩:=oc' h
     ·exact wH J 5 K (wa J 2 (eSub [] (j146 () h)))
     refine wH J 5 K ?_
     obtain ⟨l,m,h⟩:=ob h
     refine wa J 18 (eIo J (rI .i64) m (eLd J (oI .i64) m ?_))
     obtain ⟨K,h⟩|⟨K,h⟩:=oc h
     ·refine wH J 2 K ?_
      cases h
      exact wr J 7 func199 [(1,.nil)]
     exact wH J 2 K (wa J 7 (eSub [] (ih148 (w64 (k+1)) h)))
    exact eSub [] (ih N 0 h)
   refine wa J 1 (eLoop (σ:=(List Int) × Int) (fun st=>(zz0 st.1 z_ z_.B [(2,.B 2 0),(4,.I (w64 (z_.N+1))),(5,.B 4 0),(8,.I i),(56,.I (w64 (z_.N+1))),(57,.I i),(60,.I (w64 (z_.N+1))),(61,.I st.2)])) (fun n st=>z199_l6 N z_ i (z199_l2 N z_ n89) n st.1 st.2) (r:=r) (fun _=>rfl) ?_ (fun ih=>?_))
   ·intro n103 ih149
    rintro ⟨o,p⟩ h
    replace h:z199_l6 N z_ i (z199_l2 N z_ n89) (n103+1) o p=some r:=h
    unfold z199_l6 at h
    obtain ⟨K,h⟩|⟨K,h⟩:=oc' h
    ·exact wH J 5 K (wa J 2 (eSub [] (j135 o h)))
    refine wH J 5 K (wa J 14 (eCut (σ:=(List Int)) (fun st=>(zz0 st z_ z_.B [(2,.B 2 0),(4,.I (w64 (z_.N+1))),(5,.B 4 0),(8,.I i),(56,.I (w64 (z_.N+1))),(57,.I i),(60,.I (w64 (z_.N+1))),(61,.I p)])) (fun st=>z199_k7 p (z199_l6 N z_ i (z199_l2 N z_ n89) n103) st=some r) ?_ (fun j156=>?_)))
    ·intro q h
     replace h:z199_k7 p (z199_l6 N z_ i (z199_l2 N z_ n89) n103) q=some r:=h
     unfold z199_k7 at h
     exact wa J 5 (eSub [] (ih149 (q,(w64 (p+1))) h))
    refine wa J 1 (eLoop (σ:=(List Int) × Int) (fun st=>(zz0 st.1 z_ z_.B [(2,.B 2 0),(4,.I (w64 (z_.N+1))),(5,.B 4 0),(8,.I i),(9,.I p),(56,.I (w64 (z_.N+1))),(57,.I i),(60,.I (w64 (z_.N+1))),(61,.I p),(64,.I (w64 (z_.N+1))),(65,.I st.2)])) (fun n st=>z199_l8 z_ i p (z199_l6 N z_ i (z199_l2 N z_ n89) n103) n st.1 st.2) (r:=r) (fun _=>rfl) ?_ (fun ih=>?_))
    ·intro n105 ih158
     rintro ⟨s,u⟩ h
     replace h:z199_l8 z_ i p (z199_l6 N z_ i (z199_l2 N z_ n89) n103) (n105+1) s u=some r:=h
     unfold z199_l8 at h
     obtain ⟨K,h⟩|⟨K,h⟩:=oc' h
     ·exact wH J 5 K (wa J 2 (eSub [] (j156 s h)))
     refine wH J 5 K ?_
     obtain ⟨v,x,h⟩:=ob h
     refine wa J 24 (eIo J (rI .i64) x (eLd J (oI .i64) x ?_))
     obtain ⟨y,z,h⟩:=ob h
     refine wa J 7 (eIo J (rI .i64) z (eLd J (oI .i64) z ?_))
     obtain ⟨A,C,h⟩:=ob h
     refine wa J 7 (eIo J (rI .i64) C (eLd J (oI .i64) C ?_))
     obtain ⟨D,G,h⟩:=ob h
     exact wa J 2 (eIo J (rI .i64) G (eSt J [] (oI .i64) (minI v (w64 (y+A))) G (eEnd (wa J 5 (eSub [] (ih158 ((setL' s (w64 ((w64 (p * (w64 (z_.N+1))))+u)) (minI v (w64 (y+A)))),(w64 (u+1))) h))))))
    exact eSub [] (ih N (o,0) h)
   exact eSub [] (ih N (g,0) h)
  exact eSub [] (ih N (e,0) h)
 refine wa J 1 (eLoop (σ:=(List Int) × Int) (fun st=>(zz0 st.1 z_ z_.B [(2,.B 2 0),(4,.I (w64 (z_.N+1))),(5,.B 4 0),(25,.I (w64 (z_.N+1))),(26,.I st.2)])) (fun n st=>z199_l10 N z_ n st.1 st.2) (r:=r) (fun _=>rfl) ?_ (fun ih=>?_))
 ·intro n110 ih159
  rintro ⟨H,R⟩ h
  replace h:z199_l10 N z_ (n110+1) H R=some r:=h
  unfold z199_l10 at h
  obtain ⟨K,h⟩|⟨K,h⟩:=oc' h
  ·exact wH J 5 K (wa J 2 (eSub [] (j1 H h)))
  refine wH J 5 K (wa J 14 (eCut (σ:=(List Int)) (fun st=>(zz0 st z_ z_.B [(2,.B 2 0),(4,.I (w64 (z_.N+1))),(5,.B 4 0),(25,.I (w64 (z_.N+1))),(26,.I R)])) (fun st=>z199_k11 R (z199_l10 N z_ n110) st=some r) ?_ (fun j166=>?_)))
  ·intro T h
   replace h:z199_k11 R (z199_l10 N z_ n110) T=some r:=h
   unfold z199_k11 at h
   exact wa J 5 (eSub [] (ih159 (T,(w64 (R+1))) h))
  refine wa J 1 (eLoop (σ:=(List Int) × Int) (fun st=>(zz0 st.1 z_ z_.B [(2,.B 2 0),(4,.I (w64 (z_.N+1))),(5,.B 4 0),(6,.I R),(25,.I (w64 (z_.N+1))),(26,.I R),(29,.I (w64 (z_.N+1))),(30,.I st.2)])) (fun n st=>z199_l12 N z_ R (z199_l10 N z_ n110) n st.1 st.2) (r:=r) (fun _=>rfl) ?_ (fun ih=>?_))
  ·intro n112 ih168
   rintro ⟨U,X⟩ h
   replace h:z199_l12 N z_ R (z199_l10 N z_ n110) (n112+1) U X=some r:=h
   unfold z199_l12 at h
   obtain ⟨K,h⟩|⟨K,h⟩:=oc' h
   ·exact wH J 5 K (wa J 2 (eSub [] (j166 U h)))
   refine wH J 5 K ?_
   obtain ⟨Y,Z,h⟩:=ob h
   refine wa J 24 (eIo J (rI .i64) Z (eLd J (oI .i64) Z ?_))
   obtain ⟨a0,b0,h⟩:=ob h
   refine wa J 2 (eCl (z248_ct N R X _ b0) [] [] ?_)
   obtain ⟨c0,d0,h⟩:=ob h
   exact wa J 1 (eIo J (rI .i64) d0 (eSt J [] (oI .i64) (minI Y a0) d0 (eEnd (wa J 5 (eSub [] (ih168 ((setL' U (w64 ((w64 (R * (w64 (z_.N+1))))+X)) (minI Y a0)),(w64 (X+1))) h))))))
  exact eSub [] (ih N (H,0) h)
 exact eSub [] (ih N (x2,0) h)
theorem z200_ct (N:Nat) (z_:T17) (i_:Int) (j_:Int) (r:Int) (h:z200 N z_ i_ j_=some r) :
 Fn Tryz.prog 200 ⟨1,[.a (cC17 0 z_),.I i_,.I j_],[(0,.sl (rI .i64) z_.B)],[],1,.I r,[],[]⟩:=by
 refine eFn func200 rfl (fun E F w=>?_)
 unfold z200 at h
 obtain ⟨x1,c,h⟩:=ob h
 refine wa J 16 (eIx J (oI .i64) c ?_)
 cases h
 exact wr J 3 func200 []
theorem z112_ct (N:Nat) (z_:T17) (r:(List Int) × Bool) (h:z112 N z_=some r) :
 Fn Tryz.prog 112 ⟨1,[.a (cC17 0 z_)],[(0,.sl (rI .i64) z_.B)],[],2,.t [.inl (.sl 1),.inl (.b r.2)],[],[(1,.own (rI .i64) r.1 true)]⟩:=by
 refine eFn func112 rfl (fun E F w=>?_)
 unfold z112 at h
 obtain ⟨x1,c,h⟩:=ob h
 refine wa J 9 (eCl (z199_ct N z_ _ c) [] [(0,.sl 0)] ?_)
 obtain ⟨K,h⟩|⟨K,h⟩:=oc h
 ·refine wH J 13 K ?_
  cases h
  exact wr J 6 func112 [(1,.nil)]
 refine wH J 13 K (wa J 4 (eBs J [] (oI .i64) ([]:List Int) (wa J 9 (eCut (σ:=(List Int)) (fun st=>⟨[(6,.S 5)],[(5,.own (rI .i64) st true)],[(0,.sl (rI .i64) z_.B)],6⟩) (fun st=>z112_k1 st=some r) ?_ (fun j1=>?_)))))
 ·intro d h
  replace h:z112_k1 d=some r:=h
  unfold z112_k1 at h
  cases h
  exact wr J 6 func112 [(1,.sl 5)]
 refine wa J 1 (eLoop (σ:=(List Int) × Int) (fun st=>(zz26 x1.1 st.1 z_.B x1.1.B [(4,.B 3 0),(6,.S 5),(20,.I z_.N),(21,.I st.2)])) (fun n st=>z112_l2 N z_ x1 n st.1 st.2) (r:=r) (fun _=>rfl) ?_ (fun ih=>?_))
 ·intro n12 ih12
  rintro ⟨e,f⟩ h
  replace h:z112_l2 N z_ x1 (n12+1) e f=some r:=h
  unfold z112_l2 at h
  obtain ⟨K,h⟩|⟨K,h⟩:=oc' h
  ·exact wH J 5 K (wa J 2 (eSub [] (j1 e h)))
  refine wH J 5 K ?_
  obtain ⟨g,i,h⟩:=ob h
  refine wa J 14 (eCl (z200_ct N x1.1 0 (w64 (f+1)) _ i) [] [(0,.sl 2)] (wa J 10 (eCut (σ:=Int) (fun st=>(zz26 x1.1 e z_.B x1.1.B [(4,.B 3 0),(6,.S 5),(8,.I st),(20,.I z_.N),(21,.I f)])) (fun st=>z112_k3 e f (z112_l2 N z_ x1 n12) st=some r) ?_ (fun j19=>?_))))
  ·intro j h
   replace h:z112_k3 e f (z112_l2 N z_ x1 n12) j=some r:=h
   unfold z112_k3 at h
   refine wa J 3 (eBs J [] (oI .i64) ([j]:List Int) ?_)
   obtain ⟨k,l,h⟩:=ob h
   exact eAp J (rI .i64) l (wa J 7 (eSub [(5,.sl 7)] (ih12 (k,(w64 (f+1))) h)))
  refine wa J 1 (eLoop (σ:=Int × Int) (fun st=>(zz26 x1.1 e z_.B x1.1.B [(4,.B 3 0),(6,.S 5),(7,.I f),(8,.I st.1),(20,.I z_.N),(21,.I f),(29,.S 5),(30,.I (e.length:Int)),(31,.I st.2)])) (fun n st=>z112_l4 N x1 e f (z112_l2 N z_ x1 n12) n st.1 st.2) (r:=r) (fun _=>rfl) ?_ (fun ih=>?_))
  ·intro n14 ih21
   rintro ⟨m,o⟩ h
   replace h:z112_l4 N x1 e f (z112_l2 N z_ x1 n12) (n14+1) m o=some r:=h
   unfold z112_l4 at h
   obtain ⟨K,h⟩|⟨K,h⟩:=oc' h
   ·exact wH J 5 K (wa J 2 (eSub [] (j19 m h)))
   refine wH J 5 K ?_
   obtain ⟨p,q,h⟩:=ob h
   refine wa J 7 (eIo J (rI .i64) q (eLd J (oI .i64) q ?_))
   obtain ⟨s,u,h⟩:=ob h
   exact wa J 11 (eCl (z200_ct N x1.1 (w64 (o+1)) (w64 (f+1)) _ u) [] [(0,.sl 2)] (wa J 9 (eSub [] (ih21 ((maxI m (w64 (p-s))),(w64 (o+1))) h))))
  exact eSub [] (ih N ((w64 (0-g)),0) h)
 exact eSub [(5,.sl 4)] (ih N (([]:List Int),0) h)
theorem repL_eq (l:List UInt8):∀ n:Nat,Go.Lib.repeatL l n=repL l n
 | 0=>rfl
 | n+1=>by show l++Go.Lib.repeatL l n=l++repL l n;rw [repL_eq l n]
theorem z113_ct (N:Nat) (s_:ByteArray) (count_:Int) (r:ByteArray) (h:z113 N s_ count_=some r):Fn Tryz.prog 113 ⟨0,[.c (.s s_),.I count_],[],[],0,.c (.s r),[],[]⟩:=by
 unfold z113 at h
 cases hb:((decide (0≤count_) && decide (count_≤140737488355328)) && decide (s_.size * count_.toNat≤140737488355328)) with
 | false=>rw [hb] at h;cases h
 | true =>
  rw [hb] at h
  simp only [cond_true,Option.some.injEq] at h
  subst h
  simp only [Bool.and_eq_true,decide_eq_true_eq] at hb
  obtain ⟨⟨h1,h2⟩,h3⟩:=hb
  obtain ⟨c,rfl⟩:=Int.eq_ofNat_of_zero_le h1
  have:=repeat_fn s_ c (by omega) h3
  rw [repL_eq] at this
  exact this
theorem z115_ct (N:Nat) (d_:T0) (l_:(List T12)) (r:(List T12)) (h:z115 N d_ l_=some r) :
 Fn Tryz.prog 115 ⟨4,[.a (cC0 0 1 2 d_),.S 3],(vV0 0 1 2 d_ []),[(3,.own rR12 l_ false)],4,.t [],[],[(3,.own rR12 r false)]⟩:=by
 refine eFn func115 rfl (fun E F w=>?_)
 unfold z115 at h
 obtain ⟨x1,c,h⟩:=ob h
 refine wa J 8 (eMk J oB c (wa J 9 (eCut (σ:=(List Bool)) (fun st=>(zz15 l_ d_ st [(1,.S 3),(2,.B 4 0),(4,.S 5)])) (fun st=>z115_k8 N d_ l_ st=some r) ?_ (fun j1=>?_))))
 ·intro d h
  replace h:z115_k8 N d_ l_ d=some r:=h
  unfold z115_k8 at h
  refine wa J 4 (eCut (σ:=(List T12)) (fun st=>⟨[],[(3,.own rR12 st false)],(vV0 0 1 2 d_ []),6⟩) (fun st=>z115_k1 st=some r) ?_ (fun j3=>?_))
  ·intro e h
   replace h:z115_k1 e=some r:=h
   unfold z115_k1 at h
   cases h
   exact eRet J func115 []
  refine wa J 1 (eLoop (σ:=(List T12) × (List Bool) × Bool) (fun st=>(zz15 st.1 d_ st.2.1 [(1,.S 3),(2,.B 4 0),(4,.S 5),(6,.O st.2.2)])) (fun n st=>z115_l2 N d_ n st.1 st.2.1 st.2.2) (r:=r) (fun _=>rfl) ?_ (fun ih=>?_))
  ·intro n73 ih176
   rintro ⟨f,g,j⟩ h
   replace h:z115_l2 N d_ (n73+1) f g j=some r:=h
   unfold z115_l2 at h
   obtain ⟨K,h⟩|⟨K,h⟩:=oc' h
   ·exact wH J 5 K (wa J 2 (eSub [] (j3 f h)))
   refine wH J 5 K (wa J 15 (eCut (σ:=(List T12) × (List Bool) × Bool) (fun st=>(zz15 st.1 d_ st.2.1 [(1,.S 3),(2,.B 4 0),(4,.S 5),(6,.O st.2.2)])) (fun st=>z115_k3 (z115_l2 N d_ n73) st.1 st.2.1 st.2.2=some r) ?_ (fun j291=>?_)))
   ·rintro ⟨k,l,m⟩ h
    replace h:z115_k3 (z115_l2 N d_ n73) k l m=some r:=h
    unfold z115_k3 at h
    exact wa J 1 (eSub [] (ih176 (k,l,m) h))
   refine wa J 1 (eLoop (σ:=(List T12) × (List Bool) × Bool × Int) (fun st=>(zz15 st.1 d_ st.2.1 [(1,.S 3),(2,.B 4 0),(4,.S 5),(6,.O st.2.2.1),(49,.S 2),(50,.I (d_.Guard.Equals.length:Int)),(51,.I st.2.2.2)])) (fun n st=>z115_l4 N d_ (z115_l2 N d_ n73) n st.1 st.2.1 st.2.2.1 st.2.2.2) (r:=r) (fun _=>rfl) ?_ (fun ih=>?_))
   ·intro n85 ih320
    rintro ⟨o,p,q,s⟩ h
    replace h:z115_l4 N d_ (z115_l2 N d_ n73) (n85+1) o p q s=some r:=h
    unfold z115_l4 at h
    obtain ⟨K,h⟩|⟨K,h⟩:=oc' h
    ·exact wH J 5 K (wa J 2 (eSub [] (j291 (o,p,q) h)))
    refine wH J 5 K ?_
    obtain ⟨u,v,h⟩:=ob h
    refine wa J 6 (eIx J (oP (oI .i64) (oI .i64)) v (wa J 9 (eCut (σ:=(List T12) × (List Bool) × Bool) (fun st=>⟨[(1,.S 3),(2,.B 4 0),(4,.S 5),(6,.O st.2.2),(49,.S 2),(50,.I (d_.Guard.Equals.length:Int)),(51,.I s)],[(3,.own rR12 st.1 false),(4,.box (cC0 0 1 2 d_) 75),(5,.own rB st.2.1 true)],(vV0 0 1 2 d_ []),8⟩) (fun st=>z115_k5 s (z115_l4 N d_ (z115_l2 N d_ n73) n85) st.1 st.2.1 st.2.2=some r) ?_ (fun j339=>?_))))
    ·rintro ⟨x,y,z⟩ h
     replace h:z115_k5 s (z115_l4 N d_ (z115_l2 N d_ n73) n85) x y z=some r:=h
     unfold z115_k5 at h
     exact wa J 5 (eSub [] (ih320 (x,y,z,(w64 (s+1))) h))
    refine wa J 1 (eLoop (σ:=(List T12) × (List Bool) × Bool × Int) (fun st=>(zz41 st.1 d_ st.2.1 u.1 u.2 [(1,.S 3),(2,.B 4 0),(4,.S 5),(6,.O st.2.2.1),(8,.B 7 0),(49,.S 2),(50,.I (d_.Guard.Equals.length:Int)),(51,.I s),(55,.a [.I u.1,.I u.2]),(56,.I st.2.2.2)])) (fun n st=>z115_l6 s (z115_l4 N d_ (z115_l2 N d_ n73) n85) u n st.1 st.2.1 st.2.2.1 st.2.2.2) (r:=r) (fun _=>rfl) ?_ (fun ih=>?_))
    ·intro n87 ih344
     rintro ⟨A,C,D,G⟩ h
     replace h:z115_l6 s (z115_l4 N d_ (z115_l2 N d_ n73) n85) u (n87+1) A C D G=some r:=h
     unfold z115_l6 at h
     obtain ⟨K,h⟩|⟨K,h⟩:=oc' h
     ·exact wH J 5 K (wa J 2 (eSub [] (j339 (A,C,D) h)))
     refine wH J 5 K ?_
     obtain ⟨H,R,h⟩:=ob h
     refine wa J 7 (eAx (SC.i .i64) ([u.1,u.2]:List Int) R ?_)
     refine wa J 7 (eCut (σ:=Int) (fun st=>(zz41 A d_ C u.1 u.2 [(1,.S 3),(2,.B 4 0),(4,.S 5),(6,.O D),(8,.B 7 0),(10,.I H),(11,.I st),(49,.S 2),(50,.I (d_.Guard.Equals.length:Int)),(51,.I s),(55,.a [.I u.1,.I u.2]),(56,.I G)])) (fun st=>z115_k7 A C D G (z115_l6 s (z115_l4 N d_ (z115_l2 N d_ n73) n85) u n87) H st=some r) ?_ (fun j347=>?_))
     ·intro T h
      replace h:z115_k7 A C D G (z115_l6 s (z115_l4 N d_ (z115_l2 N d_ n73) n85) u n87) H T=some r:=h
      unfold z115_k7 at h
      obtain ⟨U,X,h⟩:=ob h
      refine wa J 4 (eIo J rB X (eLd J oB X ?_))
      obtain ⟨K,h⟩|⟨K,h⟩:=oc' h
      ·exact wH J 1 K (wa J 14 (eSub [] (ih344 (A,C,D,(w64 (G+1))) h)))
      refine wH J 1 K ?_
      obtain ⟨Y,Z,h⟩:=ob h
      refine wa J 2 (eIo J rB Z (eLd J oB Z ?_))
      obtain ⟨K,h⟩|⟨K,h⟩:=oc' h
      ·exact wH J 3 K (wa J 7 (eSub [] (ih344 (A,C,D,(w64 (G+1))) h)))
      refine wH J 3 K ?_
      obtain ⟨a0,b0,h⟩:=ob h
      refine wa J 8 (eIo J rR12 b0 (wa J 1 (eLd J oO12 b0 ?_)))
      obtain ⟨c0,d0,h⟩:=ob h
      refine eIo J rR12 d0 (wa J 1 (eSt J [] oO12 (⟨c0.Kind,c0.N,a0.S⟩:T12) d0 ?_))
      obtain ⟨e0,f0,h⟩:=ob h
      exact eIo J rB f0 (eSt J [] oB true f0 (wa J 7 (eSub [] (ih344 ((setL' A H (⟨c0.Kind,c0.N,a0.S⟩:T12)),(setL' C H true),true,(w64 (G+1))) h))))
     obtain ⟨K,h⟩|⟨K,h⟩:=oc h
     ·exact eAb 0 (by exact eq_of_beq K) (wa J 3 (eSub [] (j347 u.1 h)))
     obtain ⟨K,h⟩|⟨K,h⟩:=oc h
     ·exact eAb 1 (by exact eq_of_beq K) (wa J 3 (eSub [] (j347 u.2 h)))
     cases h
    exact eSub [] (ih N (o,p,q,0) h)
   exact eSub [] (ih N (f,g,false,0) h)
  exact eSub [] (ih N (l_,d,true) h)
 refine wa J 1 (eLoop (σ:=(List Bool) × Int) (fun st=>(zz15 l_ d_ st.1 [(1,.S 3),(2,.B 4 0),(4,.S 5),(16,.I (l_.length:Int)),(17,.I st.2)])) (fun n st=>z115_l9 N d_ l_ n st.1 st.2) (r:=r) (fun _=>rfl) ?_ (fun ih=>?_))
 ·intro n88 ih348
  rintro ⟨g0,i0⟩ h
  replace h:z115_l9 N d_ l_ (n88+1) g0 i0=some r:=h
  unfold z115_l9 at h
  obtain ⟨K,h⟩|⟨K,h⟩:=oc' h
  ·exact wH J 5 K (wa J 2 (eSub [] (j1 g0 h)))
  refine wH J 5 K ?_
  obtain ⟨K,h⟩|⟨K,h⟩:=oc h
  ·refine wH J 17 K ?_
   obtain ⟨j0,k0,h⟩:=ob h
   refine wa J 12 (eIo J rR12 k0 (wa J 1 (eLd J oO12 k0 ?_)))
   obtain ⟨l0,m0,h⟩:=ob h
   exact wa J 2 (eIo J rB m0 (eSt J [] oB (j0.Kind != 0) m0 (wa J 6 (eSub [] (ih348 ((setL' g0 i0 (j0.Kind != 0)),(w64 (i0+1))) h)))))
  refine wH J 17 K ?_
  obtain ⟨K,h⟩|⟨K,h⟩:=oc' h
  ·refine wH J 10 K ?_
   obtain ⟨o0,p0,h⟩:=ob h
   exact wa J 7 (eIo J rB p0 (eSt J [] oB false p0 (wa J 6 (eSub [] (ih348 ((setL' g0 i0 false),(w64 (i0+1))) h)))))
  refine wH J 10 K ?_
  obtain ⟨q0,s0,h⟩:=ob h
  refine wa J 2 (eIo J rR12 s0 (wa J 1 (eLd J oO12 s0 ?_)))
  obtain ⟨t0,u0,h⟩:=ob h
  exact wa J 2 (eIo J rB u0 (eSt J [] oB (q0.Kind != 0) u0 (wa J 6 (eSub [] (ih348 ((setL' g0 i0 (q0.Kind != 0)),(w64 (i0+1))) h)))))
 exact eSub [] (ih N (x1,0) h)
theorem z54_ct (N:Nat) (decls_:(List T0)) (label_:Int) (known_:(List T12)) (r:(List T12) × Bool) (h:z54 N decls_ label_ known_=some r) :
 Fn Tryz.prog 54 ⟨2,[.S 0,.I label_,.S 1],[(0,.sl rR0 decls_),(1,.sl rR12 known_)],[],3,.t [.inl (.sl 2),.inl (.b r.2)],[],[(2,.own rR12 r.1 true)]⟩:=by
 refine eFn func54 rfl (fun E F w=>?_)
 unfold z54 at h
 obtain ⟨x1,c,h⟩:=ob h
 refine wa J 11 (eCl (z108_ct N decls_ label_ known_ _ c) [] [(0,.sl 0),(1,.sl 1)] ?_)
 obtain ⟨K,h⟩|⟨K,h⟩:=oc h
 ·refine wH J 2 K ?_
  cases h
  exact wr J 6 func54 [(2,.nil)]
 refine wH J 2 K ?_
 obtain ⟨x2,d,h⟩:=ob h
 refine wa J 6 (eIx J oO0 d ?_)
 obtain ⟨x3,e,h⟩:=ob h
 refine wa J 14 (eCl (z109_ct N (x2.Fields.length:Int) _ e) [] [] ?_)
 obtain ⟨x4,f,h⟩:=ob h
 refine wa J 11 (eCl (z72_ct N x2 _ f) [] [(0,.sl 3),(1,.sl 4),(2,.sl 5)] (wa J 3 (eCut (σ:=Int × (List Int)) (fun st=>⟨[(2,.S 1),(8,.B 6 0),(9,.I (x2.Fields.length:Int)),(10,.B 8 0)],[(6,.box (cC0 3 4 5 x2) 75),(8,.box [.I st.1,.sl 10] 173)],((0,.sl rR0 decls_)::(1,.sl rR12 known_)::vV0 3 4 5 x2 [(10,.sl (rI .i64) st.2)]),11⟩) (fun st=>z54_k3 N known_ x2 st.1 st.2=some r) ?_ (fun j1=>?_))))
 ·rintro ⟨g,j⟩ h
  replace h:z54_k3 N known_ x2 g j=some r:=h
  unfold z54_k3 at h
  obtain ⟨k,l,h⟩:=ob h
  refine wa J 3 (eCl (z112_ct N (⟨g,j⟩:T17) _ l) [] [(0,.sl 10)] ?_)
  obtain ⟨K,h⟩|⟨K,h⟩:=oc h
  ·refine wH J 12 K ?_
   cases h
   exact wr J 6 func54 [(2,.nil)]
  refine wH J 12 K ?_
  obtain ⟨m,o,h⟩:=ob h
  refine wa J 5 (eMk J oO12 o (wa J 10 (eCut (σ:=(List T12)) (fun st=>⟨[(2,.S 1),(8,.B 6 0),(9,.I (x2.Fields.length:Int)),(20,.S 12)],[(6,.box (cC0 3 4 5 x2) 75),(12,.own rR12 st true)],((0,.sl rR0 decls_)::(1,.sl rR12 known_)::vV0 3 4 5 x2 []),13⟩) (fun st=>z54_k1 N known_ x2 st=some r) ?_ (fun j36=>?_))))
  ·intro p h
   replace h:z54_k1 N known_ x2 p=some r:=h
   unfold z54_k1 at h
   obtain ⟨q,s,h⟩:=ob h
   refine wa J 5 (eCb (z114_ct N x2 p known_ _ s) [] [(0,.sl 3),(1,.sl 4),(2,.sl 5),(3,.sl 12),(4,.sl 1)] [12] (.inr ⟨rfl,⟨(rM_flat (rP_flat (rI_flat _) (rP_flat (rI_flat _) rS_flat))),trivial⟩⟩) ?_)
   obtain ⟨u,v,h⟩:=ob h
   refine wa J 6 (eCl (z115_ct N x2 q _ v) [] [(0,.sl 3),(1,.sl 4),(2,.sl 5),(3,.sl 13)] ?_)
   obtain ⟨x,y,h⟩:=ob h
   refine wa J 11 (eVw J rR12 y ?_)
   obtain ⟨z,A,h⟩:=ob h
   refine eDp J rR12 y A ?_
   obtain ⟨D,G,h⟩:=ob h
   refine wa J 7 (eCb (z116_ct N x2.Guard u _ G) [] [(0,.sl 4),(1,.sl 5),(2,.sl 13)] [13] (.inr ⟨rfl,trivial⟩) ?_)
   obtain ⟨K,h⟩|⟨K,h⟩:=oc h
   ·refine wH J 2 K ?_
    cases h
    exact wr J 13 func54 [(2,.nil)]
   refine wH J 2 K ?_
   obtain ⟨H,R,h⟩:=ob h
   refine wa J 3 (eCb (z117_ct N x2.Fields z.1 _ R) [] [(0,.sl 3),(1,.sl 12)] [12] (.inr ⟨rfl,trivial⟩) ?_)
   obtain ⟨K,h⟩|⟨K,h⟩:=oc h
   ·refine wH J 3 K ?_
    cases h
    exact wr J 6 func54 [(2,.nil)]
   refine wH J 3 K ?_
   cases h
   exact wr J 8 func54 [(2,.sl 12)]
  refine wa J 1 (eLoop (σ:=(List T12) × Int) (fun st=>⟨[(2,.S 1),(8,.B 6 0),(9,.I (x2.Fields.length:Int)),(18,.S 11),(20,.S 12),(129,.S 3),(130,.I (x2.Fields.length:Int)),(131,.I st.2)],[(6,.box (cC0 3 4 5 x2) 75),(11,.own (rI .i64) k.1 true),(12,.own rR12 st.1 true)],((0,.sl rR0 decls_)::(1,.sl rR12 known_)::vV0 3 4 5 x2 []),13⟩) (fun n st=>z54_l2 N known_ x2 k n st.1 st.2) (r:=r) (fun _=>rfl) ?_ (fun ih=>?_))
  ·intro n9 ih38
   rintro ⟨T,U⟩ h
   replace h:z54_l2 N known_ x2 k (n9+1) T U=some r:=h
   unfold z54_l2 at h
   obtain ⟨K,h⟩|⟨K,h⟩:=oc' h
   ·exact wH J 5 K (wa J 2 (eSub [] (j36 T h)))
   refine wH J 5 K ?_
   obtain ⟨Z,a0,h⟩:=ob h
   refine wa J 7 (eIx J oO4 a0 ?_)
   obtain ⟨b0,c0,h⟩:=ob h
   refine wa J 14 (eIo J (rI .i64) c0 (eLd J (oI .i64) c0 ?_))
   obtain ⟨d0,e0,h⟩:=ob h
   refine wa J 1 (eIo J rR12 e0 (eSt J [] oO12 (⟨Z.Sort'.Kind,b0,(str [])⟩:T12) e0 (eEnd ?_)))
   obtain ⟨K,h⟩|⟨K,h⟩:=oc' h
   ·exact wH J 7 K (wa J 7 (eSub [] (ih38 ((setL' T U (⟨Z.Sort'.Kind,b0,(str [])⟩:T12)),(w64 (U+1))) h)))
   refine wH J 7 K ?_
   obtain ⟨f0,g0,h⟩:=ob h
   refine wa J 6 (eIo J (rI .i64) g0 (eLd J (oI .i64) g0 ?_))
   obtain ⟨i0,j0,h⟩:=ob h
   refine eCl (z113_ct N (str [97]) f0 _ j0) [] [] ?_
   obtain ⟨k0,l0,h⟩:=ob h
   exact wa J 1 (eIo J rR12 l0 (eSt J [] oO12 (⟨2,0,i0⟩:T12) l0 (wa J 6 (eSub [] (ih38 ((setL' (setL' T U (⟨Z.Sort'.Kind,b0,(str [])⟩:T12)) U (⟨2,0,i0⟩:T12)),(w64 (U+1))) h)))))
  exact eSub [] (ih N (m,0) h)
 refine wa J 1 (eLoop (σ:=Int × (List Int) × Int) (fun st=>⟨[(2,.S 1),(8,.B 6 0),(9,.I (x2.Fields.length:Int)),(10,.B 8 0),(42,.S 9),(43,.I (x4.length:Int)),(44,.I st.2.2)],[(6,.box (cC0 3 4 5 x2) 75),(8,.box [.I st.1,.sl 10] 173),(9,.own rR1 x4 true)],((0,.sl rR0 decls_)::(1,.sl rR12 known_)::vV0 3 4 5 x2 [(10,.sl (rI .i64) st.2.1)]),11⟩) (fun n st=>z54_l4 N known_ x2 x4 n st.1 st.2.1 st.2.2) (r:=r) (fun _=>rfl) ?_ (fun ih=>?_))
 ·intro n14 ih39
  rintro ⟨m0,o0,p0⟩ h
  replace h:z54_l4 N known_ x2 x4 (n14+1) m0 o0 p0=some r:=h
  unfold z54_l4 at h
  obtain ⟨K,h⟩|⟨K,h⟩:=oc' h
  ·exact wH J 5 K (wa J 2 (eSub [] (j1 (m0,o0) h)))
  refine wH J 5 K ?_
  obtain ⟨q0,s0,h⟩:=ob h
  refine wa J 6 (eIo J rR1 s0 (eLd J oO1 s0 (wa J 25 (eCut (σ:=Int × Int × Int) (fun st=>(zz27 x2 m0 x4 st.2.1 st.2.2 decls_ known_ o0 [(2,.S 1),(8,.B 6 0),(9,.I (x2.Fields.length:Int)),(10,.B 8 0),(14,.I st.1),(15,.B 13 0),(42,.S 9),(43,.I (x4.length:Int)),(44,.I p0)])) (fun st=>z54_k5 N m0 o0 p0 (z54_l4 N known_ x2 x4 n14) st.1 st.2.1 st.2.2=some r) ?_ (fun j62=>?_)))))
  ·rintro ⟨t0,u0,v0⟩ h
   replace h:z54_k5 N m0 o0 p0 (z54_l4 N known_ x2 x4 n14) t0 u0 v0=some r:=h
   unfold z54_k5 at h
   refine wa J 2 (eAb 0 rfl (wa J 1 (eAb 1 rfl ?_)))
   obtain ⟨x0,y0,h⟩:=ob h
   exact wa J 3 (eCl (z111_ct N (⟨m0,o0⟩:T17) (⟨u0,v0,t0⟩:T1) _ y0) [] [(0,.sl 10)] (wa J 10 (eSub [(10,.sl 14)] (ih39 (x0.1.N,x0.1.B,(w64 (p0+1))) h))))
  refine wa J 1 (eLoop (σ:=Int × Int × Int × Int) (fun st=>(zz27 x2 m0 x4 st.2.1 st.2.2.1 decls_ known_ o0 [(2,.S 1),(8,.B 6 0),(9,.I (x2.Fields.length:Int)),(10,.B 8 0),(14,.I st.1),(15,.B 13 0),(42,.S 9),(43,.I (x4.length:Int)),(44,.I p0),(55,.a [.I q0.X,.I q0.Y]),(56,.I st.2.2.2)])) (fun n st=>z54_l6 N known_ x2 m0 o0 p0 (z54_l4 N known_ x2 x4 n14) q0 n st.1 st.2.1 st.2.2.1 st.2.2.2) (r:=r) (fun _=>rfl) ?_ (fun ih=>?_))
  ·intro n16 ih68
   rintro ⟨z0,A0,B0,C0⟩ h
   replace h:z54_l6 N known_ x2 m0 o0 p0 (z54_l4 N known_ x2 x4 n14) q0 (n16+1) z0 A0 B0 C0=some r:=h
   unfold z54_l6 at h
   obtain ⟨K,h⟩|⟨K,h⟩:=oc' h
   ·exact wH J 5 K (wa J 2 (eSub [] (j62 (z0,A0,B0) h)))
   refine wH J 5 K ?_
   obtain ⟨D0,G0,h⟩:=ob h
   refine wa J 7 (eAx (SC.i .i64) ([q0.X,q0.Y]:List Int) G0 ?_)
   obtain ⟨K,h⟩|⟨K,h⟩:=oc h
   ·exact wH J 10 K (wa J 8 (eSub [] (ih68 (z0,A0,B0,(w64 (C0+1))) h)))
   refine wH J 10 K ?_
   refine wa J 8 (eCut (σ:=Bool) (fun st=>(zz27 x2 m0 x4 A0 B0 decls_ known_ o0 [(2,.S 1),(8,.B 6 0),(9,.I (x2.Fields.length:Int)),(10,.B 8 0),(14,.I z0),(15,.B 13 0),(16,.I C0),(17,.I D0),(42,.S 9),(43,.I (x4.length:Int)),(44,.I p0),(55,.a [.I q0.X,.I q0.Y]),(56,.I C0),(70,.O st)])) (fun st=>z54_k7 N known_ x2 z0 A0 B0 C0 (z54_l6 N known_ x2 m0 o0 p0 (z54_l4 N known_ x2 x4 n14) q0 n16) D0 st=some r) ?_ (fun j72=>?_))
   ·intro H0 h
    replace h:z54_k7 N known_ x2 z0 A0 B0 C0 (z54_l6 N known_ x2 m0 o0 p0 (z54_l4 N known_ x2 x4 n14) q0 n16) D0 H0=some r:=h
    unfold z54_k7 at h
    obtain ⟨K,h⟩|⟨K,h⟩:=oc h
    ·refine eK K ?_
     obtain ⟨K,h⟩|⟨K,h⟩:=oc h
     ·exact wa J 7 (eAb 0 (by exact eq_of_beq K) (wa J 8 (eSub [] (ih68 (z0,(w64 (D0-x2.First)),B0,(w64 (C0+1))) h))))
     obtain ⟨K,h⟩|⟨K,h⟩:=oc h
     ·exact wa J 7 (eAb 1 (by exact eq_of_beq K) (wa J 8 (eSub [] (ih68 (z0,A0,(w64 (D0-x2.First)),(w64 (C0+1))) h))))
     cases h
    refine eK K ?_
    obtain ⟨I0,L0,h⟩:=ob h
    refine wa J 5 (eIx J oO12 L0 ?_)
    obtain ⟨K,h⟩|⟨K,h⟩:=oc h
    ·refine wH J 5 K ?_
     cases h
     exact wr J 6 func54 [(2,.nil)]
    refine wH J 5 K ?_
    obtain ⟨K,h⟩|⟨K,h⟩:=oc h
    ·refine wH J 7 K ?_
     obtain ⟨M0,O0,h⟩:=ob h
     refine wa J 5 (eIx J oO12 O0 ?_)
     obtain ⟨R0,S0,h⟩:=ob h
     exact wa J 1 (eCl (z110_ct N M0 _ S0) [] [] (wa J 9 (eSub [] (ih68 ((w64 (z0-R0)),A0,B0,(w64 (C0+1))) h))))
    refine wH J 7 K ?_
    obtain ⟨T0,U0,h⟩:=ob h
    refine wa J 5 (eIx J oO12 U0 ?_)
    obtain ⟨V0,X0,h⟩:=ob h
    exact wa J 1 (eCl (z110_ct N T0 _ X0) [] [] (wa J 9 (eSub [] (ih68 ((w64 (z0+V0)),A0,B0,(w64 (C0+1))) h))))
   obtain ⟨K,h⟩|⟨K,h⟩:=oc h
   ·exact eK K (wa J 9 (eSub [] (j72 (decide (D0 < (w64 (x2.First+(x2.Fields.length:Int))))) h)))
   exact eK K (wa J 9 (eSub [] (j72 false h)))
  exact eSub [] (ih N (q0.C,(-1),(-1),0) h)
 exact eSub [(10,.sl 7)] (ih N (x3.1.N,x3.1.B,0) h)
theorem z20_ct (N:Nat) (g_:T5) (m_:T8) (s_:T16) (r:(List T3)) (h:z20 N g_ m_ s_=some r) :
 Fn Tryz.prog 20 ⟨9,[.a (cC5 0 1 2 3 g_),.a (cC8 4 5 6 m_),.a (cC16 7 8 s_)],((0,.sl rS g_.Roles)::(1,.sl rR0 g_.Decls)::(2,.sl rR2 g_.Edges)::(3,.sl rR11 g_.Timeouts)::(4,.sl rB m_.Finals)::(5,.sl rR9 m_.Moves)::(6,.sl rR11 m_.Timeouts)::vV16 7 8 s_ []),[],10,.S 9,[],[(9,.own rR3 r true)]⟩:=by
 refine eFn func20 rfl (fun E F w=>?_)
 unfold z20 at h
 obtain ⟨x1,c,h⟩:=ob h
 refine wa J 13 (eCl (z46_ct N g_ m_ s_ _ c) [] [(0,.sl 0),(1,.sl 1),(2,.sl 2),(3,.sl 3),(4,.sl 4),(5,.sl 5),(6,.sl 6),(7,.sl 7),(8,.sl 8)] ?_)
 obtain ⟨K,h⟩|⟨K,h⟩:=oc h
 ·refine wH J 2 K ?_
  cases h
  exact wr J 5 func20 [(9,.nil)]
 refine wH J 2 K ?_
 obtain ⟨x2,d,h⟩:=ob h
 refine wa J 12 (eCl (z53_ct N m_ s_.At _ d) [] [(0,.sl 4),(1,.sl 5),(2,.sl 6)] (wa J 3 (eCut (σ:=(List T3)) (fun st=>⟨[(7,.S 13)],[(13,.own rR3 st true)],((0,.sl rS g_.Roles)::(1,.sl rR0 g_.Decls)::(2,.sl rR2 g_.Edges)::(3,.sl rR11 g_.Timeouts)::(4,.sl rB m_.Finals)::(5,.sl rR9 m_.Moves)::(6,.sl rR11 m_.Timeouts)::vV16 7 8 s_ []),14⟩) (fun st=>z20_k1 st=some r) ?_ (fun j1=>?_))))
 ·intro e h
  replace h:z20_k1 e=some r:=h
  unfold z20_k1 at h
  cases h
  exact wr J 5 func20 [(9,.sl 13)]
 refine wa J 1 (eLoop (σ:=(List T3) × Int) (fun st=>⟨[(3,.B 9 0),(4,.B 10 0),(5,.B 11 0),(7,.S 13),(21,.S 12),(22,.I (x2.length:Int)),(23,.I st.2)],[(9,.box (cC5 0 1 2 3 g_) 27),(10,.box (cC8 4 5 6 m_) 31),(11,.box (cC16 7 8 s_) 48),(13,.own rR3 st.1 true)],((0,.sl rS g_.Roles)::(1,.sl rR0 g_.Decls)::(2,.sl rR2 g_.Edges)::(3,.sl rR11 g_.Timeouts)::(4,.sl rB m_.Finals)::(5,.sl rR9 m_.Moves)::(6,.sl rR11 m_.Timeouts)::vV16 7 8 s_ [(12,.sl (rI .i64) x2)]),14⟩) (fun n st=>z20_l2 N g_ m_ s_ x2 n st.1 st.2) (r:=r) (fun _=>rfl) ?_ (fun ih=>?_))
 ·intro n2 ih6
  rintro ⟨f,g⟩ h
  replace h:z20_l2 N g_ m_ s_ x2 (n2+1) f g=some r:=h
  unfold z20_l2 at h
  obtain ⟨K,h⟩|⟨K,h⟩:=oc' h
  ·exact wH J 5 K (wa J 2 (eSub [] (j1 f h)))
  refine wH J 5 K ?_
  obtain ⟨i,j,h⟩:=ob h
  refine wa J 6 (eIx J (oI .i64) j ?_)
  obtain ⟨k,l,h⟩:=ob h
  refine wa J 8 (eIx J oO9 l ?_)
  obtain ⟨m,o,h⟩:=ob h
  refine wa J 12 (eCl (z54_ct N g_.Decls k.Label s_.Known _ o) [] [(0,.sl 1),(1,.sl 7)] (wa J 12 (eCut (σ:=(List T12) × Bool) (fun st=>⟨[(3,.B 9 0),(4,.B 10 0),(5,.B 11 0),(7,.S 13),(10,.B 16 0),(11,.S 18),(12,.O st.2),(21,.S 12),(22,.I (x2.length:Int)),(23,.I g)],[(9,.box (cC5 0 1 2 3 g_) 27),(10,.box (cC8 4 5 6 m_) 31),(11,.box (cC16 7 8 s_) 48),(13,.own rR3 f true),(16,.box (cC9 k) 52),(18,.own rR12 st.1 true)],((0,.sl rS g_.Roles)::(1,.sl rR0 g_.Decls)::(2,.sl rR2 g_.Edges)::(3,.sl rR11 g_.Timeouts)::(4,.sl rB m_.Finals)::(5,.sl rR9 m_.Moves)::(6,.sl rR11 m_.Timeouts)::vV16 7 8 s_ [(12,.sl (rI .i64) x2)]),19⟩) (fun st=>z20_k3 m_ f g (z20_l2 N g_ m_ s_ x2 n2) k st.1 st.2=some r) ?_ (fun j9=>?_))))
  ·rintro ⟨p,q⟩ h
   replace h:z20_k3 m_ f g (z20_l2 N g_ m_ s_ x2 n2) k p q=some r:=h
   unfold z20_k3 at h
   obtain ⟨K,h⟩|⟨K,h⟩:=oc' h
   ·exact wH J 4 K (wa J 7 (eSub [] (ih6 (f,(w64 (g+1))) h)))
   refine wH J 4 K (wa J 13 (eBs J [18] oO3 ([(⟨m_.Role,k.Send,k.Peer,k.Label,p⟩:T3)]:List T3) ?_))
   obtain ⟨s,t,h⟩:=ob h
   exact eAp J rR3 t (wa J 7 (eSub [(13,.sl 20)] (ih6 (s,(w64 (g+1))) h)))
  obtain ⟨K,h⟩|⟨K,h⟩:=oc' h
  ·exact eK K (wa J 2 (eSub [(18,.sl 17)] (j9 (m.1,m.2) h)))
  refine eK K ?_
  obtain ⟨u,v,h⟩:=ob h
  refine wa J 4 (eCl (z55_ct N s_.Pending _ v) [] [(0,.sl 8)] ?_)
  obtain ⟨x,y,h⟩:=ob h
  exact wa J 8 (eCl (z56_ct N g_.Decls k.Label s_.Pending s_.Known _ y) [] [(0,.sl 1),(1,.sl 8),(2,.sl 7)] (wa J 2 (eEnd (eSub [] (j9 (u,x) h)))))
 exact eSub [(13,.nil)] (ih N (([]:List T3),0) h)
theorem z12_ct (N:Nat) (a_:(List ByteArray)) (b_:(List ByteArray)) (r:Bool) (h:z12 N a_ b_=some r) :
 Fn Tryz.prog 12 ⟨2,[.S 0,.S 1],[(0,.sl rS a_),(1,.sl rS b_)],[],2,.O r,[],[]⟩:=by
 refine eFn func12 rfl (fun E F w=>?_)
 unfold z12 at h
 obtain ⟨K,h⟩|⟨K,h⟩:=oc h
 ·refine wH J 13 K ?_
  cases h
  exact wr J 5 func12 []
 refine wH J 13 K (wa J 7 (eCut (σ:=Unit) (fun st=>⟨[],[],[(0,.sl rS a_),(1,.sl rS b_)],2⟩) (fun st=>z12_k1=some r) ?_ (fun j1=>?_)))
 ·intro _ h
  replace h:z12_k1=some r:=h
  unfold z12_k1 at h
  cases h
  exact wr J 4 func12 []
 refine wa J 1 (eLoop (σ:=Int) (fun st=>⟨[(0,.S 0),(1,.S 1),(5,.I st)],[],[(0,.sl rS a_),(1,.sl rS b_)],2⟩) (fun n st=>z12_l2 a_ b_ n st) (r:=r) (fun _=>rfl) ?_ (fun ih=>?_))
 ·intro n2 ih3
  intro c h
  replace h:z12_l2 a_ b_ (n2+1) c=some r:=h
  unfold z12_l2 at h
  obtain ⟨K,h⟩|⟨K,h⟩:=oc' h
  ·exact wH J 8 K (wa J 2 (eSub [] (j1 () h)))
  refine wH J 8 K ?_
  obtain ⟨d,e,h⟩:=ob h
  refine wa J 8 (eIx J oS e ?_)
  obtain ⟨f,g,h⟩:=ob h
  refine wa J 3 (eIx J oS g (wa J 2 (eEnd ?_)))
  obtain ⟨K,h⟩|⟨K,h⟩:=oc h
  ·refine eK K ?_
   cases h
   exact wr J 5 func12 []
  exact eK K (wa J 8 (eSub [] (ih3 (w64 (c+1)) h)))
 exact eSub [] (ih N 0 h)
theorem z26_ct (N:Nat) (n_:Int) (r:T12) (h:z26 N n_=some r) :
 Fn Tryz.prog 26 ⟨0,[.I n_],[],[],0,.a (cC12 r),[],[]⟩:=by
 refine eFn func26 rfl (fun E F w=>?_)
 unfold z26 at h
 cases h
 exact wr J 10 func26 []
theorem z25_ct (N:Nat) (a_:(List T12)) (b_:(List T12)) (r:Bool) (h:z25 N a_ b_=some r) :
 Fn Tryz.prog 25 ⟨2,[.S 0,.S 1],[(0,.sl rR12 a_),(1,.sl rR12 b_)],[],2,.O r,[],[]⟩:=by
 refine eFn func25 rfl (fun E F w=>?_)
 unfold z25 at h
 obtain ⟨K,h⟩|⟨K,h⟩:=oc h
 ·refine wH J 13 K ?_
  cases h
  exact wr J 5 func25 []
 refine wH J 13 K (wa J 7 (eCut (σ:=Unit) (fun st=>(zz11 a_ b_ [])) (fun st=>z25_k1=some r) ?_ (fun j1=>?_)))
 ·intro _ h
  replace h:z25_k1=some r:=h
  unfold z25_k1 at h
  cases h
  exact wr J 4 func25 []
 refine wa J 1 (eLoop (σ:=Int) (fun st=>(zz11 a_ b_ [(0,.S 0),(1,.S 1),(5,.I st)])) (fun n st=>z25_l2 a_ b_ n st) (r:=r) (fun _=>rfl) ?_ (fun ih=>?_))
 ·intro n2 ih3
  intro c h
  replace h:z25_l2 a_ b_ (n2+1) c=some r:=h
  unfold z25_l2 at h
  obtain ⟨K,h⟩|⟨K,h⟩:=oc' h
  ·exact wH J 8 K (wa J 2 (eSub [] (j1 () h)))
  refine wH J 8 K ?_
  obtain ⟨d,e,h⟩:=ob h
  refine wa J 8 (eIx J oO12 e ?_)
  obtain ⟨f,g,h⟩:=ob h
  refine wa J 3 (eIx J oO12 g (wa J 1 (eEq (eEnd ?_))))
  obtain ⟨K,h⟩|⟨K,h⟩:=oc h
  ·refine eK K ?_
   cases h
   exact wr J 5 func25 []
  exact eK K (wa J 8 (eSub [] (ih3 (w64 (c+1)) h)))
 exact eSub [] (ih N 0 h)
theorem z8_ct (N:Nat) (r:Bool) (h:z8 N=some r) :
 Fn Tryz.prog 8 ⟨1,[],[],[(0,.abs powT)],1,.O r,[],[(0,.abs powT)]⟩:=by
 refine eFn func8 rfl (fun E F w=>?_)
 unfold z8 at h
 refine wa J 13 (eBs J [] oS ([(str [97]),(str [98])]:List ByteArray) (wa J 1 (eBs J [] oO4 ([(⟨(str [110]),(⟨1,0,9⟩:T10)⟩:T4)]:List T4) (wa J 1 (eBs J [3] oO0 ([(⟨(str [97,115,107]),([(⟨(str [110]),(⟨1,0,9⟩:T10)⟩:T4)]:List T4),0,(⟨([]:List T1),([]:List (Int × Int))⟩:T6)⟩:T0)]:List T0) (wa J 2 (eBs J [] oO2 ([(⟨0,(⟨0,1,0⟩:T7),1,false⟩:T2)]:List T2) (wa J 6 (eBs J [] oB ([false,true]:List Bool) (wa J 1 (eBs J [] oO9 ([(⟨0,true,1,0,1,false⟩:T9)]:List T9) ?_)))))))))))
 obtain ⟨x1,c,h⟩:=ob h
 refine wa J 8 (eCl (z10_ct N (⟨(str [80]),([(str [97]),(str [98])]:List ByteArray),([(⟨(str [97,115,107]),([(⟨(str [110]),(⟨1,0,9⟩:T10)⟩:T4)]:List T4),0,(⟨([]:List T1),([]:List (Int × Int))⟩:T6)⟩:T0)]:List T0),2,0,1,([(⟨0,(⟨0,1,0⟩:T7),1,false⟩:T2)]:List T2),([]:List T11)⟩:T5) (⟨0,2,0,([false,true]:List Bool),([(⟨0,true,1,0,1,false⟩:T9)]:List T9),([]:List T11)⟩:T8) 0 _ c) [2,4,5,7,8] [(0,.sl 2),(1,.sl 4),(2,.sl 5),(3,.nil),(4,.sl 7),(5,.sl 8),(6,.nil),(7,.sl 0)] ?_)
 obtain ⟨x2,d,h⟩:=ob h
 refine wa J 11 (eCl (z15_ct N (⟨(str [80]),([(str [97]),(str [98])]:List ByteArray),([(⟨(str [97,115,107]),([(⟨(str [110]),(⟨1,0,9⟩:T10)⟩:T4)]:List T4),0,(⟨([]:List T1),([]:List (Int × Int))⟩:T6)⟩:T0)]:List T0),2,0,1,([(⟨0,(⟨0,1,0⟩:T7),1,false⟩:T2)]:List T2),([]:List T11)⟩:T5) (⟨0,2,0,([false,true]:List Bool),([(⟨0,true,1,0,1,false⟩:T9)]:List T9),([]:List T11)⟩:T8) ([]:List T3) (⟨0,true,1,0,([]:List T12)⟩:T3) _ d) [] [(0,.sl 2),(1,.sl 4),(2,.sl 5),(3,.nil),(4,.sl 7),(5,.sl 8),(6,.nil),(7,.nil),(8,.nil),(9,.sl 0)] ?_)
 obtain ⟨x3,e,h⟩:=ob h
 refine wa J 12 (eCl (z24_ct N (⟨(str [80]),([(str [97]),(str [98])]:List ByteArray),([(⟨(str [97,115,107]),([(⟨(str [110]),(⟨1,0,9⟩:T10)⟩:T4)]:List T4),0,(⟨([]:List T1),([]:List (Int × Int))⟩:T6)⟩:T0)]:List T0),2,0,1,([(⟨0,(⟨0,1,0⟩:T7),1,false⟩:T2)]:List T2),([]:List T11)⟩:T5) (⟨0,2,0,([false,true]:List Bool),([(⟨0,true,1,0,1,false⟩:T9)]:List T9),([]:List T11)⟩:T8) _ e) [] [(0,.sl 2),(1,.sl 4),(2,.sl 5),(3,.nil),(4,.sl 7),(5,.sl 8),(6,.nil)] ?_)
 obtain ⟨x4,f,h⟩:=ob h
 refine eCl (z20_ct N (⟨(str [80]),([(str [97]),(str [98])]:List ByteArray),([(⟨(str [97,115,107]),([(⟨(str [110]),(⟨1,0,9⟩:T10)⟩:T4)]:List T4),0,(⟨([]:List T1),([]:List (Int × Int))⟩:T6)⟩:T0)]:List T0),2,0,1,([(⟨0,(⟨0,1,0⟩:T7),1,false⟩:T2)]:List T2),([]:List T11)⟩:T5) (⟨0,2,0,([false,true]:List Bool),([(⟨0,true,1,0,1,false⟩:T9)]:List T9),([]:List T11)⟩:T8) x3 _ f) [] [(0,.sl 2),(1,.sl 4),(2,.sl 5),(3,.nil),(4,.sl 7),(5,.sl 8),(6,.nil),(7,.sl 11),(8,.sl 12)] (wa J 1 (eEnd ?_))
 obtain ⟨K,h⟩|⟨K,h⟩:=oc' h
 ·refine wH J 5 K (wa J 27 (eEnd ?_))
  cases h
  exact eRet J func8 []
 refine wH J 5 K ?_
 obtain ⟨K,h⟩|⟨K,h⟩:=oc' h
 ·refine wH J 4 K (wa J 23 (eEnd ?_))
  cases h
  exact eRet J func8 []
 refine wH J 4 K (wa J 1 (eBs J [] oS ([(str [115,101,110,100,32,97,115,107,40,110,58,32,105,110,116,32,48,32,46,46,32,57,41,32,116,111,32,98])]:List ByteArray) ?_))
 obtain ⟨x5,g,h⟩:=ob h
 refine eCb (z12_ct N x1.1 ([(str [115,101,110,100,32,97,115,107,40,110,58,32,105,110,116,32,48,32,46,46,32,57,41,32,116,111,32,98])]:List ByteArray) _ g) [] [(0,.sl 10),(1,.sl 14)] [10,14] (.inr ⟨rfl,trivial⟩) ?_
 obtain ⟨K,h⟩|⟨K,h⟩:=oc' h
 ·refine wH J 2 K (wa J 18 (eEnd ?_))
  cases h
  exact eRet J func8 []
 refine wH J 2 K ?_
 obtain ⟨K,h⟩|⟨K,h⟩:=oc' h
 ·refine wH J 4 K (wa J 14 (eEnd ?_))
  cases h
  exact eRet J func8 []
 refine wH J 4 K ?_
 obtain ⟨K,h⟩|⟨K,h⟩:=oc' h
 ·refine wH J 5 K (wa J 9 (eEnd ?_))
  cases h
  exact eRet J func8 []
 refine wH J 5 K ?_
 obtain ⟨x6,i,h⟩:=ob h
 refine wa J 1 (eIo J rR3 i (wa J 1 (eLd J oO3 i ?_)))
 obtain ⟨x7,j,h⟩:=ob h
 refine eCl (z26_ct N 0 _ j) [] [] (eBs J [] oO12 ([x7]:List T12) ?_)
 obtain ⟨x8,k,h⟩:=ob h
 refine eCb (z25_ct N x6.Values ([x7]:List T12) _ k) [] [(0,.sl 16),(1,.sl 17)] [17] (.inr ⟨rfl,trivial⟩) (wa J 2 (eEnd ?_))
 cases h
 exact eRet J func8 []
theorem z62_ct (N:Nat) (l_:(List T0)) (r:Bool) (h:z62 N l_=some r) :
 Fn Tryz.prog 62 ⟨1,[.S 0],[(0,.sl rR0 l_)],[],1,.O r,[],[]⟩:=by
 refine eFn func62 rfl (fun E F w=>?_)
 unfold z62 at h
 refine wa J 13 (eCut (σ:=Int) (fun st=>(zz4 l_ [(0,.S 0),(3,.I st)])) (fun st=>z62_k1 l_ st=some r) ?_ (fun j1=>?_))
 ·intro c h
  replace h:z62_k1 l_ c=some r:=h
  unfold z62_k1 at h
  obtain ⟨K,h⟩|⟨K,h⟩:=oc h
  ·refine wH J 6 K ?_
   cases h
   exact wr J 5 func62 []
  refine wH J 6 K ?_
  cases h
  exact wr J 5 func62 []
 refine wa J 1 (eLoop (σ:=Int × Int) (fun st=>(zz4 l_ [(0,.S 0),(3,.I st.1),(4,.I st.2)])) (fun n st=>z62_l2 l_ n st.1 st.2) (r:=r) (fun _=>rfl) ?_ (fun ih=>?_))
 ·intro n2 ih3
  rintro ⟨d,e⟩ h
  replace h:z62_l2 l_ (n2+1) d e=some r:=h
  unfold z62_l2 at h
  obtain ⟨K,h⟩|⟨K,h⟩:=oc' h
  ·exact wH J 8 K (wa J 2 (eSub [] (j1 d h)))
  refine wH J 8 K ?_
  obtain ⟨f,g,h⟩:=ob h
  refine wa J 8 (eIx J oO0 g ?_)
  obtain ⟨i,j,h⟩:=ob h
  refine wa J 5 (eIx J oO0 j ?_)
  obtain ⟨k,l,h⟩:=ob h
  exact wa J 7 (eIx J oO0 l (wa J 7 (eEnd (wa J 6 (eSub [] (ih3 ((w64 (d+(w64 ((w64 ((f.Fields.length:Int)+(i.Guard.Diffs.length:Int)))+(k.Guard.Equals.length:Int))))),(w64 (e+1))) h))))))
 exact eSub [] (ih N (0,0) h)
theorem z27_ct (N:Nat) (g_:T5) (r:Bool) (h:z27 N g_=some r) :
 Fn Tryz.prog 27 ⟨4,[.a (cC5 0 1 2 3 g_)],(vV5 0 1 2 3 g_ []),[],4,.O r,[],[]⟩:=by
 refine eFn func27 rfl (fun E F w=>?_)
 unfold z27 at h
 obtain ⟨K,h⟩|⟨K,h⟩:=oc' h
 ·refine wH J 11 K ?_
  cases h
  exact wr J 24 func27 []
 refine wH J 11 K ?_
 obtain ⟨K,h⟩|⟨K,h⟩:=oc' h
 ·refine wH J 6 K ?_
  cases h
  exact wr J 18 func27 []
 refine wH J 6 K ?_
 obtain ⟨K,h⟩|⟨K,h⟩:=oc' h
 ·refine wH J 6 K ?_
  cases h
  exact wr J 12 func27 []
 refine wH J 6 K ?_
 obtain ⟨K,h⟩|⟨K,h⟩:=oc' h
 ·refine wH J 6 K ?_
  cases h
  exact wr J 6 func27 []
 refine wH J 6 K ?_
 obtain ⟨x1,c,h⟩:=ob h
 refine wa J 2 (eCl (z62_ct N g_.Decls _ c) [] [(0,.sl 1)] ?_)
 cases h
 exact wr J 3 func27 []
theorem z28_ct (N:Nat) (m_:T8) (r:Bool) (h:z28 N m_=some r) :
 Fn Tryz.prog 28 ⟨3,[.a (cC8 0 1 2 m_)],(vV8 0 1 2 m_ []),[],3,.O r,[],[]⟩:=by
 refine eFn func28 rfl (fun E F w=>?_)
 unfold z28 at h
 obtain ⟨K,h⟩|⟨K,h⟩:=oc' h
 ·refine wH J 11 K ?_
  cases h
  exact wr J 19 func28 []
 refine wH J 11 K ?_
 obtain ⟨K,h⟩|⟨K,h⟩:=oc' h
 ·refine wH J 6 K ?_
  cases h
  exact wr J 13 func28 []
 refine wH J 6 K ?_
 obtain ⟨K,h⟩|⟨K,h⟩:=oc h
 ·refine wH J 6 K ?_
  cases h
  exact wr J 7 func28 []
 refine wH J 6 K ?_
 cases h
 exact wr J 7 func28 []
theorem z63_ct (N:Nat) (l_:(List T12)) (r:Bool) (h:z63 N l_=some r) :
 Fn Tryz.prog 63 ⟨1,[.S 0],[(0,.sl rR12 l_)],[],1,.O r,[],[]⟩:=by
 refine eFn func63 rfl (fun E F w=>?_)
 unfold z63 at h
 refine wa J 9 (eCut (σ:=Unit) (fun st=>⟨[(0,.S 0)],[],[(0,.sl rR12 l_)],1⟩) (fun st=>z63_k1 l_=some r) ?_ (fun j1=>?_))
 ·intro _ h
  replace h:z63_k1 l_=some r:=h
  unfold z63_k1 at h
  cases h
  exact wr J 7 func63 []
 refine wa J 1 (eLoop (σ:=Int) (fun st=>⟨[(0,.S 0),(3,.I st)],[],[(0,.sl rR12 l_)],1⟩) (fun n st=>z63_l2 l_ n st) (r:=r) (fun _=>rfl) ?_ (fun ih=>?_))
 ·intro n2 ih3
  intro c h
  replace h:z63_l2 l_ (n2+1) c=some r:=h
  unfold z63_l2 at h
  obtain ⟨K,h⟩|⟨K,h⟩:=oc' h
  ·exact wH J 8 K (wa J 2 (eSub [] (j1 () h)))
  refine wH J 8 K ?_
  obtain ⟨x9,d,h⟩:=ob h
  refine wa J 8 (eIx J oO12 d ?_)
  obtain ⟨K,h⟩|⟨K,h⟩:=oc h
  ·refine wH J 5 K ?_
   cases h
   exact wr J 5 func63 []
  exact wH J 5 K (wa J 8 (eSub [] (ih3 (w64 (c+1)) h)))
 exact eSub [] (ih N 0 h)
theorem z29_ct (N:Nat) (l_:(List T3)) (r:Bool) (h:z29 N l_=some r) :
 Fn Tryz.prog 29 ⟨1,[.S 0],[(0,.sl rR3 l_)],[],1,.O r,[],[]⟩:=by
 refine eFn func29 rfl (fun E F w=>?_)
 unfold z29 at h
 refine wa J 9 (eCut (σ:=Unit) (fun st=>⟨[(0,.S 0)],[],[(0,.sl rR3 l_)],1⟩) (fun st=>z29_k1 l_=some r) ?_ (fun j1=>?_))
 ·intro _ h
  replace h:z29_k1 l_=some r:=h
  unfold z29_k1 at h
  cases h
  exact wr J 7 func29 []
 refine wa J 1 (eLoop (σ:=Int) (fun st=>⟨[(0,.S 0),(3,.I st)],[],[(0,.sl rR3 l_)],1⟩) (fun n st=>z29_l2 N l_ n st) (r:=r) (fun _=>rfl) ?_ (fun ih=>?_))
 ·intro n2 ih3
  intro c h
  replace h:z29_l2 N l_ (n2+1) c=some r:=h
  unfold z29_l2 at h
  obtain ⟨K,h⟩|⟨K,h⟩:=oc' h
  ·exact wH J 8 K (wa J 2 (eSub [] (j1 () h)))
  refine wH J 8 K ?_
  obtain ⟨d,e,h⟩:=ob h
  refine wa J 8 (eIx J oO3 e ?_)
  obtain ⟨f,g,h⟩:=ob h
  refine wa J 2 (eCl (z63_ct N d.Values _ g) [] [(0,.sl 2)] ?_)
  obtain ⟨K,h⟩|⟨K,h⟩:=oc h
  ·refine wH J 2 K ?_
   cases h
   exact wr J 5 func29 []
  exact wH J 2 K (wa J 8 (eSub [] (ih3 (w64 (c+1)) h)))
 exact eSub [] (ih N 0 h)
theorem z9_ct (N:Nat) (g_:T5) (m_:T8) (l_:(List T3)) (r:Bool) (h:z9 N g_ m_ l_=some r) :
 Fn Tryz.prog 9 ⟨8,[.a (cC5 0 1 2 3 g_),.a (cC8 4 5 6 m_),.S 7],((0,.sl rS g_.Roles)::(1,.sl rR0 g_.Decls)::(2,.sl rR2 g_.Edges)::(3,.sl rR11 g_.Timeouts)::vV8 4 5 6 m_ [(7,.sl rR3 l_)]),[],8,.O r,[],[]⟩:=by
 refine eFn func9 rfl (fun E F w=>?_)
 unfold z9 at h
 obtain ⟨x1,c,h⟩:=ob h
 refine wa J 9 (eCl (z27_ct N g_ _ c) [] [(0,.sl 0),(1,.sl 1),(2,.sl 2),(3,.sl 3)] ?_)
 obtain ⟨K,h⟩|⟨K,h⟩:=oc' h
 ·refine wH J 1 K ?_
  cases h
  exact wr J 9 func9 []
 refine wH J 1 K ?_
 obtain ⟨x2,d,h⟩:=ob h
 refine wa J 1 (eCl (z28_ct N m_ _ d) [] [(0,.sl 4),(1,.sl 5),(2,.sl 6)] ?_)
 obtain ⟨K,h⟩|⟨K,h⟩:=oc' h
 ·refine wH J 2 K ?_
  cases h
  exact wr J 5 func9 []
 refine wH J 2 K ?_
 obtain ⟨x3,e,h⟩:=ob h
 refine wa J 1 (eCl (z29_ct N l_ _ e) [] [(0,.sl 7)] ?_)
 cases h
 exact wr J 3 func9 []
theorem z225_ct (N:Nat) (c_:Int) (r:Bool) (h:z225 N c_=some r) :
 Fn Tryz.prog 225 ⟨0,[.c (.i .u8 c_)],[],[],0,.O r,[],[]⟩:=by
 refine eFn func225 rfl (fun E F w=>?_)
 unfold z225 at h
 obtain ⟨K,h⟩|⟨K,h⟩:=oc' h
 ·refine wH J 9 K ?_
  obtain ⟨K,h⟩|⟨K,h⟩:=oc h
  ·refine wH J 7 K ?_
   cases h
   exact wr J 6 func225 []
  refine wH J 7 K ?_
  cases h
  exact wr J 6 func225 []
 refine wH J 9 K ?_
 obtain ⟨K,h⟩|⟨K,h⟩:=oc h
 ·refine wH J 4 K ?_
  cases h
  exact wr J 9 func225 []
 refine wH J 4 K ?_
 obtain ⟨K,h⟩|⟨K,h⟩:=oc h
 ·refine wH J 3 K ?_
  cases h
  exact wr J 6 func225 []
 refine wH J 3 K ?_
 cases h
 exact wr J 6 func225 []
theorem z265_ct (N:Nat) (c_:Int) (r:Bool) (h:z265 N c_=some r) :
 Fn Tryz.prog 265 ⟨0,[.c (.i .u8 c_)],[],[],0,.O r,[],[]⟩:=by
 refine eFn func265 rfl (fun E F w=>?_)
 unfold z265 at h
 obtain ⟨K,h⟩|⟨K,h⟩:=oc h
 ·refine wH J 9 K ?_
  cases h
  exact wr J 5 func265 []
 refine wH J 9 K ?_
 cases h
 exact wr J 5 func265 []
theorem z226_ct (N:Nat) (c_:Int) (r:Bool) (h:z226 N c_=some r) :
 Fn Tryz.prog 226 ⟨0,[.c (.i .u8 c_)],[],[],0,.O r,[],[]⟩:=by
 refine eFn func226 rfl (fun E F w=>?_)
 unfold z226 at h
 obtain ⟨x1,d,h⟩:=ob h
 refine wa J 7 (eCl (z225_ct N c_ _ d) [] [] ?_)
 obtain ⟨K,h⟩|⟨K,h⟩:=oc h
 ·refine wH J 1 K ?_
  cases h
  exact wr J 9 func226 []
 refine wH J 1 K ?_
 obtain ⟨x2,e,h⟩:=ob h
 refine wa J 1 (eCl (z265_ct N c_ _ e) [] [] ?_)
 obtain ⟨K,h⟩|⟨K,h⟩:=oc h
 ·refine wH J 2 K ?_
  cases h
  exact wr J 5 func226 []
 refine wH J 2 K ?_
 cases h
 exact wr J 5 func226 []
theorem z155_ct (N:Nat) (s_:ByteArray) (r:Bool) (h:z155 N s_=some r) :
 Fn Tryz.prog 155 ⟨0,[.c (.s s_)],[],[],0,.O r,[],[]⟩:=by
 refine eFn func155 rfl (fun E F w=>?_)
 unfold z155 at h
 obtain ⟨K,h⟩|⟨K,h⟩:=oc h
 ·refine wH J 10 K ?_
  cases h
  exact wr J 16 func155 []
 refine wH J 10 K ?_
 obtain ⟨x1,d,h⟩:=ob h
 refine wa J 1 (eSx J d ?_)
 obtain ⟨x2,e,h⟩:=ob h
 refine eCl (z225_ct N x1 _ e) [] [] ?_
 obtain ⟨K,h⟩|⟨K,h⟩:=oc h
 ·refine wH J 3 K ?_
  cases h
  exact wr J 10 func155 []
 refine wH J 3 K ?_
 obtain ⟨K,h⟩|⟨K,h⟩:=oc h
 ·refine wH J 5 K ?_
  cases h
  exact wr J 5 func155 []
 refine wH J 5 K (wa J 7 (eCut (σ:=Unit) (fun st=>(zz1 [])) (fun st=>z155_k1=some r) ?_ (fun j1=>?_)))
 ·intro _ h
  replace h:z155_k1=some r:=h
  unfold z155_k1 at h
  cases h
  exact wr J 4 func155 []
 refine wa J 1 (eLoop (σ:=Int) (fun st=>(zz1 [(0,.c (.s s_)),(3,.I st)])) (fun n st=>z155_l2 N s_ n st) (r:=r) (fun _=>rfl) ?_ (fun ih=>?_))
 ·intro n2 ih3
  intro f h
  replace h:z155_l2 N s_ (n2+1) f=some r:=h
  unfold z155_l2 at h
  obtain ⟨K,h⟩|⟨K,h⟩:=oc' h
  ·exact wH J 8 K (wa J 2 (eSub [] (j1 () h)))
  refine wH J 8 K ?_
  obtain ⟨g,i,h⟩:=ob h
  refine wa J 8 (eSx J i ?_)
  obtain ⟨j,k,h⟩:=ob h
  refine eCl (z226_ct N g _ k) [] [] ?_
  obtain ⟨K,h⟩|⟨K,h⟩:=oc h
  ·refine wH J 2 K ?_
   cases h
   exact wr J 5 func155 []
  exact wH J 2 K (wa J 8 (eSub [] (ih3 (w64 (f+1)) h)))
 exact eSub [] (ih N 0 h)
theorem z157_ct (N:Nat) (r:(List ByteArray)) (h:z157 N=some r) :
 Fn Tryz.prog 157 ⟨0,[],[],[],1,.S 0,[],[(0,.own rS r true)]⟩:=by
 refine eFn func157 rfl (fun E F w=>?_)
 unfold z157 at h
 refine wa J 6 (eBs J [] oS ([(str [97,103,97,105,110]),(str [97,110,100]),(str [97,115]),(str [97,116]),(str [99,97,108,108]),(str [99,104,111,105,99,101]),(str [101,108,115,101]),(str [102,114,111,109]),(str [105,102]),(str [105,110,116]),(str [108,101,110]),(str [108,111,111,112]),(str [109,101,115,115,97,103,101]),(str [111,102]),(str [111,102,102,101,114]),(str [111,110]),(str [111,114]),(str [112,97,114]),(str [112,108,97,121,115]),(str [112,114,111,116,111,99,111,108]),(str [115,101,114,118,105,99,101]),(str [116,101,120,116]),(str [116,105,109,101,115]),(str [116,111]),(str [118,97,114]),(str [119,104,101,114,101]),(str [119,104,105,108,101]),(str [119,105,116,104,105,110])]:List ByteArray) ?_)
 cases h
 exact wr J 2 func157 [(0,.sl 0)]
theorem z156_ct (N:Nat) (l_:(List ByteArray)) (s_:ByteArray) (r:Bool) (h:z156 N l_ s_=some r) :
 Fn Tryz.prog 156 ⟨1,[.S 0,.c (.s s_)],[(0,.sl rS l_)],[],1,.O r,[],[]⟩:=by
 refine eFn func156 rfl (fun E F w=>?_)
 unfold z156 at h
 refine wa J 9 (eCut (σ:=Unit) (fun st=>(zz3 l_ [])) (fun st=>z156_k1=some r) ?_ (fun j1=>?_))
 ·intro _ h
  replace h:z156_k1=some r:=h
  unfold z156_k1 at h
  cases h
  exact wr J 4 func156 []
 refine wa J 1 (eLoop (σ:=Int) (fun st=>(zz3 l_ [(0,.S 0),(1,.c (.s s_)),(5,.I st)])) (fun n st=>z156_l2 l_ s_ n st) (r:=r) (fun _=>rfl) ?_ (fun ih=>?_))
 ·intro n2 ih3
  intro d h
  replace h:z156_l2 l_ s_ (n2+1) d=some r:=h
  unfold z156_l2 at h
  obtain ⟨K,h⟩|⟨K,h⟩:=oc' h
  ·exact wH J 8 K (wa J 2 (eSub [] (j1 () h)))
  refine wH J 8 K ?_
  obtain ⟨x9,e,h⟩:=ob h
  refine wa J 8 (eIx J oS e ?_)
  obtain ⟨K,h⟩|⟨K,h⟩:=oc h
  ·refine wH J 4 K ?_
   cases h
   exact wr J 5 func156 []
  exact wH J 4 K (wa J 8 (eSub [] (ih3 (w64 (d+1)) h)))
 exact eSub [] (ih N 0 h)
theorem z80_ct (N:Nat) (s_:ByteArray) (r:Bool) (h:z80 N s_=some r) :
 Fn Tryz.prog 80 ⟨0,[.c (.s s_)],[],[],0,.O r,[],[]⟩:=by
 refine eFn func80 rfl (fun E F w=>?_)
 unfold z80 at h
 obtain ⟨x1,d,h⟩:=ob h
 refine wa J 7 (eCl (z155_ct N s_ _ d) [] [] ?_)
 obtain ⟨K,h⟩|⟨K,h⟩:=oc' h
 ·refine wH J 1 K ?_
  cases h
  exact wr J 7 func80 []
 refine wH J 1 K ?_
 obtain ⟨x2,e,h⟩:=ob h
 refine eCl (z157_ct N _ e) [] [] ?_
 obtain ⟨x3,f,h⟩:=ob h
 refine wa J 1 (eCb (z156_ct N x2 s_ _ f) [] [(0,.sl 0)] [0] (.inr ⟨rfl,trivial⟩) ?_)
 cases h
 exact wr J 4 func80 []
theorem z235_ct (N:Nat) (l_:(List ByteArray)) (s_:ByteArray) (r:Int) (h:z235 N l_ s_=some r) :
 Fn Tryz.prog 235 ⟨1,[.S 0,.c (.s s_)],[(0,.sl rS l_)],[],1,.I r,[],[]⟩:=by
 refine eFn func235 rfl (fun E F w=>?_)
 unfold z235 at h
 refine wa J 9 (eCut (σ:=Unit) (fun st=>(zz3 l_ [])) (fun st=>z235_k1=some r) ?_ (fun j1=>?_))
 ·intro _ h
  replace h:z235_k1=some r:=h
  unfold z235_k1 at h
  cases h
  exact wr J 4 func235 []
 refine wa J 1 (eLoop (σ:=Int) (fun st=>(zz3 l_ [(0,.S 0),(1,.c (.s s_)),(5,.I st)])) (fun n st=>z235_l2 l_ s_ n st) (r:=r) (fun _=>rfl) ?_ (fun ih=>?_))
 ·intro n2 ih3
  intro d h
  replace h:z235_l2 l_ s_ (n2+1) d=some r:=h
  unfold z235_l2 at h
  obtain ⟨K,h⟩|⟨K,h⟩:=oc' h
  ·exact wH J 8 K (wa J 2 (eSub [] (j1 () h)))
  refine wH J 8 K ?_
  obtain ⟨x9,e,h⟩:=ob h
  refine wa J 8 (eIx J oS e ?_)
  obtain ⟨K,h⟩|⟨K,h⟩:=oc h
  ·refine wH J 4 K ?_
   cases h
   exact wr J 6 func235 []
  exact wH J 4 K (wa J 8 (eSub [] (ih3 (w64 (d+1)) h)))
 exact eSub [] (ih N 0 h)
theorem z78_ct (N:Nat) (decls_:(List T0)) (r:Int) (h:z78 N decls_=some r) :
 Fn Tryz.prog 78 ⟨1,[.S 0],[(0,.sl rR0 decls_)],[],1,.I r,[],[]⟩:=by
 refine eFn func78 rfl (fun E F w=>?_)
 unfold z78 at h
 refine wa J 13 (eCut (σ:=Int) (fun st=>(zz4 decls_ [(3,.I st)])) (fun st=>z78_k1 st=some r) ?_ (fun j1=>?_))
 ·intro c h
  replace h:z78_k1 c=some r:=h
  unfold z78_k1 at h
  cases h
  exact wr J 5 func78 []
 refine wa J 1 (eLoop (σ:=Int × Int) (fun st=>(zz4 decls_ [(0,.S 0),(3,.I st.1),(4,.I st.2)])) (fun n st=>z78_l2 decls_ n st.1 st.2) (r:=r) (fun _=>rfl) ?_ (fun ih=>?_))
 ·intro n2 ih3
  rintro ⟨d,e⟩ h
  replace h:z78_l2 decls_ (n2+1) d e=some r:=h
  unfold z78_l2 at h
  obtain ⟨K,h⟩|⟨K,h⟩:=oc' h
  ·exact wH J 8 K (wa J 2 (eSub [] (j1 d h)))
  refine wH J 8 K ?_
  obtain ⟨x9,f,h⟩:=ob h
  exact wa J 8 (eIx J oO0 f (wa J 12 (eSub [] (ih3 ((w64 (d+(x9.Fields.length:Int))),(w64 (e+1))) h))))
 exact eSub [] (ih N (0,0) h)
theorem z79_ct (N:Nat) (s_:T10) (r:Bool) (h:z79 N s_=some r) :
 Fn Tryz.prog 79 ⟨0,[.a (cC10 s_)],[],[],0,.O r,[],[]⟩:=by
 refine eFn func79 rfl (fun E F w=>?_)
 unfold z79 at h
 refine wa J 17 (eCut (σ:=Int × Int) (fun st=>⟨[(1,.B 0 0),(3,.I st.1),(4,.I st.2)],[(0,.box (cC10 s_) 66)],[],1⟩) (fun st=>z79_k1 s_ st.1 st.2=some r) ?_ (fun j1=>?_))
 ·rintro ⟨c,d⟩ h
  replace h:z79_k1 s_ c d=some r:=h
  unfold z79_k1 at h
  obtain ⟨K,h⟩|⟨K,h⟩:=oc h
  ·refine wH J 6 K ?_
   obtain ⟨K,h⟩|⟨K,h⟩:=oc' h
   ·refine wH J 11 K ?_
    cases h
    exact wr J 14 func79 []
   refine wH J 11 K ?_
   obtain ⟨K,h⟩|⟨K,h⟩:=oc h
   ·refine wH J 6 K ?_
    cases h
    exact wr J 8 func79 []
   refine wH J 6 K ?_
   cases h
   exact wr J 8 func79 []
  refine wH J 6 K ?_
  obtain ⟨K,h⟩|⟨K,h⟩:=oc' h
  ·refine wH J 5 K ?_
   cases h
   exact wr J 20 func79 []
  refine wH J 5 K ?_
  obtain ⟨K,h⟩|⟨K,h⟩:=oc' h
  ·refine wH J 6 K ?_
   cases h
   exact wr J 14 func79 []
  refine wH J 6 K ?_
  obtain ⟨K,h⟩|⟨K,h⟩:=oc h
  ·refine wH J 6 K ?_
   cases h
   exact wr J 8 func79 []
  refine wH J 6 K ?_
  cases h
  exact wr J 8 func79 []
 obtain ⟨K,h⟩|⟨K,h⟩:=oc h
 ·exact eK K (wa J 5 (eSub [] (j1 (0,40) h)))
 exact eK K (wa J 2 (eSub [] (j1 ((-1000),1000) h)))
theorem z158_ct (N:Nat) (s_:ByteArray) (r:Bool) (h:z158 N s_=some r) :
 Fn Tryz.prog 158 ⟨0,[.c (.s s_)],[],[],0,.O r,[],[]⟩:=by
 refine eFn func158 rfl (fun E F w=>?_)
 unfold z158 at h
 obtain ⟨x1,d,h⟩:=ob h
 refine wa J 7 (eCl (z80_ct N s_ _ d) [] [] ?_)
 cases h
 exact wr J 2 func158 []
theorem z81_ct (N:Nat) (s_:ByteArray) (r:Bool) (h:z81 N s_=some r) :
 Fn Tryz.prog 81 ⟨0,[.c (.s s_)],[],[],0,.O r,[],[]⟩:=by
 refine eFn func81 rfl (fun E F w=>?_)
 unfold z81 at h
 refine wa J 13 (eCut (σ:=Unit) (fun st=>(zz1 [(0,.c (.s s_))])) (fun st=>z81_k1 s_=some r) ?_ (fun j1=>?_))
 ·intro _ h
  replace h:z81_k1 s_=some r:=h
  unfold z81_k1 at h
  cases h
  exact wr J 7 func81 []
 refine wa J 1 (eLoop (σ:=Int × Int) (fun st=>(zz1 [(0,.c (.s s_)),(3,.I st.1),(4,.I st.2)])) (fun n st=>z81_l2 N s_ n st.1 st.2) (r:=r) (fun _=>rfl) ?_ (fun ih=>?_))
 ·intro n2 ih6
  rintro ⟨d,e⟩ h
  replace h:z81_l2 N s_ (n2+1) d e=some r:=h
  unfold z81_l2 at h
  obtain ⟨K,h⟩|⟨K,h⟩:=oc' h
  ·exact wH J 8 K (wa J 2 (eSub [] (j1 () h)))
  refine wH J 8 K ?_
  refine wa J 11 (eCut (σ:=Bool) (fun st=>(zz1 [(0,.c (.s s_)),(3,.I d),(4,.I e),(20,.O st)])) (fun st=>z81_k3 N s_ d e (z81_l2 N s_ n2) st=some r) ?_ (fun j9=>?_))
  ·intro f h
   replace h:z81_k3 N s_ d e (z81_l2 N s_ n2) f=some r:=h
   unfold z81_k3 at h
   obtain ⟨K,h⟩|⟨K,h⟩:=oc' h
   ·exact eK K (wa J 8 (eSub [] (ih6 (d,(w64 (e+1))) h)))
   refine eK K ?_
   obtain ⟨g,i,h⟩:=ob h
   refine wa J 7 (eSs J i ?_)
   obtain ⟨j,k,h⟩:=ob h
   refine eCl (z158_ct N g _ k) [] [] ?_
   obtain ⟨K,h⟩|⟨K,h⟩:=oc h
   ·refine wH J 2 K ?_
    cases h
    exact wr J 5 func81 []
   exact wH J 2 K (wa J 13 (eSub [] (ih6 ((w64 (e+1)),(w64 (e+1))) h)))
  obtain ⟨K,h⟩|⟨K,h⟩:=oc h
  ·exact eK K (wa J 6 (eSub [] (j9 true h)))
  refine eK K ?_
  obtain ⟨l,m,h⟩:=ob h
  exact wa J 2 (eSx J m (wa J 3 (eSub [] (j9 (l==46) h))))
 exact eSub [] (ih N (0,0) h)
theorem z140_ct (N:Nat) (decls_:(List T0)) (x_:Int) (r:T4) (h:z140 N decls_ x_=some r) :
 Fn Tryz.prog 140 ⟨1,[.S 0,.I x_],[(0,.sl rR0 decls_)],[],1,.a (cC4 r),[],[]⟩:=by
 refine eFn func140 rfl (fun E F w=>?_)
 unfold z140 at h
 refine wa J 9 (eCut (σ:=Unit) (fun st=>⟨[(4,.B 1 0)],[(1,.box [.s (str []),.I 0,.I 0,.I 0] 68)],[(0,.sl rR0 decls_)],2⟩) (fun st=>z140_k1=some r) ?_ (fun j1=>?_))
 ·intro _ h
  replace h:z140_k1=some r:=h
  unfold z140_k1 at h
  cases h
  exact wr J 5 func140 []
 refine wa J 1 (eLoop (σ:=Int × Int) (fun st=>⟨[(0,.S 0),(1,.I st.1),(4,.B 1 0),(5,.I st.2)],[(1,.box [.s (str []),.I 0,.I 0,.I 0] 68)],[(0,.sl rR0 decls_)],2⟩) (fun n st=>z140_l2 decls_ n st.1 st.2) (r:=r) (fun _=>rfl) ?_ (fun ih=>?_))
 ·intro n2 ih3
  rintro ⟨c,d⟩ h
  replace h:z140_l2 decls_ (n2+1) c d=some r:=h
  unfold z140_l2 at h
  obtain ⟨K,h⟩|⟨K,h⟩:=oc' h
  ·exact wH J 8 K (wa J 2 (eSub [] (j1 () h)))
  refine wH J 8 K ?_
  obtain ⟨e,f,h⟩:=ob h
  refine wa J 10 (eIx J oO0 f ?_)
  obtain ⟨K,h⟩|⟨K,h⟩:=oc' h
  ·refine wH J 5 K ?_
   obtain ⟨g,i,h⟩:=ob h
   exact wa J 6 (eIx J oO0 i (wa J 12 (eSub [] (ih3 ((w64 (c-(g.Fields.length:Int))),(w64 (d+1))) h))))
  refine wH J 5 K ?_
  obtain ⟨j,k,h⟩:=ob h
  refine wa J 5 (eIx J oO0 k ?_)
  obtain ⟨l,m,h⟩:=ob h
  refine wa J 3 (eIx J oO4 m ?_)
  cases h
  exact wr J 3 func140 []
 exact eSub [] (ih N (x_,0) h)
theorem z159_ct (N:Nat) (decls_:(List T0)) (x_:Int) (r:Bool) (h:z159 N decls_ x_=some r) :
 Fn Tryz.prog 159 ⟨1,[.S 0,.I x_],[(0,.sl rR0 decls_)],[],1,.O r,[],[]⟩:=by
 refine eFn func159 rfl (fun E F w=>?_)
 unfold z159 at h
 obtain ⟨K,h⟩|⟨K,h⟩:=oc' h
 ·refine wH J 9 K ?_
  cases h
  exact wr J 15 func159 []
 refine wH J 9 K ?_
 obtain ⟨x1,c,h⟩:=ob h
 refine wa J 2 (eCl (z78_ct N decls_ _ c) [] [(0,.sl 0)] ?_)
 obtain ⟨K,h⟩|⟨K,h⟩:=oc' h
 ·refine wH J 3 K ?_
  cases h
  exact wr J 9 func159 []
 refine wH J 3 K ?_
 obtain ⟨x2,d,h⟩:=ob h
 refine wa J 2 (eCl (z140_ct N decls_ x_ _ d) [] [(0,.sl 0)] ?_)
 cases h
 exact wr J 6 func159 []
theorem z82_ct (N:Nat) (decls_:(List T0)) (g_:T6) (r:Bool) (h:z82 N decls_ g_=some r) :
 Fn Tryz.prog 82 ⟨3,[.S 0,.a [.sl 1,.sl 2]],[(0,.sl rR0 decls_),(1,.sl rR1 g_.Diffs),(2,.sl (rP (rI .i64) (rI .i64)) g_.Equals)],[],3,.O r,[],[]⟩:=by
 refine eFn func82 rfl (fun E F w=>?_)
 unfold z82 at h
 obtain ⟨x1,c,h⟩:=ob h
 refine wa J 8 (eCl (z78_ct N decls_ _ c) [] [(0,.sl 0)] (wa J 7 (eCut (σ:=Unit) (fun st=>(zz22 decls_ g_.Diffs g_.Equals [(0,.S 0),(3,.B 3 0)])) (fun st=>z82_k3 N decls_ g_=some r) ?_ (fun j1=>?_))))
 ·intro _ h
  replace h:z82_k3 N decls_ g_=some r:=h
  unfold z82_k3 at h
  refine wa J 5 (eCut (σ:=Unit) (fun st=>(zz22 decls_ g_.Diffs g_.Equals [(3,.B 3 0)])) (fun st=>z82_k1 g_=some r) ?_ (fun j3=>?_))
  ·intro _ h
   replace h:z82_k1 g_=some r:=h
   unfold z82_k1 at h
   obtain ⟨K,h⟩|⟨K,h⟩:=oc h
   ·refine wH J 7 K ?_
    cases h
    exact wr J 7 func82 []
   refine wH J 7 K ?_
   cases h
   exact wr J 7 func82 []
  refine wa J 1 (eLoop (σ:=Int) (fun st=>(zz22 decls_ g_.Diffs g_.Equals [(0,.S 0),(3,.B 3 0),(8,.I st)])) (fun n st=>z82_l2 N decls_ g_ n st) (r:=r) (fun _=>rfl) ?_ (fun ih=>?_))
  ·intro n3 ih5
   intro d h
   replace h:z82_l2 N decls_ g_ (n3+1) d=some r:=h
   unfold z82_l2 at h
   obtain ⟨K,h⟩|⟨K,h⟩:=oc' h
   ·exact wH J 9 K (wa J 2 (eSub [] (j3 () h)))
   refine wH J 9 K ?_
   obtain ⟨e,f,h⟩:=ob h
   refine wa J 10 (eIx J (oP (oI .i64) (oI .i64)) f (eAq 0 rfl ?_))
   obtain ⟨g,i,h⟩:=ob h
   refine wa J 1 (eCl (z159_ct N decls_ e.1 _ i) [] [(0,.sl 0)] ?_)
   obtain ⟨K,h⟩|⟨K,h⟩:=oc h
   ·refine wH J 2 K ?_
    cases h
    exact wr J 16 func82 []
   refine wH J 2 K ?_
   obtain ⟨j,k,h⟩:=ob h
   refine wa J 4 (eIx J (oP (oI .i64) (oI .i64)) k (eAq 1 rfl ?_))
   obtain ⟨l,m,h⟩:=ob h
   refine wa J 1 (eCl (z159_ct N decls_ j.2 _ m) [] [(0,.sl 0)] ?_)
   obtain ⟨K,h⟩|⟨K,h⟩:=oc h
   ·refine wH J 3 K ?_
    cases h
    exact wr J 5 func82 []
   exact wH J 3 K (wa J 8 (eSub [] (ih5 (w64 (d+1)) h)))
  exact eSub [] (ih N 0 h)
 refine wa J 1 (eLoop (σ:=Int) (fun st=>(zz22 decls_ g_.Diffs g_.Equals [(0,.S 0),(3,.B 3 0),(5,.I x1),(6,.I st)])) (fun n st=>z82_l4 N decls_ g_ x1 n st) (r:=r) (fun _=>rfl) ?_ (fun ih=>?_))
 ·intro n4 ih6
  intro o h
  replace h:z82_l4 N decls_ g_ x1 (n4+1) o=some r:=h
  unfold z82_l4 at h
  obtain ⟨K,h⟩|⟨K,h⟩:=oc' h
  ·exact wH J 9 K (wa J 2 (eSub [] (j1 () h)))
  refine wH J 9 K ?_
  obtain ⟨p,q,h⟩:=ob h
  refine wa J 9 (eIx J oO1 q ?_)
  obtain ⟨K,h⟩|⟨K,h⟩:=oc h
  ·refine wH J 10 K ?_
   cases h
   exact wr J 32 func82 []
  refine wH J 10 K ?_
  obtain ⟨K,h⟩|⟨K,h⟩:=oc h
  ·refine wH J 6 K ?_
   cases h
   exact wr J 26 func82 []
  refine wH J 6 K ?_
  obtain ⟨K,h⟩|⟨K,h⟩:=oc h
  ·refine wH J 5 K ?_
   cases h
   exact wr J 21 func82 []
  refine wH J 5 K ?_
  obtain ⟨K,h⟩|⟨K,h⟩:=oc h
  ·refine wH J 6 K ?_
   cases h
   exact wr J 15 func82 []
  refine wH J 6 K ?_
  obtain ⟨K,h⟩|⟨K,h⟩:=oc h
  ·refine wH J 5 K ?_
   cases h
   exact wr J 10 func82 []
  refine wH J 5 K ?_
  obtain ⟨K,h⟩|⟨K,h⟩:=oc h
  ·refine wH J 5 K ?_
   cases h
   exact wr J 5 func82 []
  exact wH J 5 K (wa J 8 (eSub [] (ih6 (w64 (o+1)) h)))
 exact eSub [] (ih N 0 h)
theorem z41_ct (N:Nat) (decls_:(List T0)) (r:Bool) (h:z41 N decls_=some r) :
 Fn Tryz.prog 41 ⟨1,[.S 0],[(0,.sl rR0 decls_)],[],1,.O r,[],[]⟩:=by
 refine eFn func41 rfl (fun E F w=>?_)
 unfold z41 at h
 obtain ⟨K,h⟩|⟨K,h⟩:=oc h
 ·refine wH J 11 K ?_
  cases h
  exact wr J 10 func41 []
 refine wH J 11 K ?_
 obtain ⟨x1,c,h⟩:=ob h
 refine wa J 1 (eCl (z78_ct N decls_ _ c) [] [(0,.sl 0)] ?_)
 obtain ⟨K,h⟩|⟨K,h⟩:=oc h
 ·refine wH J 3 K ?_
  cases h
  exact wr J 5 func41 []
 refine wH J 3 K (wa J 11 (eCut (σ:=Unit) (fun st=>(zz4 decls_ [])) (fun st=>z41_k1=some r) ?_ (fun j1=>?_)))
 ·intro _ h
  replace h:z41_k1=some r:=h
  unfold z41_k1 at h
  cases h
  exact wr J 4 func41 []
 refine wa J 1 (eLoop (σ:=Int × Int) (fun st=>(zz4 decls_ [(0,.S 0),(3,.I st.1),(4,.I st.2)])) (fun n st=>z41_l2 N decls_ n st.1 st.2) (r:=r) (fun _=>rfl) ?_ (fun ih=>?_))
 ·intro n82 ih75
  rintro ⟨d,e⟩ h
  replace h:z41_l2 N decls_ (n82+1) d e=some r:=h
  unfold z41_l2 at h
  obtain ⟨K,h⟩|⟨K,h⟩:=oc' h
  ·exact wH J 8 K (wa J 2 (eSub [] (j1 () h)))
  refine wH J 8 K ?_
  obtain ⟨f,g,h⟩:=ob h
  refine wa J 8 (eIx J oO0 g (wa J 9 (eCut (σ:=Unit) (fun st=>(zz6 f decls_ [(0,.S 0),(3,.I d),(4,.I e),(5,.B 5 0)])) (fun st=>z41_k7 N decls_ d e (z41_l2 N decls_ n82) f=some r) ?_ (fun j124=>?_))))
  ·intro _ h
   replace h:z41_k7 N decls_ d e (z41_l2 N decls_ n82) f=some r:=h
   unfold z41_k7 at h
   refine wa J 5 (eCut (σ:=Unit) (fun st=>(zz6 f decls_ [(0,.S 0),(3,.I d),(4,.I e),(5,.B 5 0)])) (fun st=>z41_k3 N decls_ d e (z41_l2 N decls_ n82) f=some r) ?_ (fun j126=>?_))
   ·intro _ h
    replace h:z41_k3 N decls_ d e (z41_l2 N decls_ n82) f=some r:=h
    unfold z41_k3 at h
    obtain ⟨i,j,h⟩:=ob h
    refine wa J 5 (eCl (z81_ct N f.Name _ j) [] [] ?_)
    obtain ⟨K,h⟩|⟨K,h⟩:=oc h
    ·refine wH J 2 K ?_
     cases h
     exact wr J 24 func41 []
    refine wH J 2 K ?_
    obtain ⟨K,h⟩|⟨K,h⟩:=oc h
    ·refine wH J 6 K ?_
     cases h
     exact wr J 18 func41 []
    refine wH J 6 K ?_
    obtain ⟨K,h⟩|⟨K,h⟩:=oc h
    ·refine wH J 6 K ?_
     cases h
     exact wr J 12 func41 []
    refine wH J 6 K ?_
    obtain ⟨k,l,h⟩:=ob h
    refine wa J 3 (eCl (z82_ct N decls_ f.Guard _ l) [] [(0,.sl 0),(1,.sl 3),(2,.sl 4)] ?_)
    obtain ⟨K,h⟩|⟨K,h⟩:=oc h
    ·refine wH J 3 K ?_
     cases h
     exact wr J 5 func41 []
    exact wH J 3 K (wa J 16 (eSub [] (ih75 ((w64 (d+(f.Fields.length:Int))),(w64 (e+1))) h)))
   refine wa J 1 (eLoop (σ:=Int) (fun st=>(zz6 f decls_ [(0,.S 0),(3,.I d),(4,.I e),(5,.B 5 0),(7,.I st)])) (fun n st=>z41_l4 N decls_ d e (z41_l2 N decls_ n82) f n st) (r:=r) (fun _=>rfl) ?_ (fun ih=>?_))
   ·intro n95 ih137
    intro m h
    replace h:z41_l4 N decls_ d e (z41_l2 N decls_ n82) f (n95+1) m=some r:=h
    unfold z41_l4 at h
    obtain ⟨K,h⟩|⟨K,h⟩:=oc' h
    ·exact wH J 9 K (wa J 2 (eSub [] (j126 () h)))
    refine wH J 9 K ?_
    obtain ⟨o,p,h⟩:=ob h
    refine wa J 10 (eIx J oO4 p ?_)
    obtain ⟨q,s,h⟩:=ob h
    refine wa J 2 (eCl (z79_ct N o.Sort' _ s) [] [] ?_)
    obtain ⟨K,h⟩|⟨K,h⟩:=oc h
    ·refine wH J 2 K ?_
     cases h
     exact wr J 15 func41 []
    refine wH J 2 K ?_
    obtain ⟨t,u,h⟩:=ob h
    refine wa J 3 (eIx J oO4 u ?_)
    obtain ⟨v,x,h⟩:=ob h
    refine wa J 2 (eCl (z80_ct N t.Name _ x) [] [] ?_)
    obtain ⟨K,h⟩|⟨K,h⟩:=oc h
    ·refine wH J 3 K ?_
     cases h
     exact wr J 5 func41 []
    refine wH J 3 K (wa J 6 (eCut (σ:=Unit) (fun st=>⟨[(0,.S 0),(3,.I d),(4,.I e),(5,.B 5 0),(7,.I m)],[(5,.box (cC0 2 3 4 f) 75)],((0,.sl rR0 decls_)::vV0 2 3 4 f []),8⟩) (fun st=>z41_k5 m (z41_l4 N decls_ d e (z41_l2 N decls_ n82) f n95)=some r) ?_ (fun j144=>?_)))
    ·intro _ h
     replace h:z41_k5 m (z41_l4 N decls_ d e (z41_l2 N decls_ n82) f n95)=some r:=h
     unfold z41_k5 at h
     exact wa J 6 (eSub [] (ih137 (w64 (m+1)) h))
    refine wa J 1 (eLoop (σ:=Int) (fun st=>⟨[(0,.S 0),(3,.I d),(4,.I e),(5,.B 5 0),(7,.I m),(8,.I st)],[(5,.box (cC0 2 3 4 f) 75)],((0,.sl rR0 decls_)::vV0 2 3 4 f []),8⟩) (fun n st=>z41_l6 f m (z41_l4 N decls_ d e (z41_l2 N decls_ n82) f n95) n st) (r:=r) (fun _=>rfl) ?_ (fun ih=>?_))
    ·intro n97 ih146
     intro y h
     replace h:z41_l6 f m (z41_l4 N decls_ d e (z41_l2 N decls_ n82) f n95) (n97+1) y=some r:=h
     unfold z41_l6 at h
     obtain ⟨K,h⟩|⟨K,h⟩:=oc' h
     ·exact wH J 7 K (wa J 2 (eSub [] (j144 () h)))
     refine wH J 7 K ?_
     obtain ⟨z,A,h⟩:=ob h
     refine wa J 9 (eIx J oO4 A ?_)
     obtain ⟨C,D,h⟩:=ob h
     refine wa J 5 (eIx J oO4 D (wa J 3 (eEnd ?_)))
     obtain ⟨K,h⟩|⟨K,h⟩:=oc h
     ·refine eK K ?_
      cases h
      exact wr J 5 func41 []
     exact eK K (wa J 8 (eSub [] (ih146 (w64 (y+1)) h)))
    exact eSub [] (ih N 0 h)
   exact eSub [] (ih N 0 h)
  refine wa J 1 (eLoop (σ:=Int) (fun st=>(zz6 f decls_ [(0,.S 0),(3,.I d),(4,.I e),(5,.B 5 0),(6,.I st)])) (fun n st=>z41_l8 N decls_ d e (z41_l2 N decls_ n82) f n st) (r:=r) (fun _=>rfl) ?_ (fun ih=>?_))
  ·intro n98 ih147
   intro G h
   replace h:z41_l8 N decls_ d e (z41_l2 N decls_ n82) f (n98+1) G=some r:=h
   unfold z41_l8 at h
   obtain ⟨K,h⟩|⟨K,h⟩:=oc' h
   ·exact wH J 7 K (wa J 2 (eSub [] (j124 () h)))
   refine wH J 7 K ?_
   obtain ⟨H,R,h⟩:=ob h
   refine wa J 8 (eIx J oO0 R (wa J 5 (eEnd ?_)))
   obtain ⟨K,h⟩|⟨K,h⟩:=oc h
   ·refine eK K ?_
    cases h
    exact wr J 5 func41 []
   exact eK K (wa J 8 (eSub [] (ih147 (w64 (G+1)) h)))
  exact eSub [] (ih N 0 h)
 exact eSub [] (ih N (0,0) h)
theorem z178_ct (N:Nat) (g_:T5) (r:Bool) (h:z178 N g_=some r) :
 Fn Tryz.prog 178 ⟨4,[.a (cC5 0 1 2 3 g_)],(vV5 0 1 2 3 g_ []),[],4,.O r,[],[]⟩:=by
 refine eFn func178 rfl (fun E F w=>?_)
 unfold z178 at h
 refine wa J 10 (eCut (σ:=Unit) (fun st=>(zz2 g_ [(1,.B 4 0)])) (fun st=>z178_k1 N g_=some r) ?_ (fun j1=>?_))
 ·intro _ h
  replace h:z178_k1 N g_=some r:=h
  unfold z178_k1 at h
  obtain ⟨c,d,h⟩:=ob h
  refine wa J 4 (eCl (z80_ct N g_.Name _ d) [] [] ?_)
  obtain ⟨K,h⟩|⟨K,h⟩:=oc' h
  ·refine wH J 1 K ?_
   cases h
   exact wr J 18 func178 []
  refine wH J 1 K ?_
  obtain ⟨K,h⟩|⟨K,h⟩:=oc' h
  ·refine wH J 6 K ?_
   cases h
   exact wr J 12 func178 []
  refine wH J 6 K ?_
  obtain ⟨K,h⟩|⟨K,h⟩:=oc' h
  ·refine wH J 6 K ?_
   cases h
   exact wr J 6 func178 []
  refine wH J 6 K ?_
  obtain ⟨e,f,h⟩:=ob h
  refine wa J 2 (eCl (z41_ct N g_.Decls _ f) [] [(0,.sl 1)] ?_)
  cases h
  exact wr J 3 func178 []
 refine wa J 1 (eLoop (σ:=Int) (fun st=>(zz2 g_ [(1,.B 4 0),(3,.I st)])) (fun n st=>z178_l2 N g_ n st) (r:=r) (fun _=>rfl) ?_ (fun ih=>?_))
 ·intro n2 ih3
  intro g h
  replace h:z178_l2 N g_ (n2+1) g=some r:=h
  unfold z178_l2 at h
  obtain ⟨K,h⟩|⟨K,h⟩:=oc' h
  ·exact wH J 9 K (wa J 2 (eSub [] (j1 () h)))
  refine wH J 9 K ?_
  obtain ⟨i,j,h⟩:=ob h
  refine wa J 9 (eIx J oS j ?_)
  obtain ⟨k,l,h⟩:=ob h
  refine wa J 1 (eCl (z80_ct N i _ l) [] [] ?_)
  obtain ⟨K,h⟩|⟨K,h⟩:=oc h
  ·refine wH J 2 K (wa J 11 (eEnd ?_))
   cases h
   exact wr J 5 func178 []
  refine wH J 2 K ?_
  obtain ⟨m,o,h⟩:=ob h
  refine wa J 5 (eIx J oS o ?_)
  obtain ⟨p,q,h⟩:=ob h
  refine wa J 1 (eCl (z235_ct N g_.Roles m _ q) [] [(0,.sl 0)] (wa J 3 (eEnd ?_)))
  obtain ⟨K,h⟩|⟨K,h⟩:=oc h
  ·refine eK K ?_
   cases h
   exact wr J 5 func178 []
  exact eK K (wa J 8 (eSub [] (ih3 (w64 (g+1)) h)))
 exact eSub [] (ih N 0 h)
theorem z236_ct (N:Nat) (g_:T5) (s_:Int) (r:Bool) (h:z236 N g_ s_=some r) :
 Fn Tryz.prog 236 ⟨4,[.a (cC5 0 1 2 3 g_),.I s_],(vV5 0 1 2 3 g_ []),[],4,.O r,[],[]⟩:=by
 refine eFn func236 rfl (fun E F w=>?_)
 unfold z236 at h
 obtain ⟨K,h⟩|⟨K,h⟩:=oc h
 ·refine wH J 10 K ?_
  cases h
  exact wr J 7 func236 []
 refine wH J 10 K ?_
 cases h
 exact wr J 7 func236 []
theorem z179_ct (N:Nat) (g_:T5) (r:Bool) (h:z179 N g_=some r) :
 Fn Tryz.prog 179 ⟨4,[.a (cC5 0 1 2 3 g_)],(vV5 0 1 2 3 g_ []),[],4,.O r,[],[]⟩:=by
 refine eFn func179 rfl (fun E F w=>?_)
 unfold z179 at h
 refine wa J 10 (eCut (σ:=Unit) (fun st=>(zz2 g_ [(1,.B 4 0)])) (fun st=>z179_k1 N g_=some r) ?_ (fun j1=>?_))
 ·intro _ h
  replace h:z179_k1 N g_=some r:=h
  unfold z179_k1 at h
  obtain ⟨K,h⟩|⟨K,h⟩:=oc' h
  ·refine wH J 6 K ?_
   cases h
   exact wr J 24 func179 []
  refine wH J 6 K ?_
  obtain ⟨K,h⟩|⟨K,h⟩:=oc' h
  ·refine wH J 5 K ?_
   cases h
   exact wr J 19 func179 []
  refine wH J 5 K ?_
  obtain ⟨c,d,h⟩:=ob h
  refine wa J 3 (eCl (z236_ct N g_ g_.Start _ d) [] [(0,.sl 0),(1,.sl 1),(2,.sl 2),(3,.sl 3)] ?_)
  obtain ⟨K,h⟩|⟨K,h⟩:=oc' h
  ·refine wH J 2 K ?_
   cases h
   exact wr J 13 func179 []
  refine wH J 2 K ?_
  obtain ⟨e,f,h⟩:=ob h
  refine wa J 3 (eCl (z236_ct N g_ g_.End _ f) [] [(0,.sl 0),(1,.sl 1),(2,.sl 2),(3,.sl 3)] ?_)
  obtain ⟨K,h⟩|⟨K,h⟩:=oc h
  ·refine wH J 2 K ?_
   cases h
   exact wr J 7 func179 []
  refine wH J 2 K ?_
  cases h
  exact wr J 7 func179 []
 refine wa J 1 (eLoop (σ:=Int) (fun st=>(zz2 g_ [(1,.B 4 0),(3,.I st)])) (fun n st=>z179_l2 N g_ n st) (r:=r) (fun _=>rfl) ?_ (fun ih=>?_))
 ·intro n2 ih3
  intro g h
  replace h:z179_l2 N g_ (n2+1) g=some r:=h
  unfold z179_l2 at h
  obtain ⟨K,h⟩|⟨K,h⟩:=oc' h
  ·exact wH J 9 K (wa J 2 (eSub [] (j1 () h)))
  refine wH J 9 K ?_
  obtain ⟨i,j,h⟩:=ob h
  refine wa J 9 (eIx J oO2 j ?_)
  obtain ⟨k,l,h⟩:=ob h
  refine wa J 9 (eCl (z236_ct N g_ i.From _ l) [] [(0,.sl 0),(1,.sl 1),(2,.sl 2),(3,.sl 3)] ?_)
  obtain ⟨K,h⟩|⟨K,h⟩:=oc h
  ·refine wH J 2 K ?_
   cases h
   exact wr J 66 func179 []
  refine wH J 2 K ?_
  obtain ⟨m,o,h⟩:=ob h
  refine wa J 3 (eCl (z236_ct N g_ i.To _ o) [] [(0,.sl 0),(1,.sl 1),(2,.sl 2),(3,.sl 3)] ?_)
  obtain ⟨K,h⟩|⟨K,h⟩:=oc h
  ·refine wH J 3 K ?_
   cases h
   exact wr J 59 func179 []
  refine wH J 3 K ?_
  obtain ⟨K,h⟩|⟨K,h⟩:=oc h
  ·refine wH J 6 K ?_
   cases h
   exact wr J 53 func179 []
  refine wH J 6 K ?_
  obtain ⟨K,h⟩|⟨K,h⟩:=oc h
  ·refine wH J 9 K ?_
   cases h
   exact wr J 44 func179 []
  refine wH J 9 K ?_
  obtain ⟨K,h⟩|⟨K,h⟩:=oc h
  ·refine wH J 6 K ?_
   cases h
   exact wr J 38 func179 []
  refine wH J 6 K ?_
  obtain ⟨K,h⟩|⟨K,h⟩:=oc h
  ·refine wH J 9 K ?_
   cases h
   exact wr J 29 func179 []
  refine wH J 9 K ?_
  obtain ⟨K,h⟩|⟨K,h⟩:=oc h
  ·refine wH J 9 K ?_
   cases h
   exact wr J 20 func179 []
  refine wH J 9 K ?_
  obtain ⟨K,h⟩|⟨K,h⟩:=oc h
  ·refine wH J 6 K ?_
   cases h
   exact wr J 14 func179 []
  refine wH J 6 K ?_
  obtain ⟨K,h⟩|⟨K,h⟩:=oc h
  ·refine wH J 9 K ?_
   cases h
   exact wr J 5 func179 []
  exact wH J 9 K (wa J 8 (eSub [] (ih3 (w64 (g+1)) h)))
 exact eSub [] (ih N 0 h)
theorem z180_ct (N:Nat) (g_:T5) (r:Bool) (h:z180 N g_=some r) :
 Fn Tryz.prog 180 ⟨4,[.a (cC5 0 1 2 3 g_)],(vV5 0 1 2 3 g_ []),[],4,.O r,[],[]⟩:=by
 refine eFn func180 rfl (fun E F w=>?_)
 unfold z180 at h
 refine wa J 10 (eCut (σ:=Unit) (fun st=>(zz7 g_ [])) (fun st=>z180_k1=some r) ?_ (fun j1=>?_))
 ·intro _ h
  replace h:z180_k1=some r:=h
  unfold z180_k1 at h
  cases h
  exact wr J 4 func180 []
 refine wa J 1 (eLoop (σ:=Int) (fun st=>(zz2 g_ [(1,.B 4 0),(3,.I st)])) (fun n st=>z180_l2 N g_ n st) (r:=r) (fun _=>rfl) ?_ (fun ih=>?_))
 ·intro n12 ih33
  intro c h
  replace h:z180_l2 N g_ (n12+1) c=some r:=h
  unfold z180_l2 at h
  obtain ⟨K,h⟩|⟨K,h⟩:=oc' h
  ·exact wH J 9 K (wa J 2 (eSub [] (j1 () h)))
  refine wH J 9 K ?_
  obtain ⟨d,e,h⟩:=ob h
  refine wa J 9 (eIx J oO2 e ?_)
  refine wa J 10 (eCut (σ:=Bool) (fun st=>(zz18 g_ d [(1,.B 4 0),(3,.I c),(4,.B 6 0),(27,.O st)])) (fun st=>z180_k6 N g_ c (z180_l2 N g_ n12) d st=some r) ?_ (fun j54=>?_))
  ·intro f h
   replace h:z180_k6 N g_ c (z180_l2 N g_ n12) d f=some r:=h
   unfold z180_k6 at h
   obtain ⟨K,h⟩|⟨K,h⟩:=oc h
   ·refine eK K ?_
    cases h
    exact wr J 5 func180 []
   refine eK K (wa J 6 (eCut (σ:=Unit) (fun st=>⟨[(1,.B 4 0),(3,.I c)],[(4,.box (cC5 0 1 2 3 g_) 27)],(vV5 0 1 2 3 g_ []),7⟩) (fun st=>z180_k3 c (z180_l2 N g_ n12)=some r) ?_ (fun j55=>?_)))
   ·intro _ h
    replace h:z180_k3 c (z180_l2 N g_ n12)=some r:=h
    unfold z180_k3 at h
    exact wa J 6 (eSub [] (ih33 (w64 (c+1)) h))
   refine wa J 1 (eLoop (σ:=Int) (fun st=>(zz18 g_ d [(1,.B 4 0),(3,.I c),(4,.B 6 0),(5,.I st)])) (fun n st=>z180_l4 g_ c (z180_l2 N g_ n12) d n st) (r:=r) (fun _=>rfl) ?_ (fun ih=>?_))
   ·intro n14 ih60
    intro g h
    replace h:z180_l4 g_ c (z180_l2 N g_ n12) d (n14+1) g=some r:=h
    unfold z180_l4 at h
    obtain ⟨K,h⟩|⟨K,h⟩:=oc' h
    ·exact wH J 9 K (wa J 2 (eSub [] (j55 () h)))
    refine wH J 9 K ?_
    obtain ⟨i,j,h⟩:=ob h
    refine wa J 9 (eIx J oO2 j ?_)
    refine wa J 11 (eCut (σ:=Bool) (fun st=>(zz32 g_ d i [(1,.B 4 0),(3,.I c),(4,.B 6 0),(5,.I g),(6,.B 8 0),(69,.O st)])) (fun st=>z180_k5 d g (z180_l4 g_ c (z180_l2 N g_ n12) d n14) i st=some r) ?_ (fun j63=>?_))
    ·intro k h
     replace h:z180_k5 d g (z180_l4 g_ c (z180_l2 N g_ n12) d n14) i k=some r:=h
     unfold z180_k5 at h
     obtain ⟨K,h⟩|⟨K,h⟩:=oc h
     ·refine eK K ?_
      cases h
      exact wr J 5 func180 []
     refine eK K ?_
     obtain ⟨K,h⟩|⟨K,h⟩:=oc' h
     ·exact wH J 7 K (wa J 33 (eSub [] (ih60 (w64 (g+1)) h)))
     refine wH J 7 K ?_
     obtain ⟨K,h⟩|⟨K,h⟩:=oc' h
     ·exact wH J 7 K (wa J 26 (eSub [] (ih60 (w64 (g+1)) h)))
     refine wH J 7 K ?_
     obtain ⟨K,h⟩|⟨K,h⟩:=oc h
     ·refine wH J 8 K ?_
      cases h
      exact wr J 15 func180 []
     refine wH J 8 K ?_
     obtain ⟨K,h⟩|⟨K,h⟩:=oc h
     ·refine wH J 10 K ?_
      cases h
      exact wr J 5 func180 []
     exact wH J 10 K (wa J 8 (eSub [] (ih60 (w64 (g+1)) h)))
    obtain ⟨K,h⟩|⟨K,h⟩:=oc' h
    ·exact eK K (wa J 27 (eSub [] (j63 false h)))
    refine eK K ?_
    obtain ⟨K,h⟩|⟨K,h⟩:=oc' h
    ·exact wH J 7 K (wa J 20 (eSub [] (j63 false h)))
    refine wH J 7 K (wa J 4 (eEq ?_))
    obtain ⟨K,h⟩|⟨K,h⟩:=oc h
    ·exact wH J 1 K (wa J 14 (eSub [] (j63 true h)))
    refine wH J 1 K ?_
    obtain ⟨K,h⟩|⟨K,h⟩:=oc h
    ·exact wH J 9 K (wa J 5 (eSub [] (j63 true h)))
    exact wH J 9 K (wa J 5 (eSub [] (j63 d.Again h)))
   exact eSub [] (ih N 0 h)
  obtain ⟨K,h⟩|⟨K,h⟩:=oc h
  ·exact eK K (wa J 7 (eSub [] (j54 (d.From==g_.Start) h)))
  exact eK K (wa J 7 (eSub [] (j54 false h)))
 exact eSub [] (ih N 0 h)
theorem z237_ct (N:Nat) (g_:T5) (r:(List Int)) (h:z237 N g_=some r) :
 Fn Tryz.prog 237 ⟨4,[.a (cC5 0 1 2 3 g_)],(vV5 0 1 2 3 g_ []),[],5,.S 4,[],[(4,.own (rI .i64) r true)]⟩:=by
 refine eFn func237 rfl (fun E F w=>?_)
 unfold z237 at h
 obtain ⟨x1,c,h⟩:=ob h
 refine wa J 9 (eMk J (oI .i64) c (wa J 7 (eCut (σ:=(List Int)) (fun st=>(zz28 g_ st [(1,.B 4 0),(3,.S 5)])) (fun st=>z237_k5 N g_ st=some r) ?_ (fun j1=>?_))))
 ·intro d h
  replace h:z237_k5 N g_ d=some r:=h
  unfold z237_k5 at h
  obtain ⟨x6,e,h⟩:=ob h
  refine wa J 5 (eIo J (rI .i64) e (eSt J [] (oI .i64) 0 e (wa J 6 (eCut (σ:=(List Int)) (fun st=>⟨[(3,.S 5)],[(5,.own (rI .i64) st true)],(vV5 0 1 2 3 g_ []),7⟩) (fun st=>z237_k1 st=some r) ?_ (fun j3=>?_)))))
  ·intro f h
   replace h:z237_k1 f=some r:=h
   unfold z237_k1 at h
   cases h
   exact wr J 5 func237 [(4,.sl 5)]
  refine wa J 1 (eLoop (σ:=(List Int) × Int) (fun st=>(zz16 g_ st.1 [(1,.B 4 0),(3,.S 5),(5,.I st.2)])) (fun n st=>z237_l2 N g_ n st.1 st.2) (r:=r) (fun _=>rfl) ?_ (fun ih=>?_))
  ·intro n13 ih14
   rintro ⟨g,i⟩ h
   replace h:z237_l2 N g_ (n13+1) g i=some r:=h
   unfold z237_l2 at h
   obtain ⟨K,h⟩|⟨K,h⟩:=oc' h
   ·exact wH J 8 K (wa J 2 (eSub [] (j3 g h)))
   refine wH J 8 K (wa J 8 (eCut (σ:=(List Int)) (fun st=>(zz16 g_ st [(1,.B 4 0),(3,.S 5),(5,.I i)])) (fun st=>z237_k3 i (z237_l2 N g_ n13) st=some r) ?_ (fun j21=>?_)))
   ·intro j h
    replace h:z237_k3 i (z237_l2 N g_ n13) j=some r:=h
    unfold z237_k3 at h
    exact wa J 6 (eSub [] (ih14 (j,(w64 (i+1))) h))
   refine wa J 1 (eLoop (σ:=(List Int) × Int) (fun st=>(zz16 g_ st.1 [(1,.B 4 0),(3,.S 5),(5,.I i),(6,.I st.2)])) (fun n st=>z237_l4 g_ i (z237_l2 N g_ n13) n st.1 st.2) (r:=r) (fun _=>rfl) ?_ (fun ih=>?_))
   ·intro n15 ih23
    rintro ⟨k,l⟩ h
    replace h:z237_l4 g_ i (z237_l2 N g_ n13) (n15+1) k l=some r:=h
    unfold z237_l4 at h
    obtain ⟨K,h⟩|⟨K,h⟩:=oc' h
    ·exact wH J 9 K (wa J 2 (eSub [] (j21 k h)))
    refine wH J 9 K ?_
    obtain ⟨m,o,h⟩:=ob h
    refine wa J 9 (eIx J oO2 o ?_)
    obtain ⟨p,q,h⟩:=ob h
    refine wa J 9 (eIo J (rI .i64) q (eLd J (oI .i64) q ?_))
    obtain ⟨K,h⟩|⟨K,h⟩:=oc' h
    ·exact wH J 3 K (wa J 16 (eSub [] (ih23 (k,(w64 (l+1))) h)))
    refine wH J 3 K ?_
    obtain ⟨s,t,h⟩:=ob h
    refine wa J 3 (eIo J (rI .i64) t (eLd J (oI .i64) t ?_))
    obtain ⟨K,h⟩|⟨K,h⟩:=oc' h
    ·exact wH J 3 K (wa J 8 (eSub [] (ih23 (k,(w64 (l+1))) h)))
    refine wH J 3 K ?_
    obtain ⟨u,v,h⟩:=ob h
    exact wa J 7 (eIo J (rI .i64) v (eSt J [] (oI .i64) (w64 (i+1)) v (wa J 7 (eSub [] (ih23 ((setL' k m.From (w64 (i+1))),(w64 (l+1))) h)))))
   exact eSub [] (ih N (g,0) h)
  exact eSub [] (ih N ((setL' d g_.End 0),0) h)
 refine wa J 1 (eLoop (σ:=(List Int) × Int) (fun st=>(zz28 g_ st.1 [(1,.B 4 0),(3,.S 5),(4,.I st.2)])) (fun n st=>z237_l6 N g_ n st.1 st.2) (r:=r) (fun _=>rfl) ?_ (fun ih=>?_))
 ·intro n16 ih24
  rintro ⟨x,y⟩ h
  replace h:z237_l6 N g_ (n16+1) x y=some r:=h
  unfold z237_l6 at h
  obtain ⟨K,h⟩|⟨K,h⟩:=oc' h
  ·exact wH J 8 K (wa J 2 (eSub [] (j1 x h)))
  refine wH J 8 K ?_
  obtain ⟨z,A,h⟩:=ob h
  exact wa J 7 (eIo J (rI .i64) A (eSt J [] (oI .i64) (-1) A (wa J 7 (eSub [] (ih24 ((setL' x y (-1)),(w64 (y+1))) h)))))
 exact eSub [] (ih N (x1,0) h)
theorem z272_ct (N:Nat) (g_:T5) (i_:Int) (k_:Int) (r:Bool) (h:z272 N g_ i_ k_=some r) :
 Fn Tryz.prog 272 ⟨4,[.a (cC5 0 1 2 3 g_),.I i_,.I k_],(vV5 0 1 2 3 g_ []),[],4,.O r,[],[]⟩:=by
 refine eFn func272 rfl (fun E F w=>?_)
 unfold z272 at h
 obtain ⟨x1,c,h⟩:=ob h
 refine wa J 10 (eIx J oO2 c ?_)
 obtain ⟨x2,d,h⟩:=ob h
 refine wa J 5 (eIx J oO2 d (wa J 6 (eEnd ?_)))
 obtain ⟨K,h⟩|⟨K,h⟩:=oc h
 ·refine wH J 9 K ?_
  cases h
  exact wr J 10 func272 []
 refine wH J 9 K ?_
 obtain ⟨K,h⟩|⟨K,h⟩:=oc h
 ·refine wH J 11 K ?_
  cases h
  exact wr J 10 func272 []
 refine wH J 11 K ?_
 cases h
 exact wr J 9 func272 []
theorem z238_ct (N:Nat) (g_:T5) (s_:Int) (r:(List Int)) (h:z238 N g_ s_=some r) :
 Fn Tryz.prog 238 ⟨4,[.a (cC5 0 1 2 3 g_),.I s_],(vV5 0 1 2 3 g_ []),[],5,.S 4,[],[(4,.own (rI .i64) r true)]⟩:=by
 refine eFn func238 rfl (fun E F w=>?_)
 unfold z238 at h
 refine wa J 14 (eCut (σ:=(List Int)) (fun st=>⟨[(5,.S 5)],[(5,.own (rI .i64) st true)],(vV5 0 1 2 3 g_ []),6⟩) (fun st=>z238_k1 st=some r) ?_ (fun j1=>?_))
 ·intro c h
  replace h:z238_k1 c=some r:=h
  unfold z238_k1 at h
  cases h
  exact wr J 5 func238 [(4,.sl 5)]
 refine wa J 1 (eLoop (σ:=(List Int) × Int) (fun st=>(zz28 g_ st.1 [(1,.I s_),(2,.B 4 0),(5,.S 5),(6,.I st.2)])) (fun n st=>z238_l2 N g_ s_ n st.1 st.2) (r:=r) (fun _=>rfl) ?_ (fun ih=>?_))
 ·intro n12 ih12
  rintro ⟨d,e⟩ h
  replace h:z238_l2 N g_ s_ (n12+1) d e=some r:=h
  unfold z238_l2 at h
  obtain ⟨K,h⟩|⟨K,h⟩:=oc' h
  ·exact wH J 9 K (wa J 2 (eSub [] (j1 d h)))
  refine wH J 9 K ?_
  obtain ⟨f,g,h⟩:=ob h
  refine wa J 10 (eIx J oO2 g ?_)
  obtain ⟨K,h⟩|⟨K,h⟩:=oc h
  ·exact wH J 5 K (wa J 7 (eSub [] (ih12 (d,(w64 (e+1))) h)))
  refine wH J 5 K (wa J 7 (eCut (σ:=Int) (fun st=>(zz16 g_ d [(1,.I s_),(2,.B 4 0),(5,.S 5),(6,.I e),(7,.I st)])) (fun st=>z238_k3 d e (z238_l2 N g_ s_ n12) st=some r) ?_ (fun j19=>?_)))
  ·intro i h
   replace h:z238_k3 d e (z238_l2 N g_ s_ n12) i=some r:=h
   unfold z238_k3 at h
   obtain ⟨j,k,h⟩:=ob h
   refine wa J 3 (eVw J (rI .i64) k (wa J 1 (eBs J [] (oI .i64) ([e]:List Int) ?_)))
   obtain ⟨l,m,h⟩:=ob h
   refine wa J 2 (eVw J (rI .i64) m ?_)
   obtain ⟨o,p,h⟩:=ob h
   refine eAv J (rI .i64) m p ?_
   obtain ⟨q,s,h⟩:=ob h
   exact eAz J (rI .i64) k s (wa J 1 (eEnd (wa J 6 (eSub [(5,.sl 11)] (ih12 (q,(w64 (e+1))) h)))))
  refine wa J 1 (eLoop (σ:=Int) (fun st=>(zz16 g_ d [(1,.I s_),(2,.B 4 0),(5,.S 5),(6,.I e),(7,.I st)])) (fun n st=>z238_l4 N g_ d e (z238_l2 N g_ s_ n12) n st) (r:=r) (fun _=>rfl) ?_ (fun ih=>?_))
  ·intro n14 ih21
   intro t h
   replace h:z238_l4 N g_ d e (z238_l2 N g_ s_ n12) (n14+1) t=some r:=h
   unfold z238_l4 at h
   obtain ⟨K,h⟩|⟨K,h⟩:=oc' h
   ·exact wH J 8 K (wa J 8 (eEnd (wa J 2 (eSub [] (j19 t h)))))
   refine wH J 8 K ?_
   obtain ⟨u,v,h⟩:=ob h
   refine wa J 3 (eIo J (rI .i64) v (eLd J (oI .i64) v ?_))
   obtain ⟨x,y,h⟩:=ob h
   refine wa J 1 (eCl (z272_ct N g_ u e _ y) [] [(0,.sl 0),(1,.sl 1),(2,.sl 2),(3,.sl 3)] (wa J 1 (eEnd ?_)))
   obtain ⟨K,h⟩|⟨K,h⟩:=oc h
   ·exact eK K (wa J 9 (eSub [] (ih21 (w64 (t+1)) h)))
   exact eK K (wa J 2 (eSub [] (j19 t h)))
  exact eSub [] (ih N 0 h)
 exact eSub [(5,.nil)] (ih N (([]:List Int),0) h)
theorem z181_ct (N:Nat) (g_:T5) (r:Bool) (h:z181 N g_=some r) :
 Fn Tryz.prog 181 ⟨4,[.a (cC5 0 1 2 3 g_)],(vV5 0 1 2 3 g_ []),[],4,.O r,[],[]⟩:=by
 refine eFn func181 rfl (fun E F w=>?_)
 unfold z181 at h
 obtain ⟨x1,c,h⟩:=ob h
 refine wa J 9 (eMk J oB c ?_)
 obtain ⟨x2,d,h⟩:=ob h
 refine wa J 7 (eIo J rB d (eSt J [] oB true d (wa J 6 (eCut (σ:=(List Bool)) (fun st=>(zz23 g_ st [(1,.B 4 0),(3,.S 5)])) (fun st=>z181_k3 N g_ st=some r) ?_ (fun j1=>?_)))))
 ·intro e h
  replace h:z181_k3 N g_ e=some r:=h
  unfold z181_k3 at h
  obtain ⟨f,g,h⟩:=ob h
  refine wa J 3 (eCl (z237_ct N g_ _ g) [] [(0,.sl 0),(1,.sl 1),(2,.sl 2),(3,.sl 3)] (wa J 7 (eCut (σ:=Unit) (fun st=>⟨[(1,.B 4 0)],[(4,.box (cC5 0 1 2 3 g_) 27)],(vV5 0 1 2 3 g_ []),8⟩) (fun st=>z181_k1 N g_=some r) ?_ (fun j12=>?_))))
  ·intro _ h
   replace h:z181_k1 N g_=some r:=h
   unfold z181_k1 at h
   obtain ⟨i,j,h⟩:=ob h
   refine wa J 5 (eCl (z238_ct N g_ g_.End _ j) [] [(0,.sl 0),(1,.sl 1),(2,.sl 2),(3,.sl 3)] ?_)
   cases h
   exact wr J 4 func181 []
  refine wa J 1 (eLoop (σ:=Int) (fun st=>⟨[(1,.B 4 0),(3,.S 5),(6,.S 7),(7,.I st)],[(4,.box (cC5 0 1 2 3 g_) 27),(5,.own rB e true),(7,.own (rI .i64) f true)],(vV5 0 1 2 3 g_ []),8⟩) (fun n st=>z181_l2 N g_ e f n st) (r:=r) (fun _=>rfl) ?_ (fun ih=>?_))
  ·intro n9 ih14
   intro k h
   replace h:z181_l2 N g_ e f (n9+1) k=some r:=h
   unfold z181_l2 at h
   obtain ⟨K,h⟩|⟨K,h⟩:=oc' h
   ·exact wH J 8 K (wa J 2 (eSub [] (j12 () h)))
   refine wH J 8 K ?_
   obtain ⟨l,m,h⟩:=ob h
   refine wa J 8 (eIo J rB m (eLd J oB m ?_))
   obtain ⟨K,h⟩|⟨K,h⟩:=oc h
   ·refine wH J 2 K ?_
    cases h
    exact wr J 12 func181 []
   refine wH J 2 K ?_
   obtain ⟨o,p,h⟩:=ob h
   refine wa J 2 (eIo J (rI .i64) p (eLd J (oI .i64) p ?_))
   obtain ⟨K,h⟩|⟨K,h⟩:=oc h
   ·refine wH J 3 K ?_
    cases h
    exact wr J 5 func181 []
   exact wH J 3 K (wa J 8 (eSub [] (ih14 (w64 (k+1)) h)))
  exact eSub [] (ih N 0 h)
 refine wa J 1 (eLoop (σ:=(List Bool) × Int) (fun st=>(zz23 g_ st.1 [(1,.B 4 0),(3,.S 5),(4,.I st.2)])) (fun n st=>z181_l4 N g_ n st.1 st.2) (r:=r) (fun _=>rfl) ?_ (fun ih=>?_))
 ·intro n14 ih15
  rintro ⟨q,s⟩ h
  replace h:z181_l4 N g_ (n14+1) q s=some r:=h
  unfold z181_l4 at h
  obtain ⟨K,h⟩|⟨K,h⟩:=oc' h
  ·exact wH J 8 K (wa J 2 (eSub [] (j1 q h)))
  refine wH J 8 K (wa J 8 (eCut (σ:=(List Bool)) (fun st=>(zz23 g_ st [(1,.B 4 0),(3,.S 5),(4,.I s)])) (fun st=>z181_k5 s (z181_l4 N g_ n14) st=some r) ?_ (fun j22=>?_)))
  ·intro t h
   replace h:z181_k5 s (z181_l4 N g_ n14) t=some r:=h
   unfold z181_k5 at h
   exact wa J 6 (eSub [] (ih15 (t,(w64 (s+1))) h))
  refine wa J 1 (eLoop (σ:=(List Bool) × Int) (fun st=>(zz23 g_ st.1 [(1,.B 4 0),(3,.S 5),(4,.I s),(5,.I st.2)])) (fun n st=>z181_l6 g_ s (z181_l4 N g_ n14) n st.1 st.2) (r:=r) (fun _=>rfl) ?_ (fun ih=>?_))
  ·intro n16 ih24
   rintro ⟨u,v⟩ h
   replace h:z181_l6 g_ s (z181_l4 N g_ n14) (n16+1) u v=some r:=h
   unfold z181_l6 at h
   obtain ⟨K,h⟩|⟨K,h⟩:=oc' h
   ·exact wH J 9 K (wa J 2 (eSub [] (j22 u h)))
   refine wH J 9 K ?_
   obtain ⟨x,y,h⟩:=ob h
   refine wa J 9 (eIx J oO2 y ?_)
   obtain ⟨z,A,h⟩:=ob h
   refine wa J 6 (eIx J oO2 A ?_)
   obtain ⟨C,D,h⟩:=ob h
   refine wa J 2 (eIo J rB D (eLd J oB D ?_))
   obtain ⟨K,h⟩|⟨K,h⟩:=oc h
   ·refine wH J 1 K ?_
    obtain ⟨G,H,h⟩:=ob h
    exact wa J 10 (eIo J rB H (eSt J [] oB true H (eEnd (wa J 6 (eSub [] (ih24 ((setL' u x.To true),(w64 (v+1))) h))))))
   refine wH J 1 K ?_
   obtain ⟨R,T,h⟩:=ob h
   refine wa J 4 (eIx J oO2 T ?_)
   obtain ⟨U,X,h⟩:=ob h
   refine wa J 2 (eIo J rB X (eLd J oB X ?_))
   obtain ⟨Y,Z,h⟩:=ob h
   exact wa J 1 (eIo J rB Z (eSt J [] oB U Z (eEnd (wa J 6 (eSub [] (ih24 ((setL' u x.To U),(w64 (v+1))) h))))))
  exact eSub [] (ih N (q,0) h)
 exact eSub [] (ih N ((setL' x1 g_.Start true),0) h)
theorem z182_ct (N:Nat) (g_:T5) (r:Bool) (h:z182 N g_=some r) :
 Fn Tryz.prog 182 ⟨4,[.a (cC5 0 1 2 3 g_)],(vV5 0 1 2 3 g_ []),[],4,.O r,[],[]⟩:=by
 refine eFn func182 rfl (fun E F w=>?_)
 unfold z182 at h
 refine wa J 10 (eCut (σ:=Unit) (fun st=>(zz7 g_ [])) (fun st=>z182_k1=some r) ?_ (fun j1=>?_))
 ·intro _ h
  replace h:z182_k1=some r:=h
  unfold z182_k1 at h
  cases h
  exact wr J 4 func182 []
 refine wa J 1 (eLoop (σ:=Int) (fun st=>(zz2 g_ [(1,.B 4 0),(3,.I st)])) (fun n st=>z182_l2 N g_ n st) (r:=r) (fun _=>rfl) ?_ (fun ih=>?_))
 ·intro n2 ih3
  intro c h
  replace h:z182_l2 N g_ (n2+1) c=some r:=h
  unfold z182_l2 at h
  obtain ⟨K,h⟩|⟨K,h⟩:=oc' h
  ·exact wH J 9 K (wa J 2 (eSub [] (j1 () h)))
  refine wH J 9 K ?_
  obtain ⟨d,e,h⟩:=ob h
  refine wa J 9 (eIx J oO11 e ?_)
  obtain ⟨f,g,h⟩:=ob h
  refine wa J 9 (eCl (z236_ct N g_ d.State _ g) [] [(0,.sl 0),(1,.sl 1),(2,.sl 2),(3,.sl 3)] ?_)
  obtain ⟨K,h⟩|⟨K,h⟩:=oc h
  ·refine wH J 2 K (wa J 59 (eEnd ?_))
   cases h
   exact wr J 5 func182 []
  refine wH J 2 K ?_
  obtain ⟨K,h⟩|⟨K,h⟩:=oc' h
  ·refine wH J 3 K ?_
   obtain ⟨K,h⟩|⟨K,h⟩:=oc h
   ·refine wH J 18 K (wa J 38 (eEnd ?_))
    cases h
    exact wr J 5 func182 []
   refine wH J 18 K ?_
   obtain ⟨K,h⟩|⟨K,h⟩:=oc h
   ·refine wH J 5 K (wa J 33 (eEnd ?_))
    cases h
    exact wr J 5 func182 []
   refine wH J 5 K ?_
   obtain ⟨K,h⟩|⟨K,h⟩:=oc h
   ·refine wH J 5 K (wa J 28 (eEnd ?_))
    cases h
    exact wr J 5 func182 []
   refine wH J 5 K ?_
   obtain ⟨K,h⟩|⟨K,h⟩:=oc h
   ·refine wH J 8 K (wa J 20 (eEnd ?_))
    cases h
    exact wr J 5 func182 []
   refine wH J 8 K ?_
   obtain ⟨i,j,h⟩:=ob h
   refine wa J 4 (eIx J oO2 j ?_)
   obtain ⟨K,h⟩|⟨K,h⟩:=oc h
   ·refine wH J 7 K (wa J 8 (eEnd ?_))
    cases h
    exact wr J 5 func182 []
   refine wH J 7 K ?_
   obtain ⟨k,l,h⟩:=ob h
   refine wa J 4 (eIx J oO2 l (wa J 3 (eEnd ?_)))
   obtain ⟨K,h⟩|⟨K,h⟩:=oc h
   ·refine eK K ?_
    cases h
    exact wr J 5 func182 []
   exact eK K (wa J 8 (eSub [] (ih3 (w64 (c+1)) h)))
  refine wH J 3 K ?_
  obtain ⟨m,o,h⟩:=ob h
  refine wa J 6 (eIx J oO11 o ?_)
  obtain ⟨K,h⟩|⟨K,h⟩:=oc h
  ·refine wH J 6 K (wa J 43 (eEnd ?_))
   cases h
   exact wr J 5 func182 []
  refine wH J 6 K ?_
  obtain ⟨K,h⟩|⟨K,h⟩:=oc h
  ·refine wH J 5 K (wa J 38 (eEnd ?_))
   cases h
   exact wr J 5 func182 []
  refine wH J 5 K ?_
  obtain ⟨K,h⟩|⟨K,h⟩:=oc h
  ·refine wH J 5 K (wa J 33 (eEnd ?_))
   cases h
   exact wr J 5 func182 []
  refine wH J 5 K ?_
  obtain ⟨K,h⟩|⟨K,h⟩:=oc h
  ·refine wH J 5 K (wa J 28 (eEnd ?_))
   cases h
   exact wr J 5 func182 []
  refine wH J 5 K ?_
  obtain ⟨K,h⟩|⟨K,h⟩:=oc h
  ·refine wH J 8 K (wa J 20 (eEnd ?_))
   cases h
   exact wr J 5 func182 []
  refine wH J 8 K ?_
  obtain ⟨p,q,h⟩:=ob h
  refine wa J 4 (eIx J oO2 q ?_)
  obtain ⟨K,h⟩|⟨K,h⟩:=oc h
  ·refine wH J 7 K (wa J 8 (eEnd ?_))
   cases h
   exact wr J 5 func182 []
  refine wH J 7 K ?_
  obtain ⟨s,t,h⟩:=ob h
  refine wa J 4 (eIx J oO2 t (wa J 3 (eEnd ?_)))
  obtain ⟨K,h⟩|⟨K,h⟩:=oc h
  ·refine eK K ?_
   cases h
   exact wr J 5 func182 []
  exact eK K (wa J 8 (eSub [] (ih3 (w64 (c+1)) h)))
 exact eSub [] (ih N 0 h)
theorem z102_ct (N:Nat) (g_:T5) (r:Bool) (h:z102 N g_=some r) :
 Fn Tryz.prog 102 ⟨4,[.a (cC5 0 1 2 3 g_)],(vV5 0 1 2 3 g_ []),[],4,.O r,[],[]⟩:=by
 refine eFn func102 rfl (fun E F w=>?_)
 unfold z102 at h
 obtain ⟨x1,c,h⟩:=ob h
 refine wa J 8 (eCl (z178_ct N g_ _ c) [] [(0,.sl 0),(1,.sl 1),(2,.sl 2),(3,.sl 3)] ?_)
 obtain ⟨K,h⟩|⟨K,h⟩:=oc' h
 ·refine wH J 1 K ?_
  cases h
  exact wr J 17 func102 []
 refine wH J 1 K ?_
 obtain ⟨x2,d,h⟩:=ob h
 refine wa J 1 (eCl (z179_ct N g_ _ d) [] [(0,.sl 0),(1,.sl 1),(2,.sl 2),(3,.sl 3)] ?_)
 obtain ⟨K,h⟩|⟨K,h⟩:=oc' h
 ·refine wH J 2 K ?_
  cases h
  exact wr J 13 func102 []
 refine wH J 2 K ?_
 obtain ⟨x3,e,h⟩:=ob h
 refine wa J 1 (eCl (z180_ct N g_ _ e) [] [(0,.sl 0),(1,.sl 1),(2,.sl 2),(3,.sl 3)] ?_)
 obtain ⟨K,h⟩|⟨K,h⟩:=oc' h
 ·refine wH J 2 K ?_
  cases h
  exact wr J 9 func102 []
 refine wH J 2 K ?_
 obtain ⟨x4,f,h⟩:=ob h
 refine wa J 1 (eCl (z181_ct N g_ _ f) [] [(0,.sl 0),(1,.sl 1),(2,.sl 2),(3,.sl 3)] ?_)
 obtain ⟨K,h⟩|⟨K,h⟩:=oc' h
 ·refine wH J 2 K ?_
  cases h
  exact wr J 5 func102 []
 refine wH J 2 K ?_
 obtain ⟨x5,g,h⟩:=ob h
 refine wa J 1 (eCl (z182_ct N g_ _ g) [] [(0,.sl 0),(1,.sl 1),(2,.sl 2),(3,.sl 3)] ?_)
 cases h
 exact wr J 3 func102 []
theorem z183_ct (N:Nat) (m_:T8) (r:Bool) (h:z183 N m_=some r) :
 Fn Tryz.prog 183 ⟨3,[.a (cC8 0 1 2 m_)],(vV8 0 1 2 m_ []),[],3,.O r,[],[]⟩:=by
 refine eFn func183 rfl (fun E F w=>?_)
 unfold z183 at h
 obtain ⟨K,h⟩|⟨K,h⟩:=oc h
 ·refine wH J 12 K ?_
  cases h
  exact wr J 46 func183 []
 refine wH J 12 K ?_
 obtain ⟨K,h⟩|⟨K,h⟩:=oc h
 ·refine wH J 5 K ?_
  cases h
  exact wr J 41 func183 []
 refine wH J 5 K ?_
 obtain ⟨K,h⟩|⟨K,h⟩:=oc h
 ·refine wH J 5 K ?_
  cases h
  exact wr J 36 func183 []
 refine wH J 5 K ?_
 obtain ⟨K,h⟩|⟨K,h⟩:=oc h
 ·refine wH J 5 K ?_
  cases h
  exact wr J 31 func183 []
 refine wH J 5 K ?_
 obtain ⟨K,h⟩|⟨K,h⟩:=oc h
 ·refine wH J 5 K ?_
  cases h
  exact wr J 26 func183 []
 refine wH J 5 K ?_
 obtain ⟨K,h⟩|⟨K,h⟩:=oc h
 ·refine wH J 7 K ?_
  cases h
  exact wr J 19 func183 []
 refine wH J 7 K ?_
 obtain ⟨K,h⟩|⟨K,h⟩:=oc h
 ·refine wH J 8 K ?_
  cases h
  exact wr J 11 func183 []
 refine wH J 8 K ?_
 obtain ⟨K,h⟩|⟨K,h⟩:=oc h
 ·refine wH J 6 K ?_
  cases h
  exact wr J 5 func183 []
 refine wH J 6 K (wa J 7 (eCut (σ:=Unit) (fun st=>(zz12 m_ [])) (fun st=>z183_k1=some r) ?_ (fun j1=>?_)))
 ·intro _ h
  replace h:z183_k1=some r:=h
  unfold z183_k1 at h
  cases h
  exact wr J 4 func183 []
 refine wa J 1 (eLoop (σ:=Int) (fun st=>(zz13 m_ [(1,.B 3 0),(3,.I st)])) (fun n st=>z183_l2 m_ n st) (r:=r) (fun _=>rfl) ?_ (fun ih=>?_))
 ·intro n2 ih3
  intro c h
  replace h:z183_l2 m_ (n2+1) c=some r:=h
  unfold z183_l2 at h
  obtain ⟨K,h⟩|⟨K,h⟩:=oc' h
  ·exact wH J 9 K (wa J 2 (eSub [] (j1 () h)))
  refine wH J 9 K ?_
  obtain ⟨x9,d,h⟩:=ob h
  refine wa J 9 (eIx J oO9 d ?_)
  obtain ⟨K,h⟩|⟨K,h⟩:=oc h
  ·refine wH J 10 K ?_
   cases h
   exact wr J 51 func183 []
  refine wH J 10 K ?_
  obtain ⟨K,h⟩|⟨K,h⟩:=oc h
  ·refine wH J 7 K ?_
   cases h
   exact wr J 44 func183 []
  refine wH J 7 K ?_
  obtain ⟨K,h⟩|⟨K,h⟩:=oc h
  ·refine wH J 5 K ?_
   cases h
   exact wr J 39 func183 []
  refine wH J 5 K ?_
  obtain ⟨K,h⟩|⟨K,h⟩:=oc h
  ·refine wH J 7 K ?_
   cases h
   exact wr J 32 func183 []
  refine wH J 7 K ?_
  obtain ⟨K,h⟩|⟨K,h⟩:=oc h
  ·refine wH J 5 K ?_
   cases h
   exact wr J 27 func183 []
  refine wH J 5 K ?_
  obtain ⟨K,h⟩|⟨K,h⟩:=oc h
  ·refine wH J 5 K ?_
   cases h
   exact wr J 22 func183 []
  refine wH J 5 K ?_
  obtain ⟨K,h⟩|⟨K,h⟩:=oc h
  ·refine wH J 7 K ?_
   cases h
   exact wr J 15 func183 []
  refine wH J 7 K ?_
  obtain ⟨K,h⟩|⟨K,h⟩:=oc h
  ·refine wH J 5 K ?_
   cases h
   exact wr J 10 func183 []
  refine wH J 5 K ?_
  obtain ⟨K,h⟩|⟨K,h⟩:=oc h
  ·refine wH J 5 K ?_
   cases h
   exact wr J 5 func183 []
  exact wH J 5 K (wa J 8 (eSub [] (ih3 (w64 (c+1)) h)))
 exact eSub [] (ih N 0 h)
theorem z184_ct (N:Nat) (m_:T8) (r:Bool) (h:z184 N m_=some r) :
 Fn Tryz.prog 184 ⟨3,[.a (cC8 0 1 2 m_)],(vV8 0 1 2 m_ []),[],3,.O r,[],[]⟩:=by
 refine eFn func184 rfl (fun E F w=>?_)
 unfold z184 at h
 refine wa J 10 (eCut (σ:=Unit) (fun st=>(zz12 m_ [])) (fun st=>z184_k1=some r) ?_ (fun j1=>?_))
 ·intro _ h
  replace h:z184_k1=some r:=h
  unfold z184_k1 at h
  cases h
  exact wr J 4 func184 []
 refine wa J 1 (eLoop (σ:=Int) (fun st=>(zz13 m_ [(1,.B 3 0),(3,.I st)])) (fun n st=>z184_l2 N m_ n st) (r:=r) (fun _=>rfl) ?_ (fun ih=>?_))
 ·intro n12 ih33
  intro c h
  replace h:z184_l2 N m_ (n12+1) c=some r:=h
  unfold z184_l2 at h
  obtain ⟨K,h⟩|⟨K,h⟩:=oc' h
  ·exact wH J 9 K (wa J 2 (eSub [] (j1 () h)))
  refine wH J 9 K ?_
  obtain ⟨d,e,h⟩:=ob h
  refine wa J 9 (eIx J oO9 e ?_)
  refine wa J 10 (eCut (σ:=Bool) (fun st=>⟨[(1,.B 3 0),(3,.I c),(4,.B 5 0),(40,.O st)],[(3,.box (cC8 0 1 2 m_) 31),(5,.box (cC9 d) 52)],(vV8 0 1 2 m_ []),6⟩) (fun st=>z184_k6 N m_ c (z184_l2 N m_ n12) d st=some r) ?_ (fun j54=>?_))
  ·intro f h
   replace h:z184_k6 N m_ c (z184_l2 N m_ n12) d f=some r:=h
   unfold z184_k6 at h
   obtain ⟨K,h⟩|⟨K,h⟩:=oc h
   ·refine eK K ?_
    cases h
    exact wr J 5 func184 []
   refine eK K (wa J 6 (eCut (σ:=Unit) (fun st=>⟨[(1,.B 3 0),(3,.I c)],[(3,.box (cC8 0 1 2 m_) 31)],(vV8 0 1 2 m_ []),6⟩) (fun st=>z184_k3 c (z184_l2 N m_ n12)=some r) ?_ (fun j55=>?_)))
   ·intro _ h
    replace h:z184_k3 c (z184_l2 N m_ n12)=some r:=h
    unfold z184_k3 at h
    exact wa J 6 (eSub [] (ih33 (w64 (c+1)) h))
   refine wa J 1 (eLoop (σ:=Int) (fun st=>⟨[(1,.B 3 0),(3,.I c),(4,.B 5 0),(5,.I st)],[(3,.box (cC8 0 1 2 m_) 31),(5,.box (cC9 d) 52)],(vV8 0 1 2 m_ []),6⟩) (fun n st=>z184_l4 m_ c (z184_l2 N m_ n12) d n st) (r:=r) (fun _=>rfl) ?_ (fun ih=>?_))
   ·intro n14 ih60
    intro g h
    replace h:z184_l4 m_ c (z184_l2 N m_ n12) d (n14+1) g=some r:=h
    unfold z184_l4 at h
    obtain ⟨K,h⟩|⟨K,h⟩:=oc' h
    ·exact wH J 9 K (wa J 2 (eSub [] (j55 () h)))
    refine wH J 9 K ?_
    obtain ⟨i,j,h⟩:=ob h
    refine wa J 9 (eIx J oO9 j ?_)
    refine wa J 11 (eCut (σ:=Bool) (fun st=>⟨[(1,.B 3 0),(3,.I c),(4,.B 5 0),(5,.I g),(6,.B 7 0),(87,.O st)],[(3,.box (cC8 0 1 2 m_) 31),(5,.box (cC9 d) 52),(7,.box (cC9 i) 52)],(vV8 0 1 2 m_ []),8⟩) (fun st=>z184_k5 d g (z184_l4 m_ c (z184_l2 N m_ n12) d n14) i st=some r) ?_ (fun j63=>?_))
    ·intro k h
     replace h:z184_k5 d g (z184_l4 m_ c (z184_l2 N m_ n12) d n14) i k=some r:=h
     unfold z184_k5 at h
     obtain ⟨K,h⟩|⟨K,h⟩:=oc h
     ·refine eK K ?_
      cases h
      exact wr J 5 func184 []
     refine eK K ?_
     obtain ⟨K,h⟩|⟨K,h⟩:=oc' h
     ·exact wH J 7 K (wa J 27 (eSub [] (ih60 (w64 (g+1)) h)))
     refine wH J 7 K ?_
     obtain ⟨K,h⟩|⟨K,h⟩:=oc' h
     ·exact wH J 7 K (wa J 20 (eSub [] (ih60 (w64 (g+1)) h)))
     refine wH J 7 K ?_
     obtain ⟨K,h⟩|⟨K,h⟩:=oc h
     ·refine wH J 4 K ?_
      cases h
      exact wr J 13 func184 []
     refine wH J 4 K ?_
     obtain ⟨K,h⟩|⟨K,h⟩:=oc h
     ·refine wH J 8 K ?_
      cases h
      exact wr J 5 func184 []
     exact wH J 8 K (wa J 8 (eSub [] (ih60 (w64 (g+1)) h)))
    obtain ⟨K,h⟩|⟨K,h⟩:=oc' h
    ·exact eK K (wa J 32 (eSub [] (j63 false h)))
    refine eK K ?_
    obtain ⟨K,h⟩|⟨K,h⟩:=oc' h
    ·exact wH J 7 K (wa J 25 (eSub [] (j63 false h)))
    refine wH J 7 K ?_
    obtain ⟨K,h⟩|⟨K,h⟩:=oc h
    ·exact wH J 6 K (wa J 19 (eSub [] (j63 true h)))
    refine wH J 6 K ?_
    obtain ⟨K,h⟩|⟨K,h⟩:=oc' h
    ·exact wH J 6 K (wa J 13 (eSub [] (j63 d.Again h)))
    refine wH J 6 K ?_
    obtain ⟨K,h⟩|⟨K,h⟩:=oc h
    ·exact wH J 8 K (wa J 5 (eSub [] (j63 true h)))
    exact wH J 8 K (wa J 5 (eSub [] (j63 d.Again h)))
   exact eSub [] (ih N 0 h)
  obtain ⟨K,h⟩|⟨K,h⟩:=oc' h
  ·exact eK K (wa J 20 (eSub [] (j54 false h)))
  refine eK K ?_
  obtain ⟨K,h⟩|⟨K,h⟩:=oc h
  ·exact wH J 4 K (wa J 16 (eSub [] (j54 true h)))
  refine wH J 4 K ?_
  obtain ⟨K,h⟩|⟨K,h⟩:=oc h
  ·exact wH J 7 K (wa J 9 (eSub [] (j54 true h)))
  refine wH J 7 K ?_
  obtain ⟨l,m,h⟩:=ob h
  exact wa J 4 (eIx J oB m (wa J 4 (eSub [] (j54 l h))))
 exact eSub [] (ih N 0 h)
theorem z185_ct (N:Nat) (m_:T8) (r:Bool) (h:z185 N m_=some r) :
 Fn Tryz.prog 185 ⟨3,[.a (cC8 0 1 2 m_)],(vV8 0 1 2 m_ []),[],3,.O r,[],[]⟩:=by
 refine eFn func185 rfl (fun E F w=>?_)
 unfold z185 at h
 refine wa J 10 (eCut (σ:=Unit) (fun st=>(zz12 m_ [])) (fun st=>z185_k1=some r) ?_ (fun j1=>?_))
 ·intro _ h
  replace h:z185_k1=some r:=h
  unfold z185_k1 at h
  cases h
  exact wr J 4 func185 []
 refine wa J 1 (eLoop (σ:=Int) (fun st=>(zz13 m_ [(1,.B 3 0),(3,.I st)])) (fun n st=>z185_l2 m_ n st) (r:=r) (fun _=>rfl) ?_ (fun ih=>?_))
 ·intro n2 ih6
  intro c h
  replace h:z185_l2 m_ (n2+1) c=some r:=h
  unfold z185_l2 at h
  obtain ⟨K,h⟩|⟨K,h⟩:=oc' h
  ·exact wH J 9 K (wa J 2 (eSub [] (j1 () h)))
  refine wH J 9 K ?_
  obtain ⟨d,e,h⟩:=ob h
  refine wa J 9 (eIx J oO11 e ?_)
  refine wa J 11 (eCut (σ:=Bool) (fun st=>⟨[(1,.B 3 0),(3,.I c),(4,.B 5 0),(54,.O st)],[(3,.box (cC8 0 1 2 m_) 31),(5,.box (cC11 d) 54)],(vV8 0 1 2 m_ []),6⟩) (fun st=>z185_k3 m_ c (z185_l2 m_ n2) d st=some r) ?_ (fun j9=>?_))
  ·intro f h
   replace h:z185_k3 m_ c (z185_l2 m_ n2) d f=some r:=h
   unfold z185_k3 at h
   obtain ⟨K,h⟩|⟨K,h⟩:=oc h
   ·refine eK K ?_
    cases h
    exact wr J 5 func185 []
   refine eK K ?_
   obtain ⟨g,i,h⟩:=ob h
   refine wa J 8 (eIx J oO9 i ?_)
   obtain ⟨K,h⟩|⟨K,h⟩:=oc h
   ·refine wH J 12 K ?_
    cases h
    exact wr J 14 func185 []
   refine wH J 12 K ?_
   obtain ⟨K,h⟩|⟨K,h⟩:=oc h
   ·refine wH J 5 K ?_
    cases h
    exact wr J 9 func185 []
   refine wH J 5 K ?_
   obtain ⟨K,h⟩|⟨K,h⟩:=oc h
   ·refine wH J 4 K ?_
    cases h
    exact wr J 5 func185 []
   exact wH J 4 K (wa J 8 (eSub [] (ih6 (w64 (c+1)) h)))
  obtain ⟨K,h⟩|⟨K,h⟩:=oc h
  ·exact eK K (wa J 33 (eEnd (eSub [] (j9 true h))))
  refine eK K ?_
  obtain ⟨K,h⟩|⟨K,h⟩:=oc h
  ·exact wH J 5 K (wa J 28 (eEnd (eSub [] (j9 true h))))
  refine wH J 5 K ?_
  obtain ⟨K,h⟩|⟨K,h⟩:=oc h
  ·exact wH J 5 K (wa J 23 (eEnd (eSub [] (j9 true h))))
  refine wH J 5 K ?_
  obtain ⟨K,h⟩|⟨K,h⟩:=oc h
  ·exact wH J 8 K (wa J 15 (eEnd (eSub [] (j9 true h))))
  refine wH J 8 K ?_
  obtain ⟨K,h⟩|⟨K,h⟩:=oc' h
  ·exact wH J 3 K (wa J 12 (eEnd (eSub [] (j9 false h))))
  refine wH J 3 K ?_
  obtain ⟨j,k,h⟩:=ob h
  exact wa J 6 (eIx J oO11 k (wa J 5 (eEnd (eSub [] (j9 (decide (d.State≤j.State)) h)))))
 exact eSub [] (ih N 0 h)
theorem z239_ct (N:Nat) (l_:(List Int)) (n_:Int) (r:Bool) (h:z239 N l_ n_=some r) :
 Fn Tryz.prog 239 ⟨1,[.S 0,.I n_],[(0,.sl (rI .i64) l_)],[],1,.O r,[],[]⟩:=by
 refine eFn func239 rfl (fun E F w=>?_)
 unfold z239 at h
 refine wa J 9 (eCut (σ:=Unit) (fun st=>(zz5 l_ [])) (fun st=>z239_k1=some r) ?_ (fun j1=>?_))
 ·intro _ h
  replace h:z239_k1=some r:=h
  unfold z239_k1 at h
  cases h
  exact wr J 4 func239 []
 refine wa J 1 (eLoop (σ:=Int) (fun st=>(zz5 l_ [(0,.S 0),(1,.I n_),(5,.I st)])) (fun n st=>z239_l2 l_ n_ n st) (r:=r) (fun _=>rfl) ?_ (fun ih=>?_))
 ·intro n2 ih3
  intro c h
  replace h:z239_l2 l_ n_ (n2+1) c=some r:=h
  unfold z239_l2 at h
  obtain ⟨K,h⟩|⟨K,h⟩:=oc' h
  ·exact wH J 8 K (wa J 2 (eSub [] (j1 () h)))
  refine wH J 8 K ?_
  obtain ⟨x9,d,h⟩:=ob h
  refine wa J 8 (eIx J (oI .i64) d ?_)
  obtain ⟨K,h⟩|⟨K,h⟩:=oc h
  ·refine wH J 4 K ?_
   cases h
   exact wr J 5 func239 []
  exact wH J 4 K (wa J 8 (eSub [] (ih3 (w64 (c+1)) h)))
 exact eSub [] (ih N 0 h)
theorem z240_ct (N:Nat) (l_:(List Int)) (n_:Int) (r:(List Int)) (h:z240 N l_ n_=some r) :
 Fn Tryz.prog 240 ⟨1,[.S 0,.I n_],[(0,.sl (rI .i64) l_)],[],2,.S 1,[],[(1,.own (rI .i64) r true)]⟩:=by
 refine eFn func240 rfl (fun E F w=>?_)
 unfold z240 at h
 refine wa J 17 (eCut (σ:=(List Int) × Bool) (fun st=>(zz19 st.1 l_ [(1,.I n_),(5,.S 1),(6,.O st.2)])) (fun st=>z240_k1 n_ st.1 st.2=some r) ?_ (fun j1=>?_))
 ·rintro ⟨c,d⟩ h
  replace h:z240_k1 n_ c d=some r:=h
  unfold z240_k1 at h
  obtain ⟨K,h⟩|⟨K,h⟩:=oc' h
  ·refine wH J 6 K ?_
   cases h
   exact wr J 7 func240 [(1,.sl 1)]
  refine wH J 6 K (wa J 4 (eBs J [] (oI .i64) ([n_]:List Int) ?_))
  obtain ⟨e,f,h⟩:=ob h
  refine eAp J (rI .i64) f ?_
  cases h
  exact wr J 7 func240 [(1,.sl 3)]
 refine wa J 1 (eLoop (σ:=(List Int) × Bool × Int) (fun st=>(zz19 st.1 l_ [(0,.S 0),(1,.I n_),(5,.S 1),(6,.O st.2.1),(7,.I st.2.2)])) (fun n st=>z240_l2 l_ n_ n st.1 st.2.1 st.2.2) (r:=r) (fun _=>rfl) ?_ (fun ih=>?_))
 ·intro n2 ih3
  rintro ⟨g,i,j⟩ h
  replace h:z240_l2 l_ n_ (n2+1) g i j=some r:=h
  unfold z240_l2 at h
  obtain ⟨K,h⟩|⟨K,h⟩:=oc' h
  ·exact wH J 8 K (wa J 2 (eSub [] (j1 (g,i) h)))
  refine wH J 8 K ?_
  obtain ⟨K,h⟩|⟨K,h⟩:=oc' h
  ·refine wH J 10 K ?_
   obtain ⟨k,l,h⟩:=ob h
   refine wa J 14 (eIx J (oI .i64) l (wa J 1 (eBs J [] (oI .i64) ([k]:List Int) ?_)))
   obtain ⟨m,o,h⟩:=ob h
   exact eAp J (rI .i64) o (wa J 8 (eSub [(1,.sl 4)] (ih3 (m,i,(w64 (j+1))) h)))
  refine wH J 10 K ?_
  obtain ⟨p,q,h⟩:=ob h
  refine wa J 2 (eIx J (oI .i64) q ?_)
  obtain ⟨K,h⟩|⟨K,h⟩:=oc' h
  ·refine wH J 5 K ?_
   obtain ⟨s,t,h⟩:=ob h
   refine wa J 6 (eIx J (oI .i64) t (wa J 1 (eBs J [] (oI .i64) ([s]:List Int) ?_)))
   obtain ⟨u,v,h⟩:=ob h
   exact eAp J (rI .i64) v (wa J 8 (eSub [(1,.sl 5)] (ih3 (u,i,(w64 (j+1))) h)))
  refine wH J 5 K ?_
  obtain ⟨x,y,h⟩:=ob h
  refine wa J 6 (eIx J (oI .i64) y ?_)
  obtain ⟨K,h⟩|⟨K,h⟩:=oc' h
  ·refine wH J 4 K ?_
   obtain ⟨z,A,h⟩:=ob h
   refine wa J 9 (eIx J (oI .i64) A (wa J 1 (eBs J [] (oI .i64) ([z]:List Int) ?_)))
   obtain ⟨C,D,h⟩:=ob h
   exact eAp J (rI .i64) D (wa J 8 (eSub [(1,.sl 6)] (ih3 (C,true,(w64 (j+1))) h)))
  refine wH J 4 K (wa J 4 (eBs J [] (oI .i64) ([n_]:List Int) ?_))
  obtain ⟨G,H,h⟩:=ob h
  refine eAp J (rI .i64) H ?_
  obtain ⟨R,T,h⟩:=ob h
  refine wa J 9 (eIx J (oI .i64) T (wa J 1 (eBs J [] (oI .i64) ([R]:List Int) ?_)))
  obtain ⟨U,X,h⟩:=ob h
  exact eAp J (rI .i64) X (wa J 8 (eSub [(1,.sl 8)] (ih3 (U,true,(w64 (j+1))) h)))
 exact eSub [(1,.nil)] (ih N (([]:List Int),false,0) h)
theorem z186_ct (N:Nat) (m_:T8) (r:(List Int)) (h:z186 N m_=some r) :
 Fn Tryz.prog 186 ⟨3,[.a (cC8 0 1 2 m_)],(vV8 0 1 2 m_ []),[],4,.S 3,[],[(3,.own (rI .i64) r true)]⟩:=by
 refine eFn func186 rfl (fun E F w=>?_)
 unfold z186 at h
 refine wa J 9 (eBs J [] (oI .i64) ([m_.Start]:List Int) (wa J 7 (eCut (σ:=(List Int)) (fun st=>⟨[(3,.S 5)],[(5,.own (rI .i64) st true)],(vV8 0 1 2 m_ []),6⟩) (fun st=>z186_k1 st=some r) ?_ (fun j1=>?_))))
 ·intro c h
  replace h:z186_k1 c=some r:=h
  unfold z186_k1 at h
  cases h
  exact wr J 5 func186 [(3,.sl 5)]
 refine wa J 1 (eLoop (σ:=(List Int) × Int) (fun st=>⟨[(1,.B 3 0),(3,.S 5),(4,.I st.2)],[(3,.box (cC8 0 1 2 m_) 31),(5,.own (rI .i64) st.1 true)],(vV8 0 1 2 m_ []),6⟩) (fun n st=>z186_l2 N m_ n st.1 st.2) (r:=r) (fun _=>rfl) ?_ (fun ih=>?_))
 ·intro n12 ih12
  rintro ⟨d,e⟩ h
  replace h:z186_l2 N m_ (n12+1) d e=some r:=h
  unfold z186_l2 at h
  obtain ⟨K,h⟩|⟨K,h⟩:=oc' h
  ·exact wH J 8 K (wa J 2 (eSub [] (j1 d h)))
  refine wH J 8 K (wa J 8 (eCut (σ:=(List Int)) (fun st=>⟨[(1,.B 3 0),(3,.S 6),(4,.I e)],[(3,.box (cC8 0 1 2 m_) 31),(6,.own (rI .i64) st true)],(vV8 0 1 2 m_ []),7⟩) (fun st=>z186_k3 e (z186_l2 N m_ n12) st=some r) ?_ (fun j19=>?_)))
  ·intro f h
   replace h:z186_k3 e (z186_l2 N m_ n12) f=some r:=h
   unfold z186_k3 at h
   exact wa J 6 (eSub [(5,.sl 6)] (ih12 (f,(w64 (e+1))) h))
  refine wa J 1 (eLoop (σ:=(List Int) × Int) (fun st=>⟨[(1,.B 3 0),(3,.S 6),(4,.I e),(5,.I st.2)],[(3,.box (cC8 0 1 2 m_) 31),(6,.own (rI .i64) st.1 true)],(vV8 0 1 2 m_ []),7⟩) (fun n st=>z186_l4 N m_ e (z186_l2 N m_ n12) n st.1 st.2) (r:=r) (fun _=>rfl) ?_ (fun ih=>?_))
  ·intro n14 ih21
   rintro ⟨g,i⟩ h
   replace h:z186_l4 N m_ e (z186_l2 N m_ n12) (n14+1) g i=some r:=h
   unfold z186_l4 at h
   obtain ⟨K,h⟩|⟨K,h⟩:=oc' h
   ·exact wH J 9 K (wa J 2 (eSub [] (j19 g h)))
   refine wH J 9 K ?_
   obtain ⟨j,k,h⟩:=ob h
   refine wa J 10 (eIx J oO9 k ?_)
   obtain ⟨l,m,h⟩:=ob h
   refine wa J 2 (eCb (z239_ct N g j.From _ m) [] [(0,.sl 6)] [6] (.inr ⟨rfl,trivial⟩) ?_)
   obtain ⟨K,h⟩|⟨K,h⟩:=oc' h
   ·exact wH J 1 K (wa J 8 (eSub [] (ih21 (g,(w64 (i+1))) h)))
   refine wH J 1 K ?_
   obtain ⟨o,p,h⟩:=ob h
   refine wa J 6 (eIx J oO9 p ?_)
   obtain ⟨q,s,h⟩:=ob h
   exact wa J 2 (eCb (z240_ct N g o.To _ s) [] [(0,.sl 6)] [6] (.inr ⟨rfl,⟨(rI_flat _),trivial⟩⟩) (wa J 8 (eSub [(6,.sl 9)] (ih21 (q,(w64 (i+1))) h))))
  exact eSub [(6,.sl 5)] (ih N (d,0) h)
 exact eSub [(5,.sl 4)] (ih N (([m_.Start]:List Int),0) h)
theorem z103_ct (N:Nat) (m_:T8) (r:Bool) (h:z103 N m_=some r) :
 Fn Tryz.prog 103 ⟨3,[.a (cC8 0 1 2 m_)],(vV8 0 1 2 m_ []),[],3,.O r,[],[]⟩:=by
 refine eFn func103 rfl (fun E F w=>?_)
 unfold z103 at h
 obtain ⟨x1,c,h⟩:=ob h
 refine wa J 8 (eCl (z183_ct N m_ _ c) [] [(0,.sl 0),(1,.sl 1),(2,.sl 2)] ?_)
 obtain ⟨K,h⟩|⟨K,h⟩:=oc' h
 ·refine wH J 1 K (wa J 16 (eEnd ?_))
  cases h
  exact eRet J func103 []
 refine wH J 1 K ?_
 obtain ⟨x2,d,h⟩:=ob h
 refine wa J 1 (eCl (z184_ct N m_ _ d) [] [(0,.sl 0),(1,.sl 1),(2,.sl 2)] ?_)
 obtain ⟨K,h⟩|⟨K,h⟩:=oc' h
 ·refine wH J 2 K (wa J 12 (eEnd ?_))
  cases h
  exact eRet J func103 []
 refine wH J 2 K ?_
 obtain ⟨x3,e,h⟩:=ob h
 refine wa J 1 (eCl (z185_ct N m_ _ e) [] [(0,.sl 0),(1,.sl 1),(2,.sl 2)] ?_)
 obtain ⟨K,h⟩|⟨K,h⟩:=oc' h
 ·refine wH J 2 K (wa J 8 (eEnd ?_))
  cases h
  exact eRet J func103 []
 refine wH J 2 K ?_
 obtain ⟨x4,f,h⟩:=ob h
 refine wa J 1 (eCl (z186_ct N m_ _ f) [] [(0,.sl 0),(1,.sl 1),(2,.sl 2)] (wa J 6 (eEnd ?_)))
 cases h
 exact eRet J func103 []
theorem z51_ct (N:Nat) (g_:T5) (m_:T8) (r:Bool) (h:z51 N g_ m_=some r) :
 Fn Tryz.prog 51 ⟨7,[.a (cC5 0 1 2 3 g_),.a (cC8 4 5 6 m_)],((0,.sl rS g_.Roles)::(1,.sl rR0 g_.Decls)::(2,.sl rR2 g_.Edges)::(3,.sl rR11 g_.Timeouts)::vV8 4 5 6 m_ []),[],7,.O r,[],[]⟩:=by
 refine eFn func51 rfl (fun E F w=>?_)
 unfold z51 at h
 obtain ⟨x1,c,h⟩:=ob h
 refine wa J 10 (eCl (z102_ct N g_ _ c) [] [(0,.sl 0),(1,.sl 1),(2,.sl 2),(3,.sl 3)] ?_)
 obtain ⟨K,h⟩|⟨K,h⟩:=oc h
 ·refine wH J 2 K ?_
  cases h
  exact wr J 18 func51 []
 refine wH J 2 K ?_
 obtain ⟨x2,d,h⟩:=ob h
 refine wa J 1 (eCl (z103_ct N m_ _ d) [] [(0,.sl 4),(1,.sl 5),(2,.sl 6)] ?_)
 obtain ⟨K,h⟩|⟨K,h⟩:=oc h
 ·refine wH J 3 K ?_
  cases h
  exact wr J 13 func51 []
 refine wH J 3 K ?_
 obtain ⟨K,h⟩|⟨K,h⟩:=oc h
 ·refine wH J 8 K ?_
  cases h
  exact wr J 5 func51 []
 refine wH J 8 K (wa J 7 (eCut (σ:=Unit) (fun st=>⟨[],[],((0,.sl rS g_.Roles)::(1,.sl rR0 g_.Decls)::(2,.sl rR2 g_.Edges)::(3,.sl rR11 g_.Timeouts)::vV8 4 5 6 m_ []),9⟩) (fun st=>z51_k1=some r) ?_ (fun j1=>?_)))
 ·intro _ h
  replace h:z51_k1=some r:=h
  unfold z51_k1 at h
  cases h
  exact wr J 4 func51 []
 refine wa J 1 (eLoop (σ:=Int) (fun st=>⟨[(2,.B 7 0),(3,.B 8 0),(5,.I st)],[(7,.box (cC5 0 1 2 3 g_) 27),(8,.box (cC8 4 5 6 m_) 31)],((0,.sl rS g_.Roles)::(1,.sl rR0 g_.Decls)::(2,.sl rR2 g_.Edges)::(3,.sl rR11 g_.Timeouts)::vV8 4 5 6 m_ []),9⟩) (fun n st=>z51_l2 g_ m_ n st) (r:=r) (fun _=>rfl) ?_ (fun ih=>?_))
 ·intro n2 ih3
  intro e h
  replace h:z51_l2 g_ m_ (n2+1) e=some r:=h
  unfold z51_l2 at h
  obtain ⟨K,h⟩|⟨K,h⟩:=oc' h
  ·exact wH J 9 K (wa J 2 (eSub [] (j1 () h)))
  refine wH J 9 K ?_
  obtain ⟨f,g,h⟩:=ob h
  refine wa J 9 (eIx J oO9 g ?_)
  obtain ⟨K,h⟩|⟨K,h⟩:=oc h
  ·refine wH J 7 K (wa J 11 (eEnd ?_))
   cases h
   exact wr J 5 func51 []
  refine wH J 7 K ?_
  obtain ⟨i,j,h⟩:=ob h
  refine wa J 3 (eIx J oO9 j (wa J 7 (eEnd ?_)))
  obtain ⟨K,h⟩|⟨K,h⟩:=oc h
  ·refine eK K ?_
   cases h
   exact wr J 5 func51 []
  exact eK K (wa J 8 (eSub [] (ih3 (w64 (e+1)) h)))
 exact eSub [] (ih N 0 h)
theorem z67_ct (N:Nat) (decls_:(List T0)) (r:(List T12)) (h:z67 N decls_=some r) :
 Fn Tryz.prog 67 ⟨1,[.S 0],[(0,.sl rR0 decls_)],[],2,.S 1,[],[(1,.own rR12 r true)]⟩:=by
 refine eFn func67 rfl (fun E F w=>?_)
 unfold z67 at h
 obtain ⟨x1,c,h⟩:=ob h
 refine wa J 7 (eCl (z78_ct N decls_ _ c) [] [(0,.sl 0)] ?_)
 obtain ⟨x2,d,h⟩:=ob h
 refine eMk J oO12 d ?_
 cases h
 exact wr J 2 func67 [(1,.sl 1)]
theorem z33_ct (N:Nat) (g_:T5) (m_:T8) (r:T16) (h:z33 N g_ m_=some r) :
 Fn Tryz.prog 33 ⟨7,[.a (cC5 0 1 2 3 g_),.a (cC8 4 5 6 m_)],((0,.sl rS g_.Roles)::(1,.sl rR0 g_.Decls)::(2,.sl rR2 g_.Edges)::(3,.sl rR11 g_.Timeouts)::vV8 4 5 6 m_ []),[],9,.a (cC16 7 8 r),(vV16 7 8 r []),[]⟩:=by
 refine eFn func33 rfl (fun E F w=>?_)
 unfold z33 at h
 obtain ⟨x1,c,h⟩:=ob h
 refine wa J 11 (eCl (z51_ct N g_ m_ _ c) [] [(0,.sl 0),(1,.sl 1),(2,.sl 2),(3,.sl 3),(4,.sl 4),(5,.sl 5),(6,.sl 6)] ?_)
 obtain ⟨K,h⟩|⟨K,h⟩:=oc h
 ·refine wH J 2 K ?_
  cases h
  exact wr J 6 func33 [(7,.nil),(8,.nil)]
 refine wH J 2 K ?_
 obtain ⟨x2,d,h⟩:=ob h
 refine wa J 8 (eCl (z67_ct N g_.Decls _ d) [] [(0,.sl 1)] (wa J 2 (eEnd (eFr [10] ?_))))
 cases h
 exact eRet J func33 [(7,.sl 10),(8,.nil)]
theorem z128_ct (N:Nat) (v_:T12) (r:Int) (h:z128 N v_=some r) :
 Fn Tryz.prog 128 ⟨0,[.a (cC12 v_)],[],[],0,.I r,[],[]⟩:=by
 refine eFn func128 rfl (fun E F w=>?_)
 unfold z128 at h
 obtain ⟨K,h⟩|⟨K,h⟩:=oc h
 ·refine wH J 12 K ?_
  cases h
  exact wr J 8 func128 []
 refine wH J 12 K ?_
 cases h
 exact wr J 8 func128 []
theorem z139_ct (N:Nat) (s_:T10) (v_:T12) (r:Bool) (h:z139 N s_ v_=some r) :
 Fn Tryz.prog 139 ⟨0,[.a (cC10 s_),.a (cC12 v_)],[],[],0,.O r,[],[]⟩:=by
 refine eFn func139 rfl (fun E F w=>?_)
 unfold z139 at h
 refine wa J 11 (eCut (σ:=Unit) (fun st=>(zz29 s_ v_ [(2,.B 0 0),(3,.B 1 0)])) (fun st=>z139_k2 N s_ v_=some r) ?_ (fun j1=>?_))
 ·intro _ h
  replace h:z139_k2 N s_ v_=some r:=h
  unfold z139_k2 at h
  refine wa J 7 (eCut (σ:=Bool) (fun st=>(zz29 s_ v_ [(2,.B 0 0),(3,.B 1 0),(42,.O st)])) (fun st=>z139_k1 N s_ v_ st=some r) ?_ (fun j3=>?_))
  ·intro c h
   replace h:z139_k1 N s_ v_ c=some r:=h
   unfold z139_k1 at h
   obtain ⟨K,h⟩|⟨K,h⟩:=oc h
   ·refine eK K ?_
    cases h
    exact wr J 5 func139 []
   refine eK K ?_
   obtain ⟨K,h⟩|⟨K,h⟩:=oc' h
   ·refine wH J 10 K (wa J 14 (eEnd ?_))
    cases h
    exact eRet J func139 []
   refine wH J 10 K ?_
   obtain ⟨x9,d,h⟩:=ob h
   refine wa J 1 (eCl (z128_ct N v_ _ d) [] [] ?_)
   obtain ⟨K,h⟩|⟨K,h⟩:=oc' h
   ·refine wH J 5 K (wa J 7 (eEnd ?_))
    cases h
    exact eRet J func139 []
   refine wH J 5 K ?_
   obtain ⟨e,f,h⟩:=ob h
   refine wa J 1 (eCl (z128_ct N v_ _ f) [] [] (wa J 5 (eEnd ?_)))
   cases h
   exact eRet J func139 []
  obtain ⟨K,h⟩|⟨K,h⟩:=oc' h
  ·refine eK K ?_
   obtain ⟨K,h⟩|⟨K,h⟩:=oc h
   ·exact wH J 9 K (wa J 6 (eSub [] (j3 (!(v_.S.toList==(str []).toList)) h)))
   exact wH J 9 K (wa J 6 (eSub [] (j3 false h)))
  refine eK K ?_
  obtain ⟨K,h⟩|⟨K,h⟩:=oc h
  ·exact wH J 5 K (wa J 10 (eSub [] (j3 true h)))
  refine wH J 5 K ?_
  obtain ⟨K,h⟩|⟨K,h⟩:=oc h
  ·exact wH J 4 K (wa J 6 (eSub [] (j3 (!(v_.S.toList==(str []).toList)) h)))
  exact wH J 4 K (wa J 6 (eSub [] (j3 false h)))
 refine wa J 1 (eLoop (σ:=Int) (fun st=>(zz29 s_ v_ [(2,.B 0 0),(3,.B 1 0),(5,.I st)])) (fun n st=>z139_l3 N s_ v_ n st) (r:=r) (fun _=>rfl) ?_ (fun ih=>?_))
 ·intro n2 ih4
  intro g h
  replace h:z139_l3 N s_ v_ (n2+1) g=some r:=h
  unfold z139_l3 at h
  obtain ⟨K,h⟩|⟨K,h⟩:=oc' h
  ·exact wH J 9 K (wa J 2 (eSub [] (j1 () h)))
  refine wH J 9 K ?_
  obtain ⟨i,j,h⟩:=ob h
  refine wa J 9 (eSx J j ?_)
  obtain ⟨K,h⟩|⟨K,h⟩:=oc h
  ·refine wH J 2 K ?_
   cases h
   exact wr J 12 func139 []
  refine wH J 2 K ?_
  obtain ⟨k,l,h⟩:=ob h
  refine wa J 3 (eSx J l ?_)
  obtain ⟨K,h⟩|⟨K,h⟩:=oc h
  ·refine wH J 3 K ?_
   cases h
   exact wr J 5 func139 []
  exact wH J 3 K (wa J 8 (eSub [] (ih4 (w64 (g+1)) h)))
 exact eSub [] (ih N 0 h)
theorem z66_ct (N:Nat) (decls_:(List T0)) (known_:(List T12)) (r:Bool) (h:z66 N decls_ known_=some r) :
 Fn Tryz.prog 66 ⟨2,[.S 0,.S 1],[(0,.sl rR0 decls_),(1,.sl rR12 known_)],[],2,.O r,[],[]⟩:=by
 refine eFn func66 rfl (fun E F w=>?_)
 unfold z66 at h
 obtain ⟨x1,c,h⟩:=ob h
 refine wa J 10 (eCl (z78_ct N decls_ _ c) [] [(0,.sl 0)] ?_)
 obtain ⟨K,h⟩|⟨K,h⟩:=oc h
 ·refine wH J 2 K ?_
  cases h
  exact wr J 5 func66 []
 refine wH J 2 K (wa J 7 (eCut (σ:=Unit) (fun st=>⟨[],[],[(0,.sl rR0 decls_),(1,.sl rR12 known_)],2⟩) (fun st=>z66_k1=some r) ?_ (fun j1=>?_)))
 ·intro _ h
  replace h:z66_k1=some r:=h
  unfold z66_k1 at h
  cases h
  exact wr J 4 func66 []
 refine wa J 1 (eLoop (σ:=Int) (fun st=>⟨[(0,.S 0),(1,.S 1),(5,.I st)],[],[(0,.sl rR0 decls_),(1,.sl rR12 known_)],2⟩) (fun n st=>z66_l2 N decls_ known_ n st) (r:=r) (fun _=>rfl) ?_ (fun ih=>?_))
 ·intro n2 ih3
  intro d h
  replace h:z66_l2 N decls_ known_ (n2+1) d=some r:=h
  unfold z66_l2 at h
  obtain ⟨K,h⟩|⟨K,h⟩:=oc' h
  ·exact wH J 8 K (wa J 2 (eSub [] (j1 () h)))
  refine wH J 8 K ?_
  obtain ⟨e,f,h⟩:=ob h
  refine wa J 8 (eIx J oO12 f (wa J 2 (eEq ?_)))
  obtain ⟨K,h⟩|⟨K,h⟩:=oc' h
  ·exact wH J 1 K (wa J 11 (eEnd (wa J 8 (eSub [] (ih3 (w64 (d+1)) h)))))
  refine wH J 1 K ?_
  obtain ⟨g,i,h⟩:=ob h
  refine wa J 2 (eCl (z140_ct N decls_ d _ i) [] [(0,.sl 0)] ?_)
  obtain ⟨j,k,h⟩:=ob h
  refine wa J 3 (eIx J oO12 k ?_)
  obtain ⟨l,m,h⟩:=ob h
  refine wa J 1 (eCl (z139_ct N g.Sort' j _ m) [] [] (wa J 2 (eEnd ?_)))
  obtain ⟨K,h⟩|⟨K,h⟩:=oc h
  ·refine eK K ?_
   cases h
   exact wr J 5 func66 []
  exact eK K (wa J 8 (eSub [] (ih3 (w64 (d+1)) h)))
 exact eSub [] (ih N 0 h)
theorem z32_ct (N:Nat) (g_:T5) (m_:T8) (s_:T16) (r:Bool) (h:z32 N g_ m_ s_=some r) :
 Fn Tryz.prog 32 ⟨9,[.a (cC5 0 1 2 3 g_),.a (cC8 4 5 6 m_),.a (cC16 7 8 s_)],((0,.sl rS g_.Roles)::(1,.sl rR0 g_.Decls)::(2,.sl rR2 g_.Edges)::(3,.sl rR11 g_.Timeouts)::(4,.sl rB m_.Finals)::(5,.sl rR9 m_.Moves)::(6,.sl rR11 m_.Timeouts)::vV16 7 8 s_ []),[],9,.O r,[],[]⟩:=by
 refine eFn func32 rfl (fun E F w=>?_)
 unfold z32 at h
 obtain ⟨x1,c,h⟩:=ob h
 refine wa J 11 (eCl (z51_ct N g_ m_ _ c) [] [(0,.sl 0),(1,.sl 1),(2,.sl 2),(3,.sl 3),(4,.sl 4),(5,.sl 5),(6,.sl 6)] ?_)
 obtain ⟨K,h⟩|⟨K,h⟩:=oc' h
 ·refine wH J 1 K ?_
  cases h
  exact wr J 20 func32 []
 refine wH J 1 K ?_
 obtain ⟨K,h⟩|⟨K,h⟩:=oc' h
 ·refine wH J 5 K ?_
  cases h
  exact wr J 15 func32 []
 refine wH J 5 K ?_
 obtain ⟨K,h⟩|⟨K,h⟩:=oc' h
 ·refine wH J 7 K ?_
  cases h
  exact wr J 8 func32 []
 refine wH J 7 K ?_
 obtain ⟨x2,d,h⟩:=ob h
 refine wa J 4 (eCl (z66_ct N g_.Decls s_.Known _ d) [] [(0,.sl 1),(1,.sl 7)] ?_)
 cases h
 exact wr J 3 func32 []
theorem z68_ct (N:Nat) (m_:T8) (state_:Int) (r:Bool) (h:z68 N m_ state_=some r) :
 Fn Tryz.prog 68 ⟨3,[.a (cC8 0 1 2 m_),.I state_],(vV8 0 1 2 m_ []),[],3,.O r,[],[]⟩:=by
 refine eFn func68 rfl (fun E F w=>?_)
 unfold z68 at h
 obtain ⟨x1,c,h⟩:=ob h
 refine wa J 8 (eCl (z103_ct N m_ _ c) [] [(0,.sl 0),(1,.sl 1),(2,.sl 2)] ?_)
 obtain ⟨K,h⟩|⟨K,h⟩:=oc' h
 ·refine wH J 1 K ?_
  cases h
  exact wr J 11 func68 []
 refine wH J 1 K ?_
 obtain ⟨K,h⟩|⟨K,h⟩:=oc h
 ·refine wH J 4 K ?_
  cases h
  exact wr J 7 func68 []
 refine wH J 4 K ?_
 cases h
 exact wr J 7 func68 []
theorem z141_ct (N:Nat) (x_:T9) (y_:T9) (r:Bool) (h:z141 N x_ y_=some r) :
 Fn Tryz.prog 141 ⟨0,[.a (cC9 x_),.a (cC9 y_)],[],[],0,.O r,[],[]⟩:=by
 refine eFn func141 rfl (fun E F w=>?_)
 unfold z141 at h
 obtain ⟨K,h⟩|⟨K,h⟩:=oc h
 ·refine wH J 15 K ?_
  cases h
  exact wr J 7 func141 []
 refine wH J 15 K ?_
 obtain ⟨K,h⟩|⟨K,h⟩:=oc h
 ·refine wH J 11 K ?_
  cases h
  exact wr J 10 func141 []
 refine wH J 11 K ?_
 cases h
 exact wr J 11 func141 []
theorem z69_ct (N:Nat) (m_:T8) (state_:Int) (r:(List Int)) (h:z69 N m_ state_=some r) :
 Fn Tryz.prog 69 ⟨3,[.a (cC8 0 1 2 m_),.I state_],(vV8 0 1 2 m_ []),[],4,.S 3,[],[(3,.own (rI .i64) r true)]⟩:=by
 refine eFn func69 rfl (fun E F w=>?_)
 unfold z69 at h
 refine wa J 14 (eCut (σ:=(List Int)) (fun st=>⟨[(5,.S 4)],[(4,.own (rI .i64) st true)],(vV8 0 1 2 m_ []),5⟩) (fun st=>z69_k1 st=some r) ?_ (fun j1=>?_))
 ·intro c h
  replace h:z69_k1 c=some r:=h
  unfold z69_k1 at h
  cases h
  exact wr J 5 func69 [(3,.sl 4)]
 refine wa J 1 (eLoop (σ:=(List Int) × Int) (fun st=>⟨[(1,.I state_),(2,.B 3 0),(5,.S 4),(6,.I st.2)],[(3,.box (cC8 0 1 2 m_) 31),(4,.own (rI .i64) st.1 true)],(vV8 0 1 2 m_ []),5⟩) (fun n st=>z69_l2 N m_ state_ n st.1 st.2) (r:=r) (fun _=>rfl) ?_ (fun ih=>?_))
 ·intro n12 ih12
  rintro ⟨d,e⟩ h
  replace h:z69_l2 N m_ state_ (n12+1) d e=some r:=h
  unfold z69_l2 at h
  obtain ⟨K,h⟩|⟨K,h⟩:=oc' h
  ·exact wH J 9 K (wa J 2 (eSub [] (j1 d h)))
  refine wH J 9 K ?_
  obtain ⟨f,g,h⟩:=ob h
  refine wa J 10 (eIx J oO9 g ?_)
  obtain ⟨K,h⟩|⟨K,h⟩:=oc h
  ·exact wH J 5 K (wa J 7 (eSub [] (ih12 (d,(w64 (e+1))) h)))
  refine wH J 5 K (wa J 7 (eCut (σ:=Int) (fun st=>⟨[(1,.I state_),(2,.B 3 0),(5,.S 4),(6,.I e),(7,.I st)],[(3,.box (cC8 0 1 2 m_) 31),(4,.own (rI .i64) d true)],(vV8 0 1 2 m_ []),6⟩) (fun st=>z69_k3 d e (z69_l2 N m_ state_ n12) st=some r) ?_ (fun j19=>?_)))
  ·intro i h
   replace h:z69_k3 d e (z69_l2 N m_ state_ n12) i=some r:=h
   unfold z69_k3 at h
   refine wa J 1 (eBs J [] (oI .i64) ([]:List Int) ?_)
   obtain ⟨j,k,h⟩:=ob h
   refine wa J 2 (eVw J (rI .i64) k ?_)
   obtain ⟨l,m,h⟩:=ob h
   refine eAv J (rI .i64) k m (wa J 1 (eBs J [] (oI .i64) ([e]:List Int) ?_))
   obtain ⟨o,p,h⟩:=ob h
   refine eAp J (rI .i64) p ?_
   obtain ⟨q,s,h⟩:=ob h
   refine wa J 2 (eVw J (rI .i64) s ?_)
   obtain ⟨t,u,h⟩:=ob h
   exact eAv J (rI .i64) s u (wa J 1 (eEnd (wa J 6 (eSub [(4,.sl 12)] (ih12 (t,(w64 (e+1))) h)))))
  refine wa J 1 (eLoop (σ:=Int) (fun st=>⟨[(1,.I state_),(2,.B 3 0),(5,.S 4),(6,.I e),(7,.I st)],[(3,.box (cC8 0 1 2 m_) 31),(4,.own (rI .i64) d true)],(vV8 0 1 2 m_ []),6⟩) (fun n st=>z69_l4 N m_ d e (z69_l2 N m_ state_ n12) n st) (r:=r) (fun _=>rfl) ?_ (fun ih=>?_))
  ·intro n14 ih21
   intro v h
   replace h:z69_l4 N m_ d e (z69_l2 N m_ state_ n12) (n14+1) v=some r:=h
   unfold z69_l4 at h
   obtain ⟨K,h⟩|⟨K,h⟩:=oc' h
   ·exact wH J 8 K (wa J 16 (eEnd (wa J 2 (eSub [] (j19 v h)))))
   refine wH J 8 K ?_
   obtain ⟨x,y,h⟩:=ob h
   refine wa J 3 (eIx J oO9 y ?_)
   obtain ⟨z,A,h⟩:=ob h
   refine wa J 5 (eIo J (rI .i64) A (eLd J (oI .i64) A ?_))
   obtain ⟨C,D,h⟩:=ob h
   refine eIx J oO9 D ?_
   obtain ⟨G,H,h⟩:=ob h
   refine wa J 1 (eCl (z141_ct N x C _ H) [] [] (wa J 2 (eEnd ?_)))
   obtain ⟨K,h⟩|⟨K,h⟩:=oc h
   ·exact eK K (wa J 9 (eSub [] (ih21 (w64 (v+1)) h)))
   exact eK K (wa J 2 (eSub [] (j19 v h)))
  exact eSub [] (ih N 0 h)
 exact eSub [(4,.nil)] (ih N (([]:List Int),0) h)
theorem z34_ct (N:Nat) (m_:T8) (state_:Int) (r:(List Int)) (h:z34 N m_ state_=some r) :
 Fn Tryz.prog 34 ⟨3,[.a (cC8 0 1 2 m_),.I state_],(vV8 0 1 2 m_ []),[],4,.S 3,[],[(3,.own (rI .i64) r true)]⟩:=by
 refine eFn func34 rfl (fun E F w=>?_)
 unfold z34 at h
 obtain ⟨x1,c,h⟩:=ob h
 refine wa J 10 (eCl (z68_ct N m_ state_ _ c) [] [(0,.sl 0),(1,.sl 1),(2,.sl 2)] ?_)
 obtain ⟨K,h⟩|⟨K,h⟩:=oc h
 ·refine wH J 2 K ?_
  cases h
  exact wr J 5 func34 [(3,.nil)]
 refine wH J 2 K ?_
 obtain ⟨x2,d,h⟩:=ob h
 refine wa J 6 (eCl (z69_ct N m_ state_ _ d) [] [(0,.sl 0),(1,.sl 1),(2,.sl 2)] ?_)
 cases h
 exact wr J 2 func34 [(3,.sl 4)]
theorem z36_b_ct (N:Nat) (rc:Int→Option ByteArray) (rc_ref09_Digits_ct:(∀ (n_:Int) (r:ByteArray),rc n_=some r→Fn Tryz.prog 36 ⟨0,[.I n_],[],[],0,.c (.s r),[],[]⟩)) (n_:Int) (r:ByteArray) (h:z36_b N rc n_=some r) :
 Fn Tryz.prog 36 ⟨0,[.I n_],[],[],0,.c (.s r),[],[]⟩:=by
 refine eFn func36 rfl (fun E F w=>?_)
 unfold z36_b at h
 obtain ⟨K,h⟩|⟨K,h⟩:=oc h
 ·refine wH J 12 K ?_
  obtain ⟨x1,d,h⟩:=ob h
  refine wa J 5 (eCl (rc_ref09_Digits_ct (w64 (n_.tdiv 10)) _ d) [] [] (wa J 4 (eCr ?_)))
  obtain ⟨x2,e,h⟩:=ob h
  refine eCa e ?_
  cases h
  exact wr J 2 func36 []
 refine wH J 12 K ?_
 obtain ⟨K,h⟩|⟨K,h⟩:=oc h
 ·refine wH J 7 K (wa J 6 (eCr ?_))
  obtain ⟨x3,f,h⟩:=ob h
  refine eCa f ?_
  cases h
  exact wr J 2 func36 []
 refine wH J 7 K ?_
 obtain ⟨K,h⟩|⟨K,h⟩:=oc h
 ·refine wH J 7 K (wa J 6 (eCr ?_))
  cases h
  exact wr J 2 func36 []
 refine wH J 7 K ?_
 obtain ⟨x4,g,h⟩:=ob h
 refine wa J 7 (eCl (rc_ref09_Digits_ct (w64 (n_.tdiv 10)) _ g) [] [] (wa J 4 (eCr ?_)))
 obtain ⟨x5,i,h⟩:=ob h
 refine eCa i ?_
 cases h
 exact wr J 2 func36 []
theorem z36_rct:∀ (N:Nat) (n_:Int) (r:ByteArray) (h:z36_r N n_=some r),Fn Tryz.prog 36 ⟨0,[.I n_],[],[],0,.c (.s r),[],[]⟩:=by
 intro N
 induction N with
 | zero=>intros;rename_i h;cases h
 | succ N ih=>intro n_ r h;exact z36_b_ct N (z36_r N) ih n_ r h
theorem z36_ct (N:Nat) (n_:Int) (r:ByteArray) (h:z36 N n_=some r):Fn Tryz.prog 36 ⟨0,[.I n_],[],[],0,.c (.s r),[],[]⟩:=z36_rct N n_ r h
theorem z42_ct (N:Nat) (d_:T0) (r:Int) (h:z42 N d_=some r) :
 Fn Tryz.prog 42 ⟨3,[.a (cC0 0 1 2 d_)],(vV0 0 1 2 d_ []),[],3,.I r,[],[]⟩:=by
 refine eFn func42 rfl (fun E F w=>?_)
 unfold z42 at h
 cases h
 exact wr J 18 func42 []
theorem z83_ct (N:Nat) (decls_:(List T0)) (x_:Int) (r:ByteArray × Bool) (h:z83 N decls_ x_=some r) :
 Fn Tryz.prog 83 ⟨1,[.S 0,.I x_],[(0,.sl rR0 decls_)],[],1,.t [.inl (.s r.1),.inl (.b r.2)],[],[]⟩:=by
 refine eFn func83 rfl (fun E F w=>?_)
 unfold z83 at h
 refine wa J 10 (eCut (σ:=Unit) (fun st=>(zz4 decls_ [])) (fun st=>z83_k1=some r) ?_ (fun j1=>?_))
 ·intro _ h
  replace h:z83_k1=some r:=h
  unfold z83_k1 at h
  cases h
  exact wr J 5 func83 []
 refine wa J 1 (eLoop (σ:=Int) (fun st=>(zz4 decls_ [(0,.S 0),(1,.I x_),(6,.I st)])) (fun n st=>z83_l2 decls_ x_ n st) (r:=r) (fun _=>rfl) ?_ (fun ih=>?_))
 ·intro n2 ih3
  intro c h
  replace h:z83_l2 decls_ x_ (n2+1) c=some r:=h
  unfold z83_l2 at h
  obtain ⟨K,h⟩|⟨K,h⟩:=oc' h
  ·exact wH J 8 K (wa J 2 (eSub [] (j1 () h)))
  refine wH J 8 K ?_
  obtain ⟨d,e,h⟩:=ob h
  refine wa J 8 (eIx J oO0 e ?_)
  obtain ⟨K,h⟩|⟨K,h⟩:=oc' h
  ·exact wH J 11 K (wa J 18 (eSub [] (ih3 (w64 (c+1)) h)))
  refine wH J 11 K ?_
  obtain ⟨K,h⟩|⟨K,h⟩:=oc' h
  ·exact wH J 10 K (wa J 8 (eSub [] (ih3 (w64 (c+1)) h)))
  refine wH J 10 K ?_
  obtain ⟨f,g,h⟩:=ob h
  refine wa J 9 (eIx J oO4 g ?_)
  obtain ⟨i,j,h⟩:=ob h
  refine wa J 8 (eCa j ?_)
  obtain ⟨k,l,h⟩:=ob h
  refine wa J 2 (eCa l (wa J 6 (eEnd ?_)))
  cases h
  exact eRet J func83 []
 exact eSub [] (ih N 0 h)
theorem z84_ct (N:Nat) (decls_:(List T0)) (x_:Int) (r:ByteArray) (h:z84 N decls_ x_=some r) :
 Fn Tryz.prog 84 ⟨1,[.S 0,.I x_],[(0,.sl rR0 decls_)],[],1,.c (.s r),[],[]⟩:=by
 refine eFn func84 rfl (fun E F w=>?_)
 unfold z84 at h
 obtain ⟨x1,d,h⟩:=ob h
 refine wa J 8 (eCl (z83_ct N decls_ x_ _ d) [] [(0,.sl 0)] ?_)
 obtain ⟨K,h⟩|⟨K,h⟩:=oc' h
 ·refine wH J 11 K ?_
  cases h
  exact wr J 7 func84 []
 refine wH J 11 K ?_
 obtain ⟨x2,e,h⟩:=ob h
 refine wa J 4 (eCa e ?_)
 obtain ⟨x3,f,h⟩:=ob h
 refine eCa f ?_
 cases h
 exact wr J 2 func84 []
theorem z43_ct (N:Nat) (decls_:(List T0)) (at_:Int) (part_:Int) (r:ByteArray) (h:z43 N decls_ at_ part_=some r) :
 Fn Tryz.prog 43 ⟨1,[.S 0,.I at_,.I part_],[(0,.sl rR0 decls_)],[],1,.c (.s r),[],[]⟩:=by
 refine eFn func43 rfl (fun E F w=>?_)
 unfold z43 at h
 obtain ⟨x1,d,h⟩:=ob h
 refine wa J 8 (eCl (z41_ct N decls_ _ d) [] [(0,.sl 0)] ?_)
 obtain ⟨K,h⟩|⟨K,h⟩:=oc h
 ·refine wH J 2 K ?_
  cases h
  exact wr J 28 func43 []
 refine wH J 2 K ?_
 obtain ⟨K,h⟩|⟨K,h⟩:=oc h
 ·refine wH J 4 K ?_
  cases h
  exact wr J 24 func43 []
 refine wH J 4 K ?_
 obtain ⟨K,h⟩|⟨K,h⟩:=oc h
 ·refine wH J 6 K ?_
  cases h
  exact wr J 18 func43 []
 refine wH J 6 K ?_
 obtain ⟨K,h⟩|⟨K,h⟩:=oc h
 ·refine wH J 4 K ?_
  cases h
  exact wr J 14 func43 []
 refine wH J 4 K ?_
 obtain ⟨x2,e,h⟩:=ob h
 refine wa J 3 (eIx J oO0 e ?_)
 obtain ⟨x3,f,h⟩:=ob h
 refine wa J 1 (eCl (z42_ct N x2 _ f) [] [(0,.sl 2),(1,.sl 3),(2,.sl 4)] ?_)
 obtain ⟨K,h⟩|⟨K,h⟩:=oc h
 ·refine wH J 3 K ?_
  cases h
  exact wr J 5 func43 []
 refine wH J 3 K ?_
 obtain ⟨x4,g,h⟩:=ob h
 refine wa J 7 (eIx J oO0 g ?_)
 obtain ⟨K,h⟩|⟨K,h⟩:=oc h
 ·refine wH J 12 K ?_
  obtain ⟨x5,i,h⟩:=ob h
  refine wa J 5 (eIx J oO0 i ?_)
  obtain ⟨x6,j,h⟩:=ob h
  refine wa J 6 (eIx J (oP (oI .i64) (oI .i64)) j (wa J 7 (eAb 0 rfl ?_)))
  obtain ⟨x7,k,h⟩:=ob h
  refine wa J 1 (eCl (z83_ct N decls_ x6.1 _ k) [] [(0,.sl 0)] (wa J 9 (eAb 1 rfl ?_)))
  obtain ⟨x8,l,h⟩:=ob h
  refine wa J 1 (eCl (z83_ct N decls_ x6.2 _ l) [] [(0,.sl 0)] ?_)
  obtain ⟨x9,m,h⟩:=ob h
  refine wa J 9 (eCa m ?_)
  obtain ⟨o,p,h⟩:=ob h
  refine wa J 1 (eCa p ?_)
  cases h
  exact wr J 2 func43 []
 refine wH J 12 K ?_
 obtain ⟨q,t,h⟩:=ob h
 refine wa J 6 (eIx J oO0 t ?_)
 obtain ⟨u,v,h⟩:=ob h
 refine wa J 4 (eIx J oO1 v ?_)
 obtain ⟨K,h⟩|⟨K,h⟩:=oc' h
 ·refine wH J 12 K ?_
  obtain ⟨K,h⟩|⟨K,h⟩:=oc h
  ·refine wH J 14 K ?_
   obtain ⟨x,y,h⟩:=ob h
   refine wa J 6 (eCl (z84_ct N decls_ u.X _ y) [] [(0,.sl 0)] ?_)
   obtain ⟨z,A,h⟩:=ob h
   refine eCa A ?_
   obtain ⟨D,G,h⟩:=ob h
   refine wa J 2 (eCl (z36_ct N u.C _ G) [] [] ?_)
   obtain ⟨H,R,h⟩:=ob h
   refine eCa R (wa J 1 (eEnd ?_))
   cases h
   exact eRet J func43 []
  refine wH J 14 K ?_
  obtain ⟨K,h⟩|⟨K,h⟩:=oc h
  ·refine wH J 8 K ?_
   obtain ⟨T,U,h⟩:=ob h
   refine wa J 6 (eCl (z84_ct N decls_ u.Y _ U) [] [(0,.sl 0)] ?_)
   obtain ⟨Z,a0,h⟩:=ob h
   refine eCa a0 ?_
   obtain ⟨b0,c0,h⟩:=ob h
   refine wa J 3 (eCl (z36_ct N (w64 (0-u.C)) _ c0) [] [] ?_)
   obtain ⟨d0,e0,h⟩:=ob h
   refine eCa e0 (wa J 1 (eEnd ?_))
   cases h
   exact eRet J func43 []
  refine wH J 8 K ?_
  obtain ⟨f0,g0,h⟩:=ob h
  refine wa J 8 (eCl (z84_ct N decls_ u.X _ g0) [] [(0,.sl 0)] ?_)
  obtain ⟨i0,j0,h⟩:=ob h
  refine eCa j0 ?_
  obtain ⟨k0,l0,h⟩:=ob h
  refine wa J 3 (eCl (z84_ct N decls_ u.Y _ l0) [] [(0,.sl 0)] ?_)
  obtain ⟨m0,o0,h⟩:=ob h
  refine eCa o0 (wa J 1 (eEnd ?_))
  obtain ⟨K,h⟩|⟨K,h⟩:=oc h
  ·refine wH J 9 K ?_
   obtain ⟨p0,q0,h⟩:=ob h
   refine wa J 4 (eCa q0 ?_)
   obtain ⟨s0,t0,h⟩:=ob h
   refine wa J 2 (eCl (z36_ct N u.C _ t0) [] [] ?_)
   obtain ⟨u0,v0,h⟩:=ob h
   refine eCa v0 ?_
   cases h
   exact wr J 2 func43 []
  refine wH J 9 K ?_
  obtain ⟨K,h⟩|⟨K,h⟩:=oc' h
  ·refine wH J 8 K ?_
   cases h
   exact wr J 8 func43 []
  refine wH J 8 K ?_
  obtain ⟨x0,y0,h⟩:=ob h
  refine wa J 4 (eCa y0 ?_)
  obtain ⟨z0,A0,h⟩:=ob h
  refine wa J 3 (eCl (z36_ct N (w64 (0-u.C)) _ A0) [] [] ?_)
  obtain ⟨B0,C0,h⟩:=ob h
  refine eCa C0 ?_
  cases h
  exact wr J 2 func43 []
 refine wH J 12 K ?_
 obtain ⟨K,h⟩|⟨K,h⟩:=oc h
 ·refine wH J 6 K ?_
  obtain ⟨D0,G0,h⟩:=ob h
  refine wa J 5 (eCl (z36_ct N u.C _ G0) [] [] ?_)
  obtain ⟨H0,I0,h⟩:=ob h
  refine eCa I0 ?_
  cases h
  exact wr J 2 func43 []
 refine wH J 6 K ?_
 obtain ⟨K,h⟩|⟨K,h⟩:=oc h
 ·refine wH J 8 K ?_
  obtain ⟨L0,M0,h⟩:=ob h
  refine wa J 6 (eCl (z84_ct N decls_ u.X _ M0) [] [(0,.sl 0)] ?_)
  obtain ⟨O0,R0,h⟩:=ob h
  refine eCa R0 ?_
  obtain ⟨S0,T0,h⟩:=ob h
  refine wa J 2 (eCl (z36_ct N u.C _ T0) [] [] ?_)
  obtain ⟨U0,V0,h⟩:=ob h
  refine eCa V0 (wa J 1 (eEnd ?_))
  cases h
  exact eRet J func43 []
 refine wH J 8 K ?_
 obtain ⟨K,h⟩|⟨K,h⟩:=oc h
 ·refine wH J 8 K ?_
  obtain ⟨X0,Y0,h⟩:=ob h
  refine wa J 6 (eCl (z84_ct N decls_ u.Y _ Y0) [] [(0,.sl 0)] ?_)
  obtain ⟨Z0,a1,h⟩:=ob h
  refine eCa a1 ?_
  obtain ⟨b1,c1,h⟩:=ob h
  refine wa J 3 (eCl (z36_ct N (w64 (0-u.C)) _ c1) [] [] ?_)
  obtain ⟨d1,e1,h⟩:=ob h
  refine eCa e1 (wa J 1 (eEnd ?_))
  cases h
  exact eRet J func43 []
 refine wH J 8 K ?_
 obtain ⟨f1,g1,h⟩:=ob h
 refine wa J 8 (eCl (z84_ct N decls_ u.X _ g1) [] [(0,.sl 0)] ?_)
 obtain ⟨i1,j1,h⟩:=ob h
 refine eCa j1 ?_
 obtain ⟨k1,l1,h⟩:=ob h
 refine wa J 3 (eCl (z84_ct N decls_ u.Y _ l1) [] [(0,.sl 0)] ?_)
 obtain ⟨m1,o1,h⟩:=ob h
 refine eCa o1 (wa J 1 (eEnd ?_))
 obtain ⟨K,h⟩|⟨K,h⟩:=oc h
 ·refine wH J 9 K ?_
  obtain ⟨p1,q1,h⟩:=ob h
  refine wa J 4 (eCa q1 ?_)
  obtain ⟨s1,t1,h⟩:=ob h
  refine wa J 2 (eCl (z36_ct N u.C _ t1) [] [] ?_)
  obtain ⟨u1,v1,h⟩:=ob h
  refine eCa v1 ?_
  cases h
  exact wr J 2 func43 []
 refine wH J 9 K ?_
 obtain ⟨K,h⟩|⟨K,h⟩:=oc' h
 ·refine wH J 8 K ?_
  cases h
  exact wr J 8 func43 []
 refine wH J 8 K ?_
 obtain ⟨y1,z1,h⟩:=ob h
 refine wa J 4 (eCa z1 ?_)
 obtain ⟨A1,B1,h⟩:=ob h
 refine wa J 3 (eCl (z36_ct N (w64 (0-u.C)) _ B1) [] [] ?_)
 obtain ⟨C1,D1,h⟩:=ob h
 refine eCa D1 ?_
 cases h
 exact wr J 2 func43 []
theorem z14_ct (N:Nat) (decls_:(List T0)) (label_:Int) (r:ByteArray) (h:z14 N decls_ label_=some r) :
 Fn Tryz.prog 14 ⟨1,[.S 0,.I label_],[(0,.sl rR0 decls_)],[],1,.c (.s r),[],[]⟩:=by
 refine eFn func14 rfl (fun E F w=>?_)
 unfold z14 at h
 obtain ⟨x1,d,h⟩:=ob h
 refine wa J 8 (eCl (z41_ct N decls_ _ d) [] [(0,.sl 0)] ?_)
 obtain ⟨K,h⟩|⟨K,h⟩:=oc h
 ·refine wH J 2 K ?_
  cases h
  exact wr J 15 func14 []
 refine wH J 2 K ?_
 obtain ⟨K,h⟩|⟨K,h⟩:=oc h
 ·refine wH J 4 K ?_
  cases h
  exact wr J 11 func14 []
 refine wH J 4 K ?_
 obtain ⟨K,h⟩|⟨K,h⟩:=oc h
 ·refine wH J 6 K ?_
  cases h
  exact wr J 5 func14 []
 refine wH J 6 K ?_
 obtain ⟨x2,e,h⟩:=ob h
 refine wa J 6 (eIx J oO0 e ?_)
 obtain ⟨x3,f,h⟩:=ob h
 refine wa J 8 (eCa f (wa J 7 (eCut (σ:=ByteArray) (fun st=>(zz6 x2 decls_ [(0,.S 0),(1,.I label_),(5,.B 5 0),(6,.c (.s st))])) (fun st=>z14_k3 N decls_ label_ x2 st=some r) ?_ (fun j1=>?_))))
 ·intro g h
  replace h:z14_k3 N decls_ label_ x2 g=some r:=h
  unfold z14_k3 at h
  obtain ⟨i,j,h⟩:=ob h
  refine wa J 3 (eCa j (wa J 7 (eCut (σ:=ByteArray) (fun st=>⟨[(6,.c (.s st))],[],[(0,.sl rR0 decls_)],6⟩) (fun st=>z14_k1 st=some r) ?_ (fun j9=>?_))))
  ·intro k h
   replace h:z14_k1 k=some r:=h
   unfold z14_k1 at h
   cases h
   exact wr J 5 func14 []
  refine wa J 1 (eLoop (σ:=ByteArray × Int) (fun st=>(zz6 x2 decls_ [(0,.S 0),(1,.I label_),(5,.B 5 0),(6,.c (.s st.1)),(9,.I st.2)])) (fun n st=>z14_l2 N decls_ label_ x2 n st.1 st.2) (r:=r) (fun _=>rfl) ?_ (fun ih=>?_))
  ·intro n3 ih11
   rintro ⟨l,m⟩ h
   replace h:z14_l2 N decls_ label_ x2 (n3+1) l m=some r:=h
   unfold z14_l2 at h
   obtain ⟨o,p,h⟩:=ob h
   refine wa J 5 (eCl (z42_ct N x2 _ p) [] [(0,.sl 2),(1,.sl 3),(2,.sl 4)] ?_)
   obtain ⟨K,h⟩|⟨K,h⟩:=oc' h
   ·exact wH J 2 K (wa J 2 (eSub [] (j9 l h)))
   refine wH J 2 K ?_
   obtain ⟨K,h⟩|⟨K,h⟩:=oc h
   ·refine wH J 10 K ?_
    obtain ⟨q,t,h⟩:=ob h
    refine wa J 3 (eCa t ?_)
    obtain ⟨u,v,h⟩:=ob h
    refine wa J 7 (eCl (z43_ct N decls_ label_ m _ v) [] [(0,.sl 0)] ?_)
    obtain ⟨x,y,h⟩:=ob h
    exact eCa y (wa J 8 (eSub [] (ih11 (x,(w64 (m+1))) h)))
   refine wH J 10 K ?_
   obtain ⟨z,A,h⟩:=ob h
   refine wa J 3 (eCa A ?_)
   obtain ⟨C,D,h⟩:=ob h
   refine wa J 7 (eCl (z43_ct N decls_ label_ m _ D) [] [(0,.sl 0)] ?_)
   obtain ⟨G,H,h⟩:=ob h
   exact eCa H (wa J 8 (eSub [] (ih11 (G,(w64 (m+1))) h)))
  exact eSub [] (ih N (i,0) h)
 refine wa J 1 (eLoop (σ:=ByteArray × Int) (fun st=>(zz6 x2 decls_ [(0,.S 0),(1,.I label_),(5,.B 5 0),(6,.c (.s st.1)),(7,.I st.2)])) (fun n st=>z14_l4 N decls_ label_ x2 n st.1 st.2) (r:=r) (fun _=>rfl) ?_ (fun ih=>?_))
 ·intro n4 ih12
  rintro ⟨R,T⟩ h
  replace h:z14_l4 N decls_ label_ x2 (n4+1) R T=some r:=h
  unfold z14_l4 at h
  obtain ⟨K,h⟩|⟨K,h⟩:=oc' h
  ·exact wH J 9 K (wa J 2 (eSub [] (j1 R h)))
  refine wH J 9 K ?_
  obtain ⟨U,X,h⟩:=ob h
  refine wa J 9 (eIx J oO4 X (wa J 10 (eCut (σ:=ByteArray) (fun st=>(zz42 x2 U decls_ [(0,.S 0),(1,.I label_),(5,.B 5 0),(6,.c (.s st)),(7,.I T),(8,.B 7 0)])) (fun st=>z14_k6 N T (z14_l4 N decls_ label_ x2 n4) U st=some r) ?_ (fun j17=>?_))))
  ·intro Y h
   replace h:z14_k6 N T (z14_l4 N decls_ label_ x2 n4) U Y=some r:=h
   unfold z14_k6 at h
   obtain ⟨Z,a0,h⟩:=ob h
   refine wa J 5 (eCa a0 ?_)
   obtain ⟨b0,c0,h⟩:=ob h
   refine eCa c0 (wa J 10 (eCut (σ:=ByteArray) (fun st=>(zz42 x2 U decls_ [(0,.S 0),(1,.I label_),(5,.B 5 0),(6,.c (.s st)),(7,.I T),(8,.B 7 0)])) (fun st=>z14_k5 N T (z14_l4 N decls_ label_ x2 n4) U st=some r) ?_ (fun j18=>?_)))
   ·intro d0 h
    replace h:z14_k5 N T (z14_l4 N decls_ label_ x2 n4) U d0=some r:=h
    unfold z14_k5 at h
    obtain ⟨e0,f0,h⟩:=ob h
    refine wa J 5 (eCl (z36_ct N U.Sort'.Lo _ f0) [] [] ?_)
    obtain ⟨g0,i0,h⟩:=ob h
    refine eCa i0 ?_
    obtain ⟨j0,k0,h⟩:=ob h
    refine wa J 3 (eCl (z36_ct N U.Sort'.Hi _ k0) [] [] ?_)
    obtain ⟨l0,m0,h⟩:=ob h
    refine eCa m0 ?_
    obtain ⟨o0,p0,h⟩:=ob h
    exact eCa p0 (wa J 1 (eEnd (wa J 6 (eSub [] (ih12 (o0,(w64 (T+1))) h)))))
   obtain ⟨K,h⟩|⟨K,h⟩:=oc h
   ·refine eK K ?_
    obtain ⟨q0,s0,h⟩:=ob h
    exact wa J 3 (eCa s0 (wa J 2 (eSub [] (j18 q0 h))))
   refine eK K ?_
   obtain ⟨t0,u0,h⟩:=ob h
   exact wa J 3 (eCa u0 (wa J 2 (eSub [] (j18 t0 h))))
  obtain ⟨K,h⟩|⟨K,h⟩:=oc' h
  ·exact eK K (wa J 2 (eSub [] (j17 R h)))
  refine eK K ?_
  obtain ⟨v0,x0,h⟩:=ob h
  exact wa J 3 (eCa x0 (wa J 2 (eSub [] (j17 v0 h))))
 exact eSub [] (ih N (x3,0) h)
theorem z70_ct (N:Nat) (m_:T8) (state_:Int) (r:Int) (h:z70 N m_ state_=some r) :
 Fn Tryz.prog 70 ⟨3,[.a (cC8 0 1 2 m_),.I state_],(vV8 0 1 2 m_ []),[],3,.I r,[],[]⟩:=by
 refine eFn func70 rfl (fun E F w=>?_)
 unfold z70 at h
 refine wa J 10 (eCut (σ:=Unit) (fun st=>(zz12 m_ [])) (fun st=>z70_k1=some r) ?_ (fun j1=>?_))
 ·intro _ h
  replace h:z70_k1=some r:=h
  unfold z70_k1 at h
  cases h
  exact wr J 4 func70 []
 refine wa J 1 (eLoop (σ:=Int) (fun st=>(zz13 m_ [(1,.I state_),(2,.B 3 0),(5,.I st)])) (fun n st=>z70_l2 m_ state_ n st) (r:=r) (fun _=>rfl) ?_ (fun ih=>?_))
 ·intro n2 ih3
  intro c h
  replace h:z70_l2 m_ state_ (n2+1) c=some r:=h
  unfold z70_l2 at h
  obtain ⟨K,h⟩|⟨K,h⟩:=oc' h
  ·exact wH J 9 K (wa J 2 (eSub [] (j1 () h)))
  refine wH J 9 K ?_
  obtain ⟨x9,d,h⟩:=ob h
  refine wa J 9 (eIx J oO11 d ?_)
  obtain ⟨K,h⟩|⟨K,h⟩:=oc h
  ·refine wH J 5 K ?_
   cases h
   exact wr J 6 func70 []
  exact wH J 5 K (wa J 8 (eSub [] (ih3 (w64 (c+1)) h)))
 exact eSub [] (ih N 0 h)
theorem z35_ct (N:Nat) (m_:T8) (state_:Int) (r:T11 × Bool) (h:z35 N m_ state_=some r) :
 Fn Tryz.prog 35 ⟨3,[.a (cC8 0 1 2 m_),.I state_],(vV8 0 1 2 m_ []),[],3,.t [.inr (cC11 r.1),.inl (.b r.2)],[],[]⟩:=by
 refine eFn func35 rfl (fun E F w=>?_)
 unfold z35 at h
 obtain ⟨x1,c,h⟩:=ob h
 refine wa J 11 (eCl (z68_ct N m_ state_ _ c) [] [(0,.sl 0),(1,.sl 1),(2,.sl 2)] ?_)
 obtain ⟨K,h⟩|⟨K,h⟩:=oc h
 ·refine wH J 2 K ?_
  cases h
  exact wr J 7 func35 []
 refine wH J 2 K ?_
 obtain ⟨x2,d,h⟩:=ob h
 refine wa J 7 (eCl (z70_ct N m_ state_ _ d) [] [(0,.sl 0),(1,.sl 1),(2,.sl 2)] ?_)
 obtain ⟨K,h⟩|⟨K,h⟩:=oc' h
 ·refine wH J 7 K ?_
  cases h
  exact wr J 8 func35 []
 refine wH J 7 K ?_
 obtain ⟨x3,e,h⟩:=ob h
 refine wa J 6 (eIx J oO11 e ?_)
 cases h
 exact wr J 4 func35 []
theorem z11_ct (N:Nat) (g_:T5) (m_:T8) (state_:Int) (r:(List ByteArray) × Int) (h:z11 N g_ m_ state_=some r) :
 Fn Tryz.prog 11 ⟨7,[.a (cC5 0 1 2 3 g_),.a (cC8 4 5 6 m_),.I state_],((0,.sl rS g_.Roles)::(1,.sl rR0 g_.Decls)::(2,.sl rR2 g_.Edges)::(3,.sl rR11 g_.Timeouts)::vV8 4 5 6 m_ []),[],8,.t [.inl (.sl 7),.inl (.I r.2)],[],[(7,.own rS r.1 true)]⟩:=by
 refine eFn func11 rfl (fun E F w=>?_)
 unfold z11 at h
 obtain ⟨x1,c,h⟩:=ob h
 refine wa J 14 (eCl (z33_ct N g_ m_ _ c) [] [(0,.sl 0),(1,.sl 1),(2,.sl 2),(3,.sl 3),(4,.sl 4),(5,.sl 5),(6,.sl 6)] ?_)
 obtain ⟨x2,d,h⟩:=ob h
 refine eCl (z32_ct N g_ m_ x1 _ d) [] [(0,.sl 0),(1,.sl 1),(2,.sl 2),(3,.sl 3),(4,.sl 4),(5,.sl 5),(6,.sl 6),(7,.sl 9),(8,.sl 10)] ?_
 obtain ⟨K,h⟩|⟨K,h⟩:=oc h
 ·refine wH J 2 K (wa J 9 (eEnd ?_))
  cases h
  exact wr J 6 func11 [(7,.nil)]
 refine wH J 2 K ?_
 obtain ⟨K,h⟩|⟨K,h⟩:=oc h
 ·refine wH J 4 K (wa J 5 (eEnd ?_))
  cases h
  exact wr J 6 func11 [(7,.nil)]
 refine wH J 4 K (wa J 5 (eEnd ?_))
 obtain ⟨K,h⟩|⟨K,h⟩:=oc h
 ·refine eK K ?_
  cases h
  exact wr J 6 func11 [(7,.nil)]
 refine eK K ?_
 obtain ⟨x3,e,h⟩:=ob h
 refine wa J 10 (eCl (z34_ct N m_ state_ _ e) [] [(0,.sl 4),(1,.sl 5),(2,.sl 6)] (wa J 7 (eCut (σ:=(List ByteArray)) (fun st=>⟨[(2,.I state_),(3,.B 7 0),(4,.B 8 0),(8,.S 12)],[(7,.box (cC5 0 1 2 3 g_) 27),(8,.box (cC8 4 5 6 m_) 31),(12,.own rS st true)],((0,.sl rS g_.Roles)::(1,.sl rR0 g_.Decls)::(2,.sl rR2 g_.Edges)::(3,.sl rR11 g_.Timeouts)::vV8 4 5 6 m_ []),13⟩) (fun st=>z11_k1 N g_ m_ state_ st=some r) ?_ (fun j1=>?_))))
 ·intro f h
  replace h:z11_k1 N g_ m_ state_ f=some r:=h
  unfold z11_k1 at h
  obtain ⟨g,i,h⟩:=ob h
  refine wa J 5 (eCl (z35_ct N m_ state_ _ i) [] [(0,.sl 4),(1,.sl 5),(2,.sl 6)] ?_)
  obtain ⟨K,h⟩|⟨K,h⟩:=oc' h
  ·refine wH J 11 K ?_
   obtain ⟨j,k,h⟩:=ob h
   refine wa J 8 (eIx J oB k ?_)
   obtain ⟨K,h⟩|⟨K,h⟩:=oc' h
   ·refine wH J 2 K ?_
    cases h
    exact wr J 8 func11 [(7,.sl 12)]
   refine wH J 2 K (wa J 3 (eBs J [] oS ([(str [116,104,101,32,101,110,100])]:List ByteArray) ?_))
   obtain ⟨l,m,h⟩:=ob h
   refine eAp J rS m ?_
   cases h
   exact wr J 8 func11 [(7,.sl 16)]
  refine wH J 11 K ?_
  obtain ⟨o,p,h⟩:=ob h
  refine wa J 7 (eIx J oO9 p ?_)
  obtain ⟨q,s,h⟩:=ob h
  refine wa J 8 (eCl (z36_ct N g.1.Ticks _ s) [] [] ?_)
  obtain ⟨u,v,h⟩:=ob h
  refine eCa v ?_
  obtain ⟨x,y,h⟩:=ob h
  refine eCa y ?_
  obtain ⟨z,A,h⟩:=ob h
  refine wa J 4 (eIx J oO0 A ?_)
  obtain ⟨C,D,h⟩:=ob h
  refine wa J 2 (eCa D ?_)
  obtain ⟨G,H,h⟩:=ob h
  refine eCa H ?_
  obtain ⟨R,T,h⟩:=ob h
  refine wa J 4 (eIx J oS T ?_)
  obtain ⟨U,X,h⟩:=ob h
  refine wa J 1 (eCa X (eBs J [] oS ([U]:List ByteArray) ?_))
  obtain ⟨Y,Z,h⟩:=ob h
  refine eAp J rS Z (wa J 1 (eEnd ?_))
  obtain ⟨a0,b0,h⟩:=ob h
  refine wa J 6 (eIx J oB b0 ?_)
  obtain ⟨K,h⟩|⟨K,h⟩:=oc' h
  ·refine wH J 2 K ?_
   cases h
   exact wr J 8 func11 [(7,.sl 22)]
  refine wH J 2 K (wa J 3 (eBs J [] oS ([(str [116,104,101,32,101,110,100])]:List ByteArray) ?_))
  obtain ⟨c0,d0,h⟩:=ob h
  refine eAp J rS d0 ?_
  cases h
  exact wr J 8 func11 [(7,.sl 25)]
 refine wa J 1 (eLoop (σ:=(List ByteArray) × Int) (fun st=>⟨[(2,.I state_),(3,.B 7 0),(4,.B 8 0),(8,.S 12),(9,.S 11),(10,.I st.2)],[(7,.box (cC5 0 1 2 3 g_) 27),(8,.box (cC8 4 5 6 m_) 31),(11,.own (rI .i64) x3 true),(12,.own rS st.1 true)],((0,.sl rS g_.Roles)::(1,.sl rR0 g_.Decls)::(2,.sl rR2 g_.Edges)::(3,.sl rR11 g_.Timeouts)::vV8 4 5 6 m_ []),13⟩) (fun n st=>z11_l2 N g_ m_ state_ x3 n st.1 st.2) (r:=r) (fun _=>rfl) ?_ (fun ih=>?_))
 ·intro n2 ih3
  rintro ⟨e0,f0⟩ h
  replace h:z11_l2 N g_ m_ state_ x3 (n2+1) e0 f0=some r:=h
  unfold z11_l2 at h
  obtain ⟨K,h⟩|⟨K,h⟩:=oc' h
  ·exact wH J 8 K (wa J 2 (eSub [] (j1 e0 h)))
  refine wH J 8 K ?_
  obtain ⟨g0,i0,h⟩:=ob h
  refine wa J 10 (eIo J (rI .i64) i0 (eLd J (oI .i64) i0 ?_))
  obtain ⟨j0,k0,h⟩:=ob h
  refine eIx J oO9 k0 (wa J 3 (eEnd ?_))
  obtain ⟨K,h⟩|⟨K,h⟩:=oc h
  ·refine wH J 7 K ?_
   obtain ⟨l0,m0,h⟩:=ob h
   refine wa J 7 (eIx J oO0 m0 ?_)
   obtain ⟨o0,p0,h⟩:=ob h
   refine wa J 2 (eCa p0 ?_)
   obtain ⟨q0,s0,h⟩:=ob h
   refine eCa s0 ?_
   obtain ⟨t0,u0,h⟩:=ob h
   refine wa J 4 (eIx J oS u0 ?_)
   obtain ⟨v0,x0,h⟩:=ob h
   refine wa J 1 (eCa x0 (eBs J [] oS ([v0]:List ByteArray) ?_))
   obtain ⟨y0,z0,h⟩:=ob h
   exact eAp J rS z0 (wa J 1 (eEnd (wa J 7 (eSub [(12,.sl 22)] (ih3 (y0,(w64 (f0+1))) h)))))
  refine wH J 7 K ?_
  obtain ⟨K,h⟩|⟨K,h⟩:=oc h
  ·refine wH J 7 K ?_
   obtain ⟨A0,B0,h⟩:=ob h
   refine wa J 7 (eCl (z14_ct N g_.Decls j0.Label _ B0) [] [(0,.sl 1)] ?_)
   obtain ⟨C0,D0,h⟩:=ob h
   refine eCa D0 ?_
   obtain ⟨G0,H0,h⟩:=ob h
   refine eCa H0 ?_
   obtain ⟨I0,L0,h⟩:=ob h
   refine wa J 4 (eIx J oS L0 ?_)
   obtain ⟨M0,O0,h⟩:=ob h
   refine wa J 1 (eCa O0 (eBs J [] oS ([M0]:List ByteArray) ?_))
   obtain ⟨R0,S0,h⟩:=ob h
   exact eAp J rS S0 (wa J 1 (eEnd (wa J 7 (eSub [(12,.sl 18)] (ih3 (R0,(w64 (f0+1))) h)))))
  refine wH J 7 K ?_
  obtain ⟨T0,U0,h⟩:=ob h
  refine wa J 7 (eCl (z14_ct N g_.Decls j0.Label _ U0) [] [(0,.sl 1)] ?_)
  obtain ⟨V0,X0,h⟩:=ob h
  refine eCa X0 ?_
  obtain ⟨Y0,Z0,h⟩:=ob h
  refine eCa Z0 ?_
  obtain ⟨a1,b1,h⟩:=ob h
  refine wa J 4 (eIx J oS b1 ?_)
  obtain ⟨c1,d1,h⟩:=ob h
  refine wa J 1 (eCa d1 (eBs J [] oS ([c1]:List ByteArray) ?_))
  obtain ⟨e1,f1,h⟩:=ob h
  exact eAp J rS f1 (wa J 1 (eEnd (wa J 7 (eSub [(12,.sl 18)] (ih3 (e1,(w64 (f0+1))) h)))))
 exact eSub [(12,.nil)] (ih N (([]:List ByteArray),0) h)
theorem law43_ExplainPermitted_ct (N:Nat) (g_:T5) (m_:T8) (at_:(Int × Int)) (r:Bool) (h:law43_ExplainPermitted N g_ m_ at_=some r) :
 Fn Tryz.prog 3 ⟨8,[.a (cC5 0 1 2 3 g_),.a (cC8 4 5 6 m_),.a [.I at_.1,.I at_.2]],((0,.sl rS g_.Roles)::(1,.sl rR0 g_.Decls)::(2,.sl rR2 g_.Edges)::(3,.sl rR11 g_.Timeouts)::vV8 4 5 6 m_ []),[(7,.abs powT)],8,.O r,[],[(7,.abs powT)]⟩:=by
 refine eFn func3 rfl (fun E F w=>?_)
 unfold law43_ExplainPermitted at h
 obtain ⟨x1,c,h⟩:=ob h
 refine wa J 10 (eCl (z8_ct N _ c) [] [(0,.sl 7)] ?_)
 obtain ⟨K,h⟩|⟨K,h⟩:=oc h
 ·refine wH J 2 K ?_
  cases h
  exact wr J 5 func3 []
 refine wH J 2 K ?_
 obtain ⟨x2,d,h⟩:=ob h
 refine wa J 7 (eCl (z9_ct N g_ m_ ([]:List T3) _ d) [] [(0,.sl 0),(1,.sl 1),(2,.sl 2),(3,.sl 3),(4,.sl 4),(5,.sl 5),(6,.sl 6),(7,.nil)] ?_)
 obtain ⟨K,h⟩|⟨K,h⟩:=oc h
 ·refine wH J 2 K ?_
  cases h
  exact wr J 5 func3 []
 refine wH J 2 K (wa J 6 (eAb 0 rfl ?_))
 obtain ⟨x3,e,h⟩:=ob h
 refine wa J 1 (eCl (z10_ct N g_ m_ at_.1 _ e) [] [(0,.sl 0),(1,.sl 1),(2,.sl 2),(3,.sl 3),(4,.sl 4),(5,.sl 5),(6,.sl 6),(7,.sl 7)] (wa J 10 (eAb 0 rfl ?_)))
 obtain ⟨x4,f,h⟩:=ob h
 refine wa J 1 (eCl (z11_ct N g_ m_ at_.1 _ f) [] [(0,.sl 0),(1,.sl 1),(2,.sl 2),(3,.sl 3),(4,.sl 4),(5,.sl 5),(6,.sl 6)] ?_)
 obtain ⟨x5,g,h⟩:=ob h
 refine wa J 10 (eCb (z12_ct N x3.1 x4.1 _ g) [] [(0,.sl 11),(1,.sl 12)] [11,12] (.inr ⟨rfl,trivial⟩) ?_)
 obtain ⟨K,h⟩|⟨K,h⟩:=oc' h
 ·refine wH J 1 K (wa J 18 (eEnd ?_))
  cases h
  exact eRet J func3 []
 refine wH J 1 K ?_
 obtain ⟨K,h⟩|⟨K,h⟩:=oc' h
 ·refine wH J 5 K (wa J 13 (eEnd ?_))
  cases h
  exact eRet J func3 []
 refine wH J 5 K (wa J 2 (eAb 1 rfl ?_))
 obtain ⟨x6,i,h⟩:=ob h
 refine wa J 1 (eCl (z13_ct N g_.Decls at_.2 _ i) [] [(0,.sl 1),(1,.sl 7)] (wa J 2 (eAb 1 rfl ?_)))
 obtain ⟨x7,j,h⟩:=ob h
 refine wa J 1 (eCl (z14_ct N g_.Decls at_.2 _ j) [] [(0,.sl 1)] (wa J 3 (eEnd ?_)))
 cases h
 exact eRet J func3 []
end Gx
end
