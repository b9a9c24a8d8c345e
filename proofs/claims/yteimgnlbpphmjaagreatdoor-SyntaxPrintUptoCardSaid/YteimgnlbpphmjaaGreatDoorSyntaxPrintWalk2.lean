/- Each function of the statement computes what its plain definition says, part 2. -/
import Derived.Test.YteimgnlbpphmjaaGreatDoorSyntaxPrintWalk1
set_option linter.all false
section
set_option maxRecDepth 10000
set_option maxHeartbeats 4000000
open Go Go.Kx Go.Proofs Tryz
namespace Gx
theorem z44_ct (N:Nat) (m_:T6) (r:Bool) (h:z44 N m_=some r) :
 Fn Tryz.prog 44 ⟨2,[.a [.s m_.Name,.sl 0,.sl 1]],(vV6 0 1 m_ []),[],2,.O r,[],[]⟩:=by
 refine eFn func44 rfl (fun E F w=>?_)
 unfold z44 at h
 refine wa J 10 (eCut (σ:=Unit) (fun st=>(zz3 m_.Name m_ [(1,.B 2 0)])) (fun st=>z44_k3 N m_=some r) ?_ (fun j1=>?_))
 ·intro _ h
  replace h:z44_k3 N m_=some r:=h
  unfold z44_k3 at h
  refine wa J 5 (eCut (σ:=Unit) (fun st=>(zz3 m_.Name m_ [(1,.B 2 0)])) (fun st=>z44_k1 N m_=some r) ?_ (fun j3=>?_))
  ·intro _ h
   replace h:z44_k1 N m_=some r:=h
   unfold z44_k1 at h
   refine wO J 4 h fun c d h=>eCl (z22_ct N m_.Name _ d) [] [] ?_
   refine wB' J 1 h (fun h=>?_) fun h=>?_
   ·cases h
    exact wr J 13 func44 []
   refine wB J 6 h (fun h=>?_) fun h=>?_
   ·cases h
    exact wr J 7 func44 []
   cases h
   exact wr J 7 func44 []
  refine wa J 1 (eLoop (σ:=Int) (fun st=>(zz3 m_.Name m_ [(1,.B 2 0),(5,.I st)])) (fun n st=>z44_l2 N m_ n st) (r:=r) (fun _=>rfl) ?_ (fun ih=>?_))
  ·intro n3 ih5
   intro e h
   replace h:z44_l2 N m_ (n3+1) e=some r:=h
   unfold z44_l2 at h
   refine wB' J 9 h (fun h=>wa J 2 (eSub [] (j3 () h))) fun h=>?_
   refine wO J 9 h fun f g h=>eIx J oO4 g ?_
   refine wO J 8 h fun i j h=>eCl (z90_ct N f.Left _ j) [] [] ?_
   refine wB J 2 h (fun h=>?_) fun h=>?_
   ·cases h
    exact wr J 36 func44 []
   refine wO J 2 h fun k l h=>eCl (z90_ct N f.Right _ l) [] [] ?_
   refine wB J 3 h (fun h=>?_) fun h=>?_
   ·cases h
    exact wr J 30 func44 []
   refine wB' J 4 h (fun h=>wa J 29 (eSub [] (ih5 (w64 (e+1)) h))) fun h=>?_
   refine wB' J 5 h (fun h=>wa J 24 (eSub [] (ih5 (w64 (e+1)) h))) fun h=>?_
   refine wB' J 5 h (fun h=>wa J 19 (eSub [] (ih5 (w64 (e+1)) h))) fun h=>?_
   refine wB' J 5 h (fun h=>wa J 14 (eSub [] (ih5 (w64 (e+1)) h))) fun h=>?_
   refine wB J 6 h (fun h=>?_) fun h=>wa J 8 (eSub [] (ih5 (w64 (e+1)) h))
   cases h
   exact wr J 5 func44 []
  exact eSub [] (ih N 0 h)
 refine wa J 1 (eLoop (σ:=Int) (fun st=>(zz3 m_.Name m_ [(1,.B 2 0),(3,.I st)])) (fun n st=>z44_l4 N m_ n st) (r:=r) (fun _=>rfl) ?_ (fun ih=>?_))
 ·intro n4 ih6
  intro m h
  replace h:z44_l4 N m_ (n4+1) m=some r:=h
  unfold z44_l4 at h
  refine wB' J 9 h (fun h=>wa J 2 (eSub [] (j1 () h))) fun h=>?_
  refine wO J 9 h fun o p h=>eIx J oO0 p ?_
  refine wO J 10 h fun q t h=>eIx J oO0 t ?_
  refine wO J 2 h fun u v h=>eCl (z40_ct N q.Name _ v) [] [] ?_
  refine wB J 2 h (fun h=>?_) fun h=>?_
  ·cases h
   exact wr J 42 func44 []
  refine wO J 2 h fun x y h=>eCl (z89_ct N o.Sort'.Lo _ y) [] [] ?_
  refine wB J 3 h (fun h=>?_) fun h=>?_
  ·cases h
   exact wr J 36 func44 []
  refine wO J 2 h fun z A h=>eCl (z89_ct N o.Sort'.Hi _ A) [] [] ?_
  refine wB J 3 h (fun h=>?_) fun h=>?_
  ·cases h
   exact wr J 30 func44 []
  refine wB' J 4 h (fun h=>?_) fun h=>?_
  ·refine wB' J 10 h (fun h=>wa J 19 (eSub [] (ih6 (w64 (m+1)) h))) fun h=>?_
   refine wB J 4 h (fun h=>?_) fun h=>?_
   ·cases h
    exact wr J 12 func44 []
   refine wB J 7 h (fun h=>?_) fun h=>wa J 8 (eSub [] (ih6 (w64 (m+1)) h))
   cases h
   exact wr J 5 func44 []
  refine wB J 6 h (fun h=>?_) fun h=>?_
  ·cases h
   exact wr J 20 func44 []
  refine wB' J 4 h (fun h=>wa J 19 (eSub [] (ih6 (w64 (m+1)) h))) fun h=>?_
  refine wB J 4 h (fun h=>?_) fun h=>?_
  ·cases h
   exact wr J 12 func44 []
  refine wB J 7 h (fun h=>?_) fun h=>wa J 8 (eSub [] (ih6 (w64 (m+1)) h))
  cases h
  exact wr J 5 func44 []
 exact eSub [] (ih N 0 h)
theorem z84_ct (N:Nat) (l_:(List ByteArray)) (r:ByteArray) (h:z84 N l_=some r) :
 Fn Tryz.prog 84 ⟨1,[.S 0],[(0,.sl rS l_)],[],1,.c (.s r),[],[]⟩:=by
 refine eFn func84 rfl (fun E F w=>?_)
 unfold z84 at h
 refine wa J 13 (eCut (σ:=ByteArray) (fun st=>(zz1 l_ [(3,.c (.s st))])) (fun st=>z84_k1 st=some r) ?_ (fun j1=>?_))
 ·intro d h
  replace h:z84_k1 d=some r:=h
  unfold z84_k1 at h
  cases h
  exact wr J 5 func84 []
 refine wa J 1 (eLoop (σ:=ByteArray × Int) (fun st=>(zz1 l_ [(0,.S 0),(3,.c (.s st.1)),(4,.I st.2)])) (fun n st=>z84_l2 l_ n st.1 st.2) (r:=r) (fun _=>rfl) ?_ (fun ih=>?_))
 ·intro n2 ih3
  rintro ⟨e,f⟩ h
  replace h:z84_l2 l_ (n2+1) e f=some r:=h
  unfold z84_l2 at h
  refine wB' J 8 h (fun h=>wa J 2 (eSub [] (j1 e h))) fun h=>?_
  refine wB' J 10 h (fun h=>?_) fun h=>?_
  ·refine wO J 6 h fun g i h=>eIx J oS i ?_
   exact wO J 1 h fun j k h=>eCa k (wa J 8 (eSub [] (ih3 (j,(w64 (f+1))) h)))
  refine wO J 3 h fun l m h=>eCa m ?_
  refine wO J 6 h fun o p h=>eIx J oS p ?_
  exact wO J 1 h fun q t h=>eCa t (wa J 8 (eSub [] (ih3 (q,(w64 (f+1))) h)))
 exact eSub [] (ih N ((str []),0) h)
theorem z134_b_ct (N:Nat) (rc:Int→Option ByteArray) (rc_ref09_Digits_ct:(∀ (n_:Int) (r:ByteArray),rc n_=some r→Fn Tryz.prog 134 ⟨0,[.I n_],[],[],0,.c (.s r),[],[]⟩)) (n_:Int) (r:ByteArray) (h:z134_b N rc n_=some r) :
 Fn Tryz.prog 134 ⟨0,[.I n_],[],[],0,.c (.s r),[],[]⟩:=by
 refine eFn func134 rfl (fun E F w=>?_)
 unfold z134_b at h
 refine wB J 12 h (fun h=>?_) fun h=>?_
 ·refine wO J 5 h fun x1 d h=>eCl (rc_ref09_Digits_ct (w64 (n_.tdiv 10)) _ d) [] [] (wa J 4 (eCr ?_))
  obtain ⟨x2,e,h⟩:=ob h
  refine eCa e ?_
  cases h
  exact wr J 2 func134 []
 refine wB J 7 h (fun h=>wa J 6 (eCr ?_)) fun h=>?_
 ·obtain ⟨x3,f,h⟩:=ob h
  refine eCa f ?_
  cases h
  exact wr J 2 func134 []
 refine wB J 7 h (fun h=>wa J 6 (eCr ?_)) fun h=>?_
 ·cases h
  exact wr J 2 func134 []
 refine wO J 7 h fun x4 g h=>eCl (rc_ref09_Digits_ct (w64 (n_.tdiv 10)) _ g) [] [] (wa J 4 (eCr ?_))
 obtain ⟨x5,i,h⟩:=ob h
 refine eCa i ?_
 cases h
 exact wr J 2 func134 []
theorem z134_rct:∀ (N:Nat) (n_:Int) (r:ByteArray) (h:z134_r N n_=some r),Fn Tryz.prog 134 ⟨0,[.I n_],[],[],0,.c (.s r),[],[]⟩:=by
 intro N
 induction N with
 | zero=>intros;rename_i h;cases h
 | succ N ih=>intro n_ r h;exact z134_b_ct N (z134_r N) ih n_ r h
theorem z134_ct (N:Nat) (n_:Int) (r:ByteArray) (h:z134 N n_=some r):Fn Tryz.prog 134 ⟨0,[.I n_],[],[],0,.c (.s r),[],[]⟩:=z134_rct N n_ r h
theorem z135_ct (N:Nat) (x_:T13) (r:ByteArray) (h:z135 N x_=some r) :
 Fn Tryz.prog 135 ⟨0,[.a (cC13 x_)],[],[],0,.c (.s r),[],[]⟩:=by
 refine eFn func135 rfl (fun E F w=>?_)
 unfold z135 at h
 refine wB J 12 h (fun h=>?_) fun h=>wa J 15 (eCut (σ:=ByteArray) (fun st=>⟨[(1,.B 0 0),(3,.c (.s st))],[(0,.box (cC13 x_) 85)],[],1⟩) (fun st=>z135_k2 N x_ st=some r) ?_ (fun j1=>?_))
 ·refine wO J 5 h fun x1 d h=>eCl (z134_ct N x_.N _ d) [] [] ?_
  cases h
  exact wr J 2 func135 []
 ·intro e h
  replace h:z135_k2 N x_ e=some r:=h
  unfold z135_k2 at h
  refine wa J 7 (eCut (σ:=ByteArray) (fun st=>⟨[(1,.B 0 0),(3,.c (.s st))],[(0,.box (cC13 x_) 85)],[],1⟩) (fun st=>z135_k1 N x_ st=some r) ?_ (fun j2=>?_))
  ·intro f h
   replace h:z135_k1 N x_ f=some r:=h
   unfold z135_k1 at h
   refine wB J 9 h (fun h=>?_) fun h=>?_
   ·refine wO J 5 h fun x6 g h=>eCl (z134_ct N x_.N _ g) [] [] ?_
    obtain ⟨x7,i,h⟩:=ob h
    refine eCa i ?_
    obtain ⟨x8,j,h⟩:=ob h
    refine eCa j ?_
    cases h
    exact wr J 8 func135 []
   refine wB' J 8 h (fun h=>?_) fun h=>?_
   ·cases h
    exact wr J 8 func135 []
   refine wO J 6 h fun x9 k h=>eCl (z134_ct N (w64 (0-x_.N)) _ k) [] [] ?_
   obtain ⟨l,m,h⟩:=ob h
   refine eCa m ?_
   obtain ⟨o,p,h⟩:=ob h
   refine eCa p ?_
   cases h
   exact wr J 8 func135 []
  refine eB' h (fun h=>wa J 2 (eSub [] (j2 e h))) fun h=>?_
  refine wO J 3 h fun q t h=>eCa t ?_
  obtain ⟨u,v,h⟩:=ob h
  exact eCa v (wa J 2 (eSub [] (j2 u h)))
 refine eB' h (fun h=>wa J 2 (eSub [] (j1 x_.Field h))) fun h=>?_
 refine wO J 4 h fun x y h=>eCa y ?_
 exact wO J 1 h fun z A h=>eCa A (wa J 2 (eSub [] (j1 z h)))
theorem z85_ct (N:Nat) (m_:T6) (r:ByteArray) (h:z85 N m_=some r) :
 Fn Tryz.prog 85 ⟨2,[.a [.s m_.Name,.sl 0,.sl 1]],(vV6 0 1 m_ []),[],2,.c (.s r),[],[]⟩:=by
 refine eFn func85 rfl (fun E F w=>?_)
 unfold z85 at h
 refine wO J 9 h fun x1 d h=>eCa d ?_
 obtain ⟨x2,e,h⟩:=ob h
 refine eCa e (wa J 7 (eCut (σ:=ByteArray) (fun st=>(zz3 m_.Name m_ [(1,.B 2 0),(3,.c (.s st))])) (fun st=>z85_k4 N m_ st=some r) ?_ (fun j1=>?_)))
 ·intro f h
  replace h:z85_k4 N m_ f=some r:=h
  unfold z85_k4 at h
  refine wO J 3 h fun g i h=>eCa i (wa J 7 (eCut (σ:=ByteArray) (fun st=>⟨[(3,.c (.s st))],[],(vV6 0 1 m_ []),3⟩) (fun st=>z85_k1 st=some r) ?_ (fun j9=>?_)))
  ·intro j h
   replace h:z85_k1 j=some r:=h
   unfold z85_k1 at h
   refine wO J 3 h fun k l h=>eCa l ?_
   cases h
   exact wr J 2 func85 []
  refine wa J 1 (eLoop (σ:=ByteArray × Int) (fun st=>(zz3 m_.Name m_ [(1,.B 2 0),(3,.c (.s st.1)),(7,.I st.2)])) (fun n st=>z85_l2 N m_ n st.1 st.2) (r:=r) (fun _=>rfl) ?_ (fun ih=>?_))
  ·intro n3 ih14
   rintro ⟨m,o⟩ h
   replace h:z85_l2 N m_ (n3+1) m o=some r:=h
   unfold z85_l2 at h
   refine wB' J 9 h (fun h=>wa J 2 (eSub [] (j9 m h))) fun h=>wa J 10 (eCut (σ:=ByteArray) (fun st=>(zz3 m_.Name m_ [(1,.B 2 0),(3,.c (.s st)),(7,.I o)])) (fun st=>z85_k3 N m_ o (z85_l2 N m_ n3) st=some r) ?_ (fun j17=>?_))
   ·intro p h
    replace h:z85_k3 N m_ o (z85_l2 N m_ n3) p=some r:=h
    unfold z85_k3 at h
    refine wO J 5 h fun q t h=>eIx J oO4 t ?_
    refine wO J 2 h fun u v h=>eCl (z135_ct N q.Left _ v) [] [] ?_
    obtain ⟨x,y,h⟩:=ob h
    refine eCa y ?_
    refine wO J 3 h fun z A h=>eIx J oO4 A ?_
    refine wO J 2 h fun C D h=>eCa D ?_
    obtain ⟨G,H,h⟩:=ob h
    refine eCa H ?_
    refine wO J 3 h fun R T h=>eIx J oO4 T ?_
    refine wO J 2 h fun U X h=>eCl (z135_ct N R.Right _ X) [] [] ?_
    obtain ⟨Y,Z,h⟩:=ob h
    refine eCa Z ?_
    obtain ⟨a0,b0,h⟩:=ob h
    exact eCa b0 (wa J 1 (eEnd (wa J 6 (eSub [] (ih14 (a0,(w64 (o+1))) h)))))
   refine eB h (fun h=>?_) fun h=>?_
   ·exact wO J 3 h fun c0 d0 h=>eCa d0 (wa J 2 (eSub [] (j17 c0 h)))
   exact wO J 3 h fun e0 f0 h=>eCa f0 (wa J 2 (eSub [] (j17 e0 h)))
  exact eSub [] (ih N (g,0) h)
 refine wa J 1 (eLoop (σ:=ByteArray × Int) (fun st=>(zz3 m_.Name m_ [(1,.B 2 0),(3,.c (.s st.1)),(4,.I st.2)])) (fun n st=>z85_l5 N m_ n st.1 st.2) (r:=r) (fun _=>rfl) ?_ (fun ih=>?_))
 ·intro n4 ih18
  rintro ⟨g0,i0⟩ h
  replace h:z85_l5 N m_ (n4+1) g0 i0=some r:=h
  unfold z85_l5 at h
  refine wB' J 9 h (fun h=>wa J 2 (eSub [] (j1 g0 h))) fun h=>?_
  refine wO J 9 h fun j0 k0 h=>eIx J oO0 k0 (wa J 16 (eCut (σ:=ByteArray) (fun st=>⟨[(1,.B 2 0),(3,.c (.s g0)),(4,.I i0),(5,.B 4 0),(6,.c (.s st))],[(2,.box [.s m_.Name,.sl 0,.sl 1] 80),(4,.box (cC0 j0) 126)],(vV6 0 1 m_ []),5⟩) (fun st=>z85_k7 N g0 i0 (z85_l5 N m_ n4) j0 st=some r) ?_ (fun j23=>?_)))
  ·intro l0 h
   replace h:z85_k7 N g0 i0 (z85_l5 N m_ n4) j0 l0=some r:=h
   unfold z85_k7 at h
   refine wa J 6 (eCut (σ:=ByteArray) (fun st=>⟨[(1,.B 2 0),(3,.c (.s st)),(4,.I i0),(5,.B 4 0),(6,.c (.s l0))],[(2,.box [.s m_.Name,.sl 0,.sl 1] 80),(4,.box (cC0 j0) 126)],(vV6 0 1 m_ []),5⟩) (fun st=>z85_k6 N i0 (z85_l5 N m_ n4) j0 l0 st=some r) ?_ (fun j24=>?_))
   ·intro m0 h
    replace h:z85_k6 N i0 (z85_l5 N m_ n4) j0 l0 m0=some r:=h
    unfold z85_k6 at h
    refine wO J 4 h fun o0 p0 h=>eCa p0 ?_
    refine wO J 1 h fun q0 s0 h=>eCa s0 ?_
    obtain ⟨t0,u0,h⟩:=ob h
    refine eCa u0 ?_
    refine wO J 3 h fun v0 x0 h=>eCl (z134_ct N j0.Sort'.Lo _ x0) [] [] ?_
    obtain ⟨y0,z0,h⟩:=ob h
    refine eCa z0 ?_
    obtain ⟨A0,B0,h⟩:=ob h
    refine eCa B0 ?_
    refine wO J 3 h fun C0 D0 h=>eCl (z134_ct N j0.Sort'.Hi _ D0) [] [] ?_
    obtain ⟨G0,H0,h⟩:=ob h
    refine eCa H0 ?_
    obtain ⟨I0,L0,h⟩:=ob h
    exact eCa L0 (wa J 1 (eEnd (wa J 6 (eSub [] (ih18 (I0,(w64 (i0+1))) h)))))
   refine eB' h (fun h=>wa J 2 (eSub [] (j24 g0 h))) fun h=>?_
   exact wO J 3 h fun M0 O0 h=>eCa O0 (wa J 2 (eSub [] (j24 M0 h)))
  exact eB h (fun h=>wa J 4 (eSub [] (j23 (str [116,101,120,116]) h))) fun h=>wa J 2 (eSub [] (j23 (str [105,110,116]) h))
 exact eSub [] (ih N (x2,0) h)
theorem z136_ct (N:Nat) (rc:T5→ByteArray→Option ByteArray) (rc_ref10_item_ct:(∀ (x_:T5) (indent_:ByteArray) (r:ByteArray),rc x_ indent_=some r→Fn Tryz.prog 86 ⟨2,[.a [.I x_.Kind,.s x_.From,.sl 0,.s x_.Name,.s x_.As,.I x_.Ticks,.sl 1],.c (.s indent_)],[(0,.sl rS x_.To),(1,.sl (rSl rR5) x_.Blocks)],[],2,.c (.s r),[],[]⟩)) (l_:(List T5)) (indent_:ByteArray) (r:ByteArray) (h:z136 N rc l_ indent_=some r) :
 Fn Tryz.prog 136 ⟨1,[.S 0,.c (.s indent_)],[(0,.sl rR5 l_)],[],1,.c (.s r),[],[]⟩:=by
 refine eFn func136 rfl (fun E F w=>?_)
 unfold z136 at h
 refine wa J 13 (eCut (σ:=ByteArray) (fun st=>(zz2 l_ [(1,.c (.s indent_)),(5,.c (.s st))])) (fun st=>z136_k1 indent_ st=some r) ?_ (fun j1=>?_))
 ·intro d h
  replace h:z136_k1 indent_ d=some r:=h
  unfold z136_k1 at h
  refine wO J 4 h fun e f h=>eCa f ?_
  obtain ⟨g,i,h⟩:=ob h
  refine eCa i ?_
  cases h
  exact wr J 2 func136 []
 refine wa J 1 (eLoop (σ:=ByteArray × Int) (fun st=>(zz2 l_ [(0,.S 0),(1,.c (.s indent_)),(5,.c (.s st.1)),(6,.I st.2)])) (fun n st=>z136_l2 rc l_ indent_ n st.1 st.2) (r:=r) (fun _=>rfl) ?_ (fun ih=>?_))
 ·intro n2 ih3
  rintro ⟨j,k⟩ h
  replace h:z136_l2 rc l_ indent_ (n2+1) j k=some r:=h
  unfold z136_l2 at h
  refine wB' J 8 h (fun h=>wa J 2 (eSub [] (j1 j h))) fun h=>?_
  refine wO J 7 h fun l m h=>eCa m ?_
  refine wO J 2 h fun o p h=>eIx J oO5 p ?_
  refine wO J 2 h fun q t h=>eCa t ?_
  obtain ⟨u,v,h⟩:=ob h
  refine eCl (rc_ref10_item_ct o q _ v) [] [(0,.sl 2),(1,.sl 3)] ?_
  obtain ⟨x,y,h⟩:=ob h
  refine eCa y ?_
  obtain ⟨z,A,h⟩:=ob h
  refine eCa A ?_
  obtain ⟨C,D,h⟩:=ob h
  exact eCa D (wa J 8 (eSub [] (ih3 (C,(w64 (k+1))) h)))
 exact eSub [] (ih N ((str [123,10]),0) h)
theorem z86_b_ct (N:Nat) (rc:T5→ByteArray→Option ByteArray) (rc_ref10_item_ct:(∀ (x_:T5) (indent_:ByteArray) (r:ByteArray),rc x_ indent_=some r→Fn Tryz.prog 86 ⟨2,[.a [.I x_.Kind,.s x_.From,.sl 0,.s x_.Name,.s x_.As,.I x_.Ticks,.sl 1],.c (.s indent_)],[(0,.sl rS x_.To),(1,.sl (rSl rR5) x_.Blocks)],[],2,.c (.s r),[],[]⟩)) (x_:T5) (indent_:ByteArray) (r:ByteArray) (h:z86_b N rc x_ indent_=some r) :
 Fn Tryz.prog 86 ⟨2,[.a [.I x_.Kind,.s x_.From,.sl 0,.s x_.Name,.s x_.As,.I x_.Ticks,.sl 1],.c (.s indent_)],[(0,.sl rS x_.To),(1,.sl (rSl rR5) x_.Blocks)],[],2,.c (.s r),[],[]⟩:=by
 refine eFn func86 rfl (fun E F w=>?_)
 unfold z86_b at h
 refine wB J 22 h (fun h=>?_) fun h=>?_
 ·refine wO J 5 h fun x1 d h=>eCa d ?_
  refine wO J 2 h fun x2 e h=>eCl (z84_ct N x_.To _ e) [] [(0,.sl 0)] ?_
  obtain ⟨x3,f,h⟩:=ob h
  refine eCa f ?_
  obtain ⟨x4,g,h⟩:=ob h
  refine eCa g ?_
  refine wO J 2 h fun x5 i h=>eCa i ?_
  obtain ⟨x6,j,h⟩:=ob h
  refine eCa j (wa J 1 (eEnd ?_))
  cases h
  exact eRet J func86 []
 refine wB J 6 h (fun h=>?_) fun h=>?_
 ·refine wO J 5 h fun x7 k h=>eCa k ?_
  obtain ⟨x8,l,h⟩:=ob h
  refine eCa l ?_
  cases h
  exact wr J 2 func86 []
 refine wB J 6 h (fun h=>?_) fun h=>wa J 6 (eCut (σ:=ByteArray × ByteArray) (fun st=>(zz5 x_.Kind x_.From x_.Name x_.As x_.Ticks x_.To x_.Blocks [(1,.c (.s indent_)),(2,.B 2 0),(5,.c (.s st.1)),(6,.c (.s st.2))])) (fun st=>z86_k4 N rc x_ indent_ st.1 st.2=some r) ?_ (fun j1=>?_))
 ·refine wO J 5 h fun x9 m h=>eCa m ?_
  obtain ⟨o,p,h⟩:=ob h
  refine eCa p ?_
  refine wO J 2 h fun q t h=>eCl (z84_ct N x_.To _ t) [] [(0,.sl 0)] ?_
  obtain ⟨u,v,h⟩:=ob h
  refine eCa v ?_
  obtain ⟨x,y,h⟩:=ob h
  refine eCa y ?_
  refine wO J 2 h fun z A h=>eCa A ?_
  obtain ⟨C,D,h⟩:=ob h
  refine eCa D (wa J 1 (eEnd ?_))
  cases h
  exact eRet J func86 []
 ·rintro ⟨G,H⟩ h
  replace h:z86_k4 N rc x_ indent_ G H=some r:=h
  unfold z86_k4 at h
  refine wa J 6 (eCut (σ:=ByteArray) (fun st=>⟨[(5,.c (.s st))],[],[(0,.sl rS x_.To),(1,.sl (rSl rR5) x_.Blocks)],3⟩) (fun st=>z86_k1 st=some r) ?_ (fun j2=>?_))
  ·intro R h
   replace h:z86_k1 R=some r:=h
   unfold z86_k1 at h
   cases h
   exact wr J 5 func86 []
  refine wa J 1 (eLoop (σ:=ByteArray × Int) (fun st=>(zz5 x_.Kind x_.From x_.Name x_.As x_.Ticks x_.To x_.Blocks [(1,.c (.s indent_)),(2,.B 2 0),(5,.c (.s st.1)),(6,.c (.s H)),(7,.I st.2)])) (fun n st=>z86_l2 N rc x_ indent_ H n st.1 st.2) (r:=r) (fun _=>rfl) ?_ (fun ih=>?_))
  ·intro n2 ih7
   rintro ⟨T,U⟩ h
   replace h:z86_l2 N rc x_ indent_ H (n2+1) T U=some r:=h
   unfold z86_l2 at h
   refine wB' J 9 h (fun h=>wa J 2 (eSub [] (j2 T h))) fun h=>?_
   refine wa J 11 (eCut (σ:=Bool) (fun st=>(zz5 x_.Kind x_.From x_.Name x_.As x_.Ticks x_.To x_.Blocks [(1,.c (.s indent_)),(2,.B 2 0),(5,.c (.s T)),(6,.c (.s H)),(7,.I U),(74,.O st)])) (fun st=>z86_k3 N rc x_ indent_ H T U (z86_l2 N rc x_ indent_ H n2) st=some r) ?_ (fun j10=>?_))
   ·intro X h
    replace h:z86_k3 N rc x_ indent_ H T U (z86_l2 N rc x_ indent_ H n2) X=some r:=h
    unfold z86_k3 at h
    refine eB h (fun h=>?_) fun h=>?_
    ·refine wO J 3 h fun Y Z h=>eCa Z ?_
     refine wO J 8 h fun a0 b0 h=>eIx J (oSl rR5) b0 ?_
     refine wO J 2 h fun c0 d0 h=>eCl (z136_ct N rc rc_ref10_item_ct a0 indent_ _ d0) [] [(0,.sl 4)] ?_
     obtain ⟨e0,f0,h⟩:=ob h
     exact eCa f0 (wa J 8 (eSub [] (ih7 (e0,(w64 (U+1))) h)))
    refine wB' J 7 h (fun h=>?_) fun h=>?_
    ·refine wO J 8 h fun g0 i0 h=>eIx J (oSl rR5) i0 ?_
     refine wO J 2 h fun j0 k0 h=>eCl (z136_ct N rc rc_ref10_item_ct g0 indent_ _ k0) [] [(0,.sl 4)] ?_
     obtain ⟨l0,m0,h⟩:=ob h
     exact eCa m0 (wa J 8 (eSub [] (ih7 (l0,(w64 (U+1))) h)))
    refine wO J 4 h fun o0 p0 h=>eCa p0 ?_
    refine wO J 8 h fun q0 s0 h=>eIx J (oSl rR5) s0 ?_
    refine wO J 2 h fun t0 u0 h=>eCl (z136_ct N rc rc_ref10_item_ct q0 indent_ _ u0) [] [(0,.sl 4)] ?_
    obtain ⟨v0,x0,h⟩:=ob h
    exact eCa x0 (wa J 8 (eSub [] (ih7 (v0,(w64 (U+1))) h)))
   refine eB' h (fun h=>wa J 14 (eSub [] (j10 false h))) fun h=>?_
   exact wB J 5 h (fun h=>wa J 9 (eSub [] (j10 (U==(w64 ((x_.Blocks.length:Int)-1))) h))) fun h=>wa J 9 (eSub [] (j10 false h))
  exact eSub [] (ih N (G,0) h)
 refine eB h (fun h=>?_) fun h=>?_
 ·refine wO J 4 h fun y0 z0 h=>eCa z0 ?_
  obtain ⟨A0,B0,h⟩:=ob h
  exact eCa B0 (wa J 2 (eSub [] (j1 (A0,(str [])) h)))
 refine wB J 6 h (fun h=>wa J 5 (eSub [] (j1 ((str [112,97,114,32]),(str [32,97,110,100,32])) h))) fun h=>?_
 refine wO J 5 h fun C0 D0 h=>eCa D0 ?_
 obtain ⟨G0,H0,h⟩:=ob h
 refine eCa H0 ?_
 refine wB' J 9 h (fun h=>wa J 2 (eSub [] (j1 (G0,(str [32,111,114,32])) h))) fun h=>?_
 refine wO J 5 h fun I0 L0 h=>eCl (z134_ct N x_.Ticks _ L0) [] [] ?_
 obtain ⟨M0,O0,h⟩:=ob h
 refine eCa O0 ?_
 obtain ⟨R0,S0,h⟩:=ob h
 refine eCa S0 ?_
 obtain ⟨T0,U0,h⟩:=ob h
 exact eCa U0 (wa J 2 (eSub [] (j1 (T0,(str [32,111,114,32])) h)))
theorem z86_rct:∀ (N:Nat) (x_:T5) (indent_:ByteArray) (r:ByteArray) (h:z86_r N x_ indent_=some r),Fn Tryz.prog 86 ⟨2,[.a [.I x_.Kind,.s x_.From,.sl 0,.s x_.Name,.s x_.As,.I x_.Ticks,.sl 1],.c (.s indent_)],[(0,.sl rS x_.To),(1,.sl (rSl rR5) x_.Blocks)],[],2,.c (.s r),[],[]⟩:=by
 intro N
 induction N with
 | zero=>intros;rename_i h;cases h
 | succ N ih=>intro x_ indent_ r h;exact z86_b_ct N (z86_r N) ih x_ indent_ r h
theorem z86_ct (N:Nat) (x_:T5) (indent_:ByteArray) (r:ByteArray) (h:z86 N x_ indent_=some r):Fn Tryz.prog 86 ⟨2,[.a [.I x_.Kind,.s x_.From,.sl 0,.s x_.Name,.s x_.As,.I x_.Ticks,.sl 1],.c (.s indent_)],[(0,.sl rS x_.To),(1,.sl (rSl rR5) x_.Blocks)],[],2,.c (.s r),[],[]⟩:=z86_rct N x_ indent_ r h
theorem z39_ct (N:Nat) (l_:(List T7)) (r:ByteArray) (h:z39 N l_=some r) :
 Fn Tryz.prog 39 ⟨1,[.S 0],[(0,.sl rR7 l_)],[],1,.c (.s r),[],[]⟩:=by
 refine eFn func39 rfl (fun E F w=>?_)
 unfold z39 at h
 refine wa J 13 (eCut (σ:=ByteArray) (fun st=>(zz6 l_ [(3,.c (.s st))])) (fun st=>z39_k1 st=some r) ?_ (fun j1=>?_))
 ·intro d h
  replace h:z39_k1 d=some r:=h
  unfold z39_k1 at h
  cases h
  exact wr J 5 func39 []
 refine wa J 1 (eLoop (σ:=ByteArray × Int) (fun st=>(zz6 l_ [(0,.S 0),(3,.c (.s st.1)),(4,.I st.2)])) (fun n st=>z39_l2 N l_ n st.1 st.2) (r:=r) (fun _=>rfl) ?_ (fun ih=>?_))
 ·intro n22 ih21
  rintro ⟨e,f⟩ h
  replace h:z39_l2 N l_ (n22+1) e f=some r:=h
  unfold z39_l2 at h
  refine wB' J 8 h (fun h=>wa J 2 (eSub [] (j1 e h))) fun h=>?_
  refine wO J 9 h fun g i h=>eIx J oO7 i ?_
  refine wO J 2 h fun j k h=>eCa k ?_
  obtain ⟨l,m,h⟩:=ob h
  refine eCa m ?_
  refine wO J 2 h fun o p h=>eIx J oO7 p ?_
  refine wO J 2 h fun q t h=>eCl (z84_ct N o.Roles _ t) [] [(0,.sl 6)] ?_
  obtain ⟨u,v,h⟩:=ob h
  refine eCa v ?_
  obtain ⟨x,y,h⟩:=ob h
  refine eCa y ?_
  obtain ⟨z,A,h⟩:=ob h
  refine eCa A (wa J 1 (eEnd (wa J 5 (eCut (σ:=ByteArray) (fun st=>(zz7 l_ [(0,.S 0),(3,.c (.s st)),(4,.I f)])) (fun st=>z39_k5 N l_ f (z39_l2 N l_ n22) st=some r) ?_ (fun j34=>?_)))))
  ·intro C h
   replace h:z39_k5 N l_ f (z39_l2 N l_ n22) C=some r:=h
   unfold z39_k5 at h
   refine wa J 5 (eCut (σ:=ByteArray) (fun st=>(zz7 l_ [(0,.S 0),(3,.c (.s st)),(4,.I f)])) (fun st=>z39_k3 f (z39_l2 N l_ n22) st=some r) ?_ (fun j36=>?_))
   ·intro D h
    replace h:z39_k3 f (z39_l2 N l_ n22) D=some r:=h
    unfold z39_k3 at h
    exact wO J 2 h fun G H h=>eCa H (wa J 8 (eSub [] (ih21 (G,(w64 (f+1))) h)))
   refine wa J 1 (eLoop (σ:=ByteArray × Int) (fun st=>(zz7 l_ [(0,.S 0),(3,.c (.s st.1)),(4,.I f),(6,.I st.2)])) (fun n st=>z39_l4 N l_ f (z39_l2 N l_ n22) n st.1 st.2) (r:=r) (fun _=>rfl) ?_ (fun ih=>?_))
   ·intro n25 ih38
    rintro ⟨R,T⟩ h
    replace h:z39_l4 N l_ f (z39_l2 N l_ n22) (n25+1) R T=some r:=h
    unfold z39_l4 at h
    refine wO J 6 h fun U X h=>eIx J oO7 X ?_
    refine wB' J 5 h (fun h=>wa J 2 (eSub [] (j36 R h))) fun h=>?_
    refine wO J 8 h fun Y Z h=>eIx J oO7 Z ?_
    refine wO J 3 h fun a0 b0 h=>eIx J oO5 b0 ?_
    refine wO J 1 h fun c0 d0 h=>eCl (z86_ct N a0 (str [9]) _ d0) [] [(0,.sl 18),(1,.sl 19)] ?_
    obtain ⟨e0,f0,h⟩:=ob h
    refine eCa f0 ?_
    obtain ⟨g0,i0,h⟩:=ob h
    refine eCa i0 ?_
    obtain ⟨j0,k0,h⟩:=ob h
    exact eCa k0 (wa J 8 (eSub [] (ih38 (j0,(w64 (T+1))) h)))
   exact eSub [] (ih N (C,0) h)
  refine wa J 1 (eLoop (σ:=ByteArray × Int) (fun st=>(zz7 l_ [(0,.S 0),(3,.c (.s st.1)),(4,.I f),(5,.I st.2)])) (fun n st=>z39_l6 N l_ f (z39_l2 N l_ n22) n st.1 st.2) (r:=r) (fun _=>rfl) ?_ (fun ih=>?_))
  ·intro n26 ih39
   rintro ⟨l0,m0⟩ h
   replace h:z39_l6 N l_ f (z39_l2 N l_ n22) (n26+1) l0 m0=some r:=h
   unfold z39_l6 at h
   refine wO J 6 h fun o0 p0 h=>eIx J oO7 p0 ?_
   refine wB' J 5 h (fun h=>wa J 2 (eSub [] (j34 l0 h))) fun h=>?_
   refine wO J 8 h fun q0 s0 h=>eIx J oO7 s0 ?_
   refine wO J 3 h fun t0 u0 h=>eIx J oO6 u0 ?_
   refine wO J 1 h fun v0 x0 h=>eCl (z85_ct N t0 _ x0) [] [(0,.sl 18),(1,.sl 19)] ?_
   obtain ⟨y0,z0,h⟩:=ob h
   refine eCa z0 ?_
   obtain ⟨A0,B0,h⟩:=ob h
   refine eCa B0 ?_
   obtain ⟨C0,D0,h⟩:=ob h
   exact eCa D0 (wa J 8 (eSub [] (ih39 (C0,(w64 (m0+1))) h)))
  exact eSub [] (ih N (z,0) h)
 exact eSub [] (ih N ((str []),0) h)
theorem z19_ct (N:Nat) (l_:(List T7)) (r:Bool) (h:z19 N l_=some r) :
 Fn Tryz.prog 19 ⟨1,[.S 0],[(0,.sl rR7 l_)],[],1,.O r,[],[]⟩:=by
 refine eFn func19 rfl (fun E F w=>?_)
 unfold z19 at h
 refine wB J 11 h (fun h=>?_) fun h=>wa J 7 (eCut (σ:=Unit) (fun st=>(zz6 l_ [(0,.S 0)])) (fun st=>z19_k1 N l_=some r) ?_ (fun j1=>?_))
 ·cases h
  exact wr J 5 func19 []
 ·intro _ h
  replace h:z19_k1 N l_=some r:=h
  unfold z19_k1 at h
  refine wO J 3 h fun c d h=>eCl (z39_ct N l_ _ d) [] [(0,.sl 0)] ?_
  cases h
  exact wr J 4 func19 []
 refine wa J 1 (eLoop (σ:=Int) (fun st=>(zz6 l_ [(0,.S 0),(3,.I st)])) (fun n st=>z19_l2 N l_ n st) (r:=r) (fun _=>rfl) ?_ (fun ih=>?_))
 ·intro n12 ih12
  intro e h
  replace h:z19_l2 N l_ (n12+1) e=some r:=h
  unfold z19_l2 at h
  refine wB' J 8 h (fun h=>wa J 2 (eSub [] (j1 () h))) fun h=>?_
  refine wO J 8 h fun f g h=>eIx J oO7 g ?_
  refine wO J 9 h fun i j h=>eCl (z40_ct N f.Name _ j) [] [] ?_
  refine wB J 2 h (fun h=>?_) fun h=>?_
  ·cases h
   exact wr J 35 func19 []
  refine wO J 2 h fun k l h=>eCl (z41_ct N f.Roles 6 _ l) [] [(0,.sl 2)] ?_
  refine wB J 3 h (fun h=>?_) fun h=>?_
  ·cases h
   exact wr J 29 func19 []
  refine wB J 6 h (fun h=>?_) fun h=>?_
  ·cases h
   exact wr J 23 func19 []
  refine wO J 2 h fun m o h=>eCl (z42_ct N f.Body _ o) [] [(0,.sl 4)] ?_
  refine wB J 3 h (fun h=>?_) fun h=>?_
  ·cases h
   exact wr J 17 func19 []
  refine wO J 2 h fun p q h=>eCl (z37_ct N f.Body _ q) [] [(0,.sl 4)] ?_
  refine wB J 3 h (fun h=>?_) fun h=>?_
  ·cases h
   exact wr J 11 func19 []
  refine wO J 2 h fun t u h=>eCl (z43_ct N f.Body _ u) [] [(0,.sl 4)] ?_
  refine wB J 3 h (fun h=>?_) fun h=>wa J 6 (eCut (σ:=Unit) (fun st=>⟨[(0,.S 0),(3,.I e)],[],[(0,.sl rR7 l_)],6⟩) (fun st=>z19_k3 e (z19_l2 N l_ n12)=some r) ?_ (fun j19=>?_))
  ·cases h
   exact wr J 5 func19 []
  ·intro _ h
   replace h:z19_k3 e (z19_l2 N l_ n12)=some r:=h
   unfold z19_k3 at h
   exact wa J 6 (eSub [] (ih12 (w64 (e+1)) h))
  refine wa J 1 (eLoop (σ:=Int) (fun st=>⟨[(0,.S 0),(3,.I e),(4,.B 5 0),(5,.I st)],[(5,.box [.s f.Name,.sl 2,.sl 3,.sl 4] 68)],((0,.sl rR7 l_)::vV7 2 3 4 f []),6⟩) (fun n st=>z19_l4 N e (z19_l2 N l_ n12) f n st) (r:=r) (fun _=>rfl) ?_ (fun ih=>?_))
  ·intro n14 ih21
   intro v h
   replace h:z19_l4 N e (z19_l2 N l_ n12) f (n14+1) v=some r:=h
   unfold z19_l4 at h
   refine wB' J 9 h (fun h=>wa J 2 (eSub [] (j19 () h))) fun h=>?_
   refine wO J 9 h fun x y h=>eIx J oO6 y ?_
   refine wO J 1 h fun z A h=>eCl (z44_ct N x _ A) [] [(0,.sl 7),(1,.sl 8)] ?_
   refine wB J 2 h (fun h=>?_) fun h=>wa J 8 (eSub [] (ih21 (w64 (v+1)) h))
   cases h
   exact wr J 5 func19 []
  exact eSub [] (ih N 0 h)
 exact eSub [] (ih N 0 h)
theorem z31_b_ct (N:Nat) (rc:(List T10)→Option (List T5)) (rc_law10_theirItems_ct:(∀ (l_:(List T10)) (r:(List T5)),rc l_=some r→Fn Tryz.prog 31 ⟨1,[.S 0],[(0,.sl rR10 l_)],[],2,.S 1,[],[(1,.own rR5 r true)]⟩)) (l_:(List T10)) (r:(List T5)) (h:z31_b N rc l_=some r) :
 Fn Tryz.prog 31 ⟨1,[.S 0],[(0,.sl rR10 l_)],[],2,.S 1,[],[(1,.own rR5 r true)]⟩:=by
 refine eFn func31 rfl (fun E F w=>?_)
 unfold z31_b at h
 refine wa J 15 (eCut (σ:=(List T5)) (fun st=>⟨[(3,.S 1)],[(1,.own rR5 st true)],[(0,.sl rR10 l_)],2⟩) (fun st=>z31_k1 st=some r) ?_ (fun j1=>?_))
 ·intro c h
  replace h:z31_k1 c=some r:=h
  unfold z31_k1 at h
  cases h
  exact wr J 5 func31 [(1,.sl 1)]
 refine wa J 1 (eLoop (σ:=(List T5) × Int) (fun st=>⟨[(3,.S 1),(9,.S 0),(10,.I (l_.length:Int)),(11,.I st.2)],[(1,.own rR5 st.1 true)],[(0,.sl rR10 l_)],2⟩) (fun n st=>z31_l2 N rc l_ n st.1 st.2) (r:=r) (fun _=>rfl) ?_ (fun ih=>?_))
 ·intro n12 ih12
  rintro ⟨d,e⟩ h
  replace h:z31_l2 N rc l_ (n12+1) d e=some r:=h
  unfold z31_l2 at h
  refine wB' J 5 h (fun h=>wa J 2 (eSub [] (j1 d h))) fun h=>?_
  refine wO J 6 h fun f g h=>eIx J oO10 g (wa J 30 (eCut (σ:=(List (List T5))) (fun st=>⟨[(3,.S 1),(6,.B 6 0),(9,.S 0),(10,.I (l_.length:Int)),(11,.I e)],[(1,.own rR5 d true),(6,.box [.I f.Kind,.s f.From,.sl 3,.s f.Name,.s f.As,.I f.Ticks,.sl 7] 121),(7,.own (rSl rR5) st true)],[(0,.sl rR10 l_),(3,.sl rS f.To)],8⟩) (fun st=>z31_k3 d e (z31_l2 N rc l_ n12) f st=some r) ?_ (fun j19=>?_)))
  ·intro i h
   replace h:z31_k3 d e (z31_l2 N rc l_ n12) f i=some r:=h
   unfold z31_k3 at h
   refine wa J 3 (eBs J [7] oO5 ([(⟨f.Kind,f.From,f.To,f.Name,f.As,f.Ticks,i⟩:T5)]:List T5) ?_)
   obtain ⟨j,k,h⟩:=ob h
   exact eAp J rR5 k (wa J 7 (eSub [(1,.sl 9)] (ih12 (j,(w64 (e+1))) h)))
  refine wa J 1 (eLoop (σ:=(List (List T5)) × Int) (fun st=>⟨[(3,.S 1),(6,.B 6 0),(9,.S 0),(10,.I (l_.length:Int)),(11,.I e),(29,.S 4),(30,.I (f.Blocks.length:Int)),(31,.I st.2)],[(1,.own rR5 d true),(6,.box [.I f.Kind,.s f.From,.sl 3,.s f.Name,.s f.As,.I f.Ticks,.sl 7] 121),(7,.own (rSl rR5) st.1 true)],[(0,.sl rR10 l_),(3,.sl rS f.To),(4,.sl (rSl rR10) f.Blocks)],8⟩) (fun n st=>z31_l4 rc d e (z31_l2 N rc l_ n12) f n st.1 st.2) (r:=r) (fun _=>rfl) ?_ (fun ih=>?_))
  ·intro n14 ih21
   rintro ⟨l,m⟩ h
   replace h:z31_l4 rc d e (z31_l2 N rc l_ n12) f (n14+1) l m=some r:=h
   unfold z31_l4 at h
   refine wB' J 5 h (fun h=>wa J 2 (eSub [] (j19 l h))) fun h=>?_
   refine wO J 6 h fun o p h=>eIx J (oSl rR10) p ?_
   refine wO J 7 h fun q t h=>eCl (rc_law10_theirItems_ct o _ t) [] [(0,.sl 9)] (eBs J [10] (oSl rR5) ([q]:List (List T5)) ?_)
   obtain ⟨u,v,h⟩:=ob h
   exact eAp J (rSl rR5) v (wa J 2 (eEnd (wa J 5 (eSub [(7,.sl 12)] (ih21 (u,(w64 (m+1))) h)))))
  exact eSub [(7,.nil)] (ih N (([]:List (List T5)),0) h)
 exact eSub [(1,.nil)] (ih N (([]:List T5),0) h)
theorem z31_rct:∀ (N:Nat) (l_:(List T10)) (r:(List T5)) (h:z31_r N l_=some r),Fn Tryz.prog 31 ⟨1,[.S 0],[(0,.sl rR10 l_)],[],2,.S 1,[],[(1,.own rR5 r true)]⟩:=by
 intro N
 induction N with
 | zero=>intros;rename_i h;cases h
 | succ N ih=>intro l_ r h;exact z31_b_ct N (z31_r N) ih l_ r h
theorem z31_ct (N:Nat) (l_:(List T10)) (r:(List T5)) (h:z31 N l_=some r):Fn Tryz.prog 31 ⟨1,[.S 0],[(0,.sl rR10 l_)],[],2,.S 1,[],[(1,.own rR5 r true)]⟩:=z31_rct N l_ r h
theorem z13_ct (N:Nat) (l_:(List T12)) (r:(List T7)) (h:z13 N l_=some r) :
 Fn Tryz.prog 13 ⟨1,[.S 0],[(0,.sl rR12 l_)],[],2,.S 1,[],[(1,.own rR7 r true)]⟩:=by
 refine eFn func13 rfl (fun E F w=>?_)
 unfold z13 at h
 refine wa J 15 (eCut (σ:=(List T7)) (fun st=>⟨[(3,.S 1)],[(1,.own rR7 st true)],[(0,.sl rR12 l_)],2⟩) (fun st=>z13_k1 st=some r) ?_ (fun j1=>?_))
 ·intro c h
  replace h:z13_k1 c=some r:=h
  unfold z13_k1 at h
  cases h
  exact wr J 5 func13 [(1,.sl 1)]
 refine wa J 1 (eLoop (σ:=(List T7) × Int) (fun st=>⟨[(3,.S 1),(12,.S 0),(13,.I (l_.length:Int)),(14,.I st.2)],[(1,.own rR7 st.1 true)],[(0,.sl rR12 l_)],2⟩) (fun n st=>z13_l2 N l_ n st.1 st.2) (r:=r) (fun _=>rfl) ?_ (fun ih=>?_))
 ·intro n72 ih66
  rintro ⟨d,e⟩ h
  replace h:z13_l2 N l_ (n72+1) d e=some r:=h
  unfold z13_l2 at h
  refine wB' J 5 h (fun h=>wa J 2 (eSub [] (j1 d h))) fun h=>?_
  refine wO J 6 h fun f g h=>eIx J oO12 g ?_
  refine wO J 12 h fun i j h=>eCl (z31_ct N f.Body _ j) [] [(0,.sl 5)] (wa J 3 (eEnd (wa J 8 (eCut (σ:=(List T6)) (fun st=>⟨[(3,.S 1),(6,.B 8 0),(12,.S 0),(13,.I (l_.length:Int)),(14,.I e)],[(1,.own rR7 d true),(7,.own rR5 i true),(8,.box [.s f.Name,.sl 3,.sl 9,.sl 7] 68),(9,.own rR6 st true)],[(0,.sl rR12 l_),(3,.sl rS f.Roles)],10⟩) (fun st=>z13_k3 d e (z13_l2 N l_ n72) f i st=some r) ?_ (fun j109=>?_)))))
  ·intro k h
   replace h:z13_k3 d e (z13_l2 N l_ n72) f i k=some r:=h
   unfold z13_k3 at h
   refine wa J 3 (eBs J [9,7] oO7 ([(⟨f.Name,f.Roles,k,i⟩:T7)]:List T7) ?_)
   obtain ⟨l,m,h⟩:=ob h
   exact eAp J rR7 m (wa J 7 (eSub [(1,.sl 11)] (ih66 (l,(w64 (e+1))) h)))
  refine wa J 1 (eLoop (σ:=(List T6) × Int) (fun st=>⟨[(3,.S 1),(6,.B 8 0),(12,.S 0),(13,.I (l_.length:Int)),(14,.I e),(27,.S 4),(28,.I (f.Messages.length:Int)),(29,.I st.2)],[(1,.own rR7 d true),(7,.own rR5 i true),(8,.box [.s f.Name,.sl 3,.sl 9,.sl 7] 68),(9,.own rR6 st.1 true)],[(0,.sl rR12 l_),(3,.sl rS f.Roles),(4,.sl rR11 f.Messages)],10⟩) (fun n st=>z13_l4 N d e (z13_l2 N l_ n72) f i n st.1 st.2) (r:=r) (fun _=>rfl) ?_ (fun ih=>?_))
  ·intro n84 ih120
   rintro ⟨o,p⟩ h
   replace h:z13_l4 N d e (z13_l2 N l_ n72) f i (n84+1) o p=some r:=h
   unfold z13_l4 at h
   refine wB' J 5 h (fun h=>wa J 2 (eSub [] (j109 o h))) fun h=>?_
   refine wO J 6 h fun q t h=>eIx J oO11 t (wa J 22 (eCut (σ:=(List T4)) (fun st=>⟨[(3,.S 1),(6,.B 8 0),(9,.B 14 0),(12,.S 0),(13,.I (l_.length:Int)),(14,.I e),(27,.S 4),(28,.I (f.Messages.length:Int)),(29,.I p)],[(1,.own rR7 d true),(7,.own rR5 i true),(8,.box [.s f.Name,.sl 3,.sl 9,.sl 7] 68),(9,.own rR6 o true),(14,.box [.s q.Name,.sl 11,.sl 15] 80),(15,.own rR4 st true)],[(0,.sl rR12 l_),(3,.sl rS f.Roles),(4,.sl rR11 f.Messages),(11,.sl rR0 q.Fields)],16⟩) (fun st=>z13_k5 o p (z13_l4 N d e (z13_l2 N l_ n72) f i n84) q st=some r) ?_ (fun j127=>?_)))
   ·intro u h
    replace h:z13_k5 o p (z13_l4 N d e (z13_l2 N l_ n72) f i n84) q u=some r:=h
    unfold z13_k5 at h
    refine wa J 4 (eBs J [15] oO6 ([(⟨q.Name,q.Fields,u⟩:T6)]:List T6) ?_)
    obtain ⟨v,x,h⟩:=ob h
    exact eAp J rR6 x (wa J 8 (eSub [(9,.sl 17)] (ih120 (v,(w64 (p+1))) h)))
   refine wa J 1 (eLoop (σ:=(List T4) × Int) (fun st=>⟨[(3,.S 1),(6,.B 8 0),(9,.B 14 0),(12,.S 0),(13,.I (l_.length:Int)),(14,.I e),(27,.S 4),(28,.I (f.Messages.length:Int)),(29,.I p),(39,.S 12),(40,.I (q.Where.length:Int)),(41,.I st.2)],[(1,.own rR7 d true),(7,.own rR5 i true),(8,.box [.s f.Name,.sl 3,.sl 9,.sl 7] 68),(9,.own rR6 o true),(14,.box [.s q.Name,.sl 11,.sl 15] 80),(15,.own rR4 st.1 true)],((0,.sl rR12 l_)::(3,.sl rS f.Roles)::(4,.sl rR11 f.Messages)::vV11 11 12 q []),16⟩) (fun n st=>z13_l6 o p (z13_l4 N d e (z13_l2 N l_ n72) f i n84) q n st.1 st.2) (r:=r) (fun _=>rfl) ?_ (fun ih=>?_))
   ·intro n86 ih129
    rintro ⟨y,z⟩ h
    replace h:z13_l6 o p (z13_l4 N d e (z13_l2 N l_ n72) f i n84) q (n86+1) y z=some r:=h
    unfold z13_l6 at h
    refine wB' J 5 h (fun h=>wa J 2 (eSub [] (j127 y h))) fun h=>?_
    refine wO J 6 h fun A C h=>eIx J oO9 C (wa J 14 (eBs J [] oO4 ([(⟨A.Left,A.Op,A.Right⟩:T4)]:List T4) ?_))
    obtain ⟨D,G,h⟩:=ob h
    exact eAp J rR4 G (wa J 8 (eSub [(15,.sl 19)] (ih129 (D,(w64 (z+1))) h)))
   exact eSub [(15,.nil)] (ih N (([]:List T4),0) h)
  exact eSub [(9,.nil)] (ih N (([]:List T6),0) h)
 exact eSub [(1,.nil)] (ih N (([]:List T7),0) h)
theorem z28_ct (N:Nat) (a_:(List ByteArray)) (b_:(List ByteArray)) (r:Bool) (h:z28 N a_ b_=some r) :
 Fn Tryz.prog 28 ⟨2,[.S 0,.S 1],[(0,.sl rS a_),(1,.sl rS b_)],[],2,.O r,[],[]⟩:=by
 refine eFn func28 rfl (fun E F w=>?_)
 unfold z28 at h
 refine wB J 13 h (fun h=>?_) fun h=>wa J 7 (eCut (σ:=Unit) (fun st=>(zz10 a_ b_ [])) (fun st=>z28_k1=some r) ?_ (fun j1=>?_))
 ·cases h
  exact wr J 5 func28 []
 ·intro _ h
  replace h:z28_k1=some r:=h
  unfold z28_k1 at h
  cases h
  exact wr J 4 func28 []
 refine wa J 1 (eLoop (σ:=Int) (fun st=>(zz10 a_ b_ [(0,.S 0),(1,.S 1),(5,.I st)])) (fun n st=>z28_l2 a_ b_ n st) (r:=r) (fun _=>rfl) ?_ (fun ih=>?_))
 ·intro n2 ih3
  intro c h
  replace h:z28_l2 a_ b_ (n2+1) c=some r:=h
  unfold z28_l2 at h
  refine wB' J 8 h (fun h=>wa J 2 (eSub [] (j1 () h))) fun h=>?_
  refine wO J 8 h fun d e h=>eIx J oS e ?_
  refine wO J 3 h fun f g h=>eIx J oS g (wa J 2 (eEnd ?_))
  refine eB h (fun h=>?_) fun h=>wa J 8 (eSub [] (ih3 (w64 (c+1)) h))
  cases h
  exact wr J 5 func28 []
 exact eSub [] (ih N 0 h)
theorem z29_ct (N:Nat) (a_:(List T6)) (b_:(List T6)) (r:Bool) (h:z29 N a_ b_=some r) :
 Fn Tryz.prog 29 ⟨2,[.S 0,.S 1],[(0,.sl rR6 a_),(1,.sl rR6 b_)],[],2,.O r,[],[]⟩:=by
 refine eFn func29 rfl (fun E F w=>?_)
 unfold z29 at h
 refine wB J 13 h (fun h=>?_) fun h=>wa J 7 (eCut (σ:=Unit) (fun st=>⟨[],[],[(0,.sl rR6 a_),(1,.sl rR6 b_)],2⟩) (fun st=>z29_k1=some r) ?_ (fun j1=>?_))
 ·cases h
  exact wr J 5 func29 []
 ·intro _ h
  replace h:z29_k1=some r:=h
  unfold z29_k1 at h
  cases h
  exact wr J 4 func29 []
 refine wa J 1 (eLoop (σ:=Int) (fun st=>⟨[(0,.S 0),(1,.S 1),(5,.I st)],[],[(0,.sl rR6 a_),(1,.sl rR6 b_)],2⟩) (fun n st=>z29_l2 N a_ b_ n st) (r:=r) (fun _=>rfl) ?_ (fun ih=>?_))
 ·intro n22 ih21
  intro c h
  replace h:z29_l2 N a_ b_ (n22+1) c=some r:=h
  unfold z29_l2 at h
  refine wB' J 8 h (fun h=>wa J 2 (eSub [] (j1 () h))) fun h=>?_
  refine wO J 9 h fun d e h=>eIx J oO6 e ?_
  refine wO J 4 h fun f g h=>eIx J oO6 g ?_
  refine wB J 4 h (fun h=>wa J 29 (eEnd ?_)) fun h=>?_
  ·cases h
   exact wr J 5 func29 []
  refine wO J 2 h fun i j h=>eIx J oO6 j ?_
  refine wO J 5 h fun k l h=>eIx J oO6 l ?_
  refine wB J 6 h (fun h=>wa J 14 (eEnd ?_)) fun h=>?_
  ·cases h
   exact wr J 5 func29 []
  refine wO J 2 h fun m o h=>eIx J oO6 o ?_
  refine wO J 5 h fun p q h=>eIx J oO6 q (wa J 5 (eEnd ?_))
  refine eB h (fun h=>?_) fun h=>wa J 7 (eCut (σ:=Unit) (fun st=>(zz11 a_ b_ [(0,.S 0),(1,.S 1),(5,.I c)])) (fun st=>z29_k5 N a_ b_ c (z29_l2 N a_ b_ n22)=some r) ?_ (fun j34=>?_))
  ·cases h
   exact wr J 5 func29 []
  ·intro _ h
   replace h:z29_k5 N a_ b_ c (z29_l2 N a_ b_ n22)=some r:=h
   unfold z29_k5 at h
   refine wa J 4 (eCut (σ:=Unit) (fun st=>(zz11 a_ b_ [(0,.S 0),(1,.S 1),(5,.I c)])) (fun st=>z29_k3 c (z29_l2 N a_ b_ n22)=some r) ?_ (fun j36=>?_))
   ·intro _ h
    replace h:z29_k3 c (z29_l2 N a_ b_ n22)=some r:=h
    unfold z29_k3 at h
    exact wa J 6 (eSub [] (ih21 (w64 (c+1)) h))
   refine wa J 1 (eLoop (σ:=Int) (fun st=>(zz11 a_ b_ [(0,.S 0),(1,.S 1),(5,.I c),(7,.I st)])) (fun n st=>z29_l4 a_ b_ c (z29_l2 N a_ b_ n22) n st) (r:=r) (fun _=>rfl) ?_ (fun ih=>?_))
   ·intro n25 ih38
    intro s h
    replace h:z29_l4 a_ b_ c (z29_l2 N a_ b_ n22) (n25+1) s=some r:=h
    unfold z29_l4 at h
    refine wO J 6 h fun t u h=>eIx J oO6 u ?_
    refine wB' J 5 h (fun h=>wa J 2 (eSub [] (j36 () h))) fun h=>?_
    refine wO J 8 h fun v x h=>eIx J oO6 x ?_
    refine wO J 3 h fun y z h=>eIx J oO4 z ?_
    refine wO J 3 h fun A C h=>eIx J oO6 C ?_
    refine wO J 3 h fun D G h=>eIx J oO4 G (wa J 1 (eEq (eEnd ?_)))
    refine eB h (fun h=>?_) fun h=>wa J 8 (eSub [] (ih38 (w64 (s+1)) h))
    cases h
    exact wr J 5 func29 []
   exact eSub [] (ih N 0 h)
  refine wa J 1 (eLoop (σ:=Int) (fun st=>(zz11 a_ b_ [(0,.S 0),(1,.S 1),(5,.I c),(6,.I st)])) (fun n st=>z29_l6 N a_ b_ c (z29_l2 N a_ b_ n22) n st) (r:=r) (fun _=>rfl) ?_ (fun ih=>?_))
  ·intro n26 ih39
   intro H h
   replace h:z29_l6 N a_ b_ c (z29_l2 N a_ b_ n22) (n26+1) H=some r:=h
   unfold z29_l6 at h
   refine wO J 6 h fun R T h=>eIx J oO6 T ?_
   refine wB' J 5 h (fun h=>wa J 2 (eSub [] (j34 () h))) fun h=>?_
   refine wO J 8 h fun U X h=>eIx J oO6 X ?_
   refine wO J 3 h fun Y Z h=>eIx J oO0 Z ?_
   refine wO J 3 h fun a0 b0 h=>eIx J oO6 b0 ?_
   refine wO J 3 h fun c0 d0 h=>eIx J oO0 d0 (wa J 1 (eEq (eEnd ?_)))
   refine eB h (fun h=>?_) fun h=>wa J 8 (eSub [] (ih39 (w64 (H+1)) h))
   cases h
   exact wr J 5 func29 []
  exact eSub [] (ih N 0 h)
 exact eSub [] (ih N 0 h)
theorem z30_b_ct (N:Nat) (rc:(List T5)→(List T5)→Option Bool) (rc_ref10_EqualItems_ct:(∀ (a_:(List T5)) (b_:(List T5)) (r:Bool),rc a_ b_=some r→Fn Tryz.prog 30 ⟨2,[.S 0,.S 1],[(0,.sl rR5 a_),(1,.sl rR5 b_)],[],2,.O r,[],[]⟩)) (a_:(List T5)) (b_:(List T5)) (r:Bool) (h:z30_b N rc a_ b_=some r) :
 Fn Tryz.prog 30 ⟨2,[.S 0,.S 1],[(0,.sl rR5 a_),(1,.sl rR5 b_)],[],2,.O r,[],[]⟩:=by
 refine eFn func30 rfl (fun E F w=>?_)
 unfold z30_b at h
 refine wB J 13 h (fun h=>?_) fun h=>wa J 7 (eCut (σ:=Unit) (fun st=>⟨[],[],[(0,.sl rR5 a_),(1,.sl rR5 b_)],2⟩) (fun st=>z30_k1=some r) ?_ (fun j1=>?_))
 ·cases h
  exact wr J 5 func30 []
 ·intro _ h
  replace h:z30_k1=some r:=h
  unfold z30_k1 at h
  cases h
  exact wr J 4 func30 []
 refine wa J 1 (eLoop (σ:=Int) (fun st=>⟨[(0,.S 0),(1,.S 1),(5,.I st)],[],[(0,.sl rR5 a_),(1,.sl rR5 b_)],2⟩) (fun n st=>z30_l2 N rc a_ b_ n st) (r:=r) (fun _=>rfl) ?_ (fun ih=>?_))
 ·intro n12 ih12
  intro c h
  replace h:z30_l2 N rc a_ b_ (n12+1) c=some r:=h
  unfold z30_l2 at h
  refine wB' J 8 h (fun h=>wa J 2 (eSub [] (j1 () h))) fun h=>?_
  refine wO J 8 h fun d e h=>eIx J oO5 e ?_
  refine wO J 3 h fun f g h=>eIx J oO5 g (wa J 5 (eEnd ?_))
  refine wB J 9 h (fun h=>?_) fun h=>?_
  ·cases h
   exact wr J 50 func30 []
  refine wB J 7 h (fun h=>?_) fun h=>?_
  ·cases h
   exact wr J 43 func30 []
  refine wO J 4 h fun i j h=>eCl (z28_ct N d.To f.To _ j) [] [(0,.sl 3),(1,.sl 6)] ?_
  refine wB J 3 h (fun h=>?_) fun h=>?_
  ·cases h
   exact wr J 35 func30 []
  refine wB J 7 h (fun h=>?_) fun h=>?_
  ·cases h
   exact wr J 28 func30 []
  refine wB J 7 h (fun h=>?_) fun h=>?_
  ·cases h
   exact wr J 21 func30 []
  refine wB J 7 h (fun h=>?_) fun h=>?_
  ·cases h
   exact wr J 14 func30 []
  refine wB J 9 h (fun h=>?_) fun h=>wa J 6 (eCut (σ:=Unit) (fun st=>⟨[(0,.S 0),(1,.S 1),(5,.I c)],[],[(0,.sl rR5 a_),(1,.sl rR5 b_)],10⟩) (fun st=>z30_k3 c (z30_l2 N rc a_ b_ n12)=some r) ?_ (fun j19=>?_))
  ·cases h
   exact wr J 5 func30 []
  ·intro _ h
   replace h:z30_k3 c (z30_l2 N rc a_ b_ n12)=some r:=h
   unfold z30_k3 at h
   exact wa J 6 (eSub [] (ih12 (w64 (c+1)) h))
  refine wa J 1 (eLoop (σ:=Int) (fun st=>⟨[(0,.S 0),(1,.S 1),(5,.I c),(6,.B 8 0),(7,.B 9 0),(8,.I st)],[(8,.box [.I d.Kind,.s d.From,.sl 3,.s d.Name,.s d.As,.I d.Ticks,.sl 4] 121),(9,.box [.I f.Kind,.s f.From,.sl 6,.s f.Name,.s f.As,.I f.Ticks,.sl 7] 121)],[(0,.sl rR5 a_),(1,.sl rR5 b_),(3,.sl rS d.To),(4,.sl (rSl rR5) d.Blocks),(6,.sl rS f.To),(7,.sl (rSl rR5) f.Blocks)],10⟩) (fun n st=>z30_l4 rc c (z30_l2 N rc a_ b_ n12) d f n st) (r:=r) (fun _=>rfl) ?_ (fun ih=>?_))
  ·intro n14 ih21
   intro k h
   replace h:z30_l4 rc c (z30_l2 N rc a_ b_ n12) d f (n14+1) k=some r:=h
   unfold z30_l4 at h
   refine wB' J 9 h (fun h=>wa J 2 (eSub [] (j19 () h))) fun h=>?_
   refine wO J 9 h fun l m h=>eIx J (oSl rR5) m ?_
   refine wO J 4 h fun o p h=>eIx J (oSl rR5) p ?_
   refine wO J 1 h fun q t h=>eCl (rc_ref10_EqualItems_ct l o _ t) [] [(0,.sl 11),(1,.sl 13)] (wa J 1 (eEnd ?_))
   refine eB h (fun h=>?_) fun h=>wa J 8 (eSub [] (ih21 (w64 (k+1)) h))
   cases h
   exact wr J 5 func30 []
  exact eSub [] (ih N 0 h)
 exact eSub [] (ih N 0 h)
theorem z30_rct:∀ (N:Nat) (a_:(List T5)) (b_:(List T5)) (r:Bool) (h:z30_r N a_ b_=some r),Fn Tryz.prog 30 ⟨2,[.S 0,.S 1],[(0,.sl rR5 a_),(1,.sl rR5 b_)],[],2,.O r,[],[]⟩:=by
 intro N
 induction N with
 | zero=>intros;rename_i h;cases h
 | succ N ih=>intro a_ b_ r h;exact z30_b_ct N (z30_r N) ih a_ b_ r h
theorem z30_ct (N:Nat) (a_:(List T5)) (b_:(List T5)) (r:Bool) (h:z30 N a_ b_=some r):Fn Tryz.prog 30 ⟨2,[.S 0,.S 1],[(0,.sl rR5 a_),(1,.sl rR5 b_)],[],2,.O r,[],[]⟩:=z30_rct N a_ b_ r h
theorem z12_ct (N:Nat) (a_:(List T7)) (b_:(List T7)) (r:Bool) (h:z12 N a_ b_=some r) :
 Fn Tryz.prog 12 ⟨2,[.S 0,.S 1],[(0,.sl rR7 a_),(1,.sl rR7 b_)],[],2,.O r,[],[]⟩:=by
 refine eFn func12 rfl (fun E F w=>?_)
 unfold z12 at h
 refine wB J 13 h (fun h=>?_) fun h=>wa J 7 (eCut (σ:=Unit) (fun st=>⟨[],[],[(0,.sl rR7 a_),(1,.sl rR7 b_)],2⟩) (fun st=>z12_k1=some r) ?_ (fun j1=>?_))
 ·cases h
  exact wr J 5 func12 []
 ·intro _ h
  replace h:z12_k1=some r:=h
  unfold z12_k1 at h
  cases h
  exact wr J 4 func12 []
 refine wa J 1 (eLoop (σ:=Int) (fun st=>⟨[(0,.S 0),(1,.S 1),(5,.I st)],[],[(0,.sl rR7 a_),(1,.sl rR7 b_)],2⟩) (fun n st=>z12_l2 N a_ b_ n st) (r:=r) (fun _=>rfl) ?_ (fun ih=>?_))
 ·intro n2 ih3
  intro c h
  replace h:z12_l2 N a_ b_ (n2+1) c=some r:=h
  unfold z12_l2 at h
  refine wB' J 8 h (fun h=>wa J 2 (eSub [] (j1 () h))) fun h=>?_
  refine wO J 8 h fun d e h=>eIx J oO7 e ?_
  refine wO J 4 h fun f g h=>eIx J oO7 g ?_
  refine wB J 4 h (fun h=>wa J 41 (eEnd ?_)) fun h=>?_
  ·cases h
   exact wr J 5 func12 []
  refine wO J 2 h fun i j h=>eIx J oO7 j ?_
  refine wO J 4 h fun k l h=>eIx J oO7 l ?_
  refine wO J 2 h fun m o h=>eCl (z28_ct N i.Roles k.Roles _ o) [] [(0,.sl 11),(1,.sl 15)] ?_
  refine wB J 3 h (fun h=>wa J 27 (eEnd ?_)) fun h=>?_
  ·cases h
   exact wr J 5 func12 []
  refine wO J 2 h fun p q h=>eIx J oO7 q ?_
  refine wO J 4 h fun s t h=>eIx J oO7 t ?_
  refine wO J 2 h fun u v h=>eCl (z29_ct N p.Messages s.Messages _ v) [] [(0,.sl 20),(1,.sl 24)] ?_
  refine wB J 3 h (fun h=>wa J 13 (eEnd ?_)) fun h=>?_
  ·cases h
   exact wr J 5 func12 []
  refine wO J 2 h fun x y h=>eIx J oO7 y ?_
  refine wO J 4 h fun z A h=>eIx J oO7 A ?_
  refine wO J 2 h fun C D h=>eCl (z30_ct N x.Body z.Body _ D) [] [(0,.sl 29),(1,.sl 33)] (wa J 2 (eEnd ?_))
  refine eB h (fun h=>?_) fun h=>wa J 8 (eSub [] (ih3 (w64 (c+1)) h))
  cases h
  exact wr J 5 func12 []
 exact eSub [] (ih N 0 h)
theorem z15_ct (N:Nat) (l_:(List T7)) (r:Bool) (h:z15 N l_=some r) :
 Fn Tryz.prog 15 ⟨1,[.S 0],[(0,.sl rR7 l_)],[],1,.O r,[],[]⟩:=by
 refine eFn func15 rfl (fun E F w=>?_)
 unfold z15 at h
 refine wa J 14 (eCut (σ:=Int × Int) (fun st=>(zz6 l_ [(0,.S 0),(3,.I st.1),(4,.I st.2)])) (fun st=>z15_k1 l_ st.1 st.2=some r) ?_ (fun j1=>?_))
 ·rintro ⟨c,d⟩ h
  replace h:z15_k1 l_ c d=some r:=h
  unfold z15_k1 at h
  refine wB' J 6 h (fun h=>?_) fun h=>?_
  ·cases h
   exact wr J 9 func15 []
  refine wB J 4 h (fun h=>?_) fun h=>?_
  ·cases h
   exact wr J 5 func15 []
  cases h
  exact wr J 5 func15 []
 refine wa J 1 (eLoop (σ:=Int × Int × Int) (fun st=>(zz6 l_ [(0,.S 0),(3,.I st.1),(4,.I st.2.1),(5,.I st.2.2)])) (fun n st=>z15_l2 N l_ n st.1 st.2.1 st.2.2) (r:=r) (fun _=>rfl) ?_ (fun ih=>?_))
 ·intro n12 ih12
  rintro ⟨e,f,g⟩ h
  replace h:z15_l2 N l_ (n12+1) e f g=some r:=h
  unfold z15_l2 at h
  refine wB' J 8 h (fun h=>wa J 2 (eSub [] (j1 (e,f) h))) fun h=>?_
  refine wO J 9 h fun i j h=>eIx J oO7 j ?_
  refine wO J 2 h fun k l h=>eCl (z37_ct N i.Body _ l) [] [(0,.sl 4)] ?_
  refine wO J 8 h fun m o h=>eIx J oO7 o (wa J 10 (eCut (σ:=Unit) (fun st=>(zz7 l_ [(0,.S 0),(3,.I (w64 (e+k))),(4,.I (w64 (f+(m.Messages.length:Int)))),(5,.I g)])) (fun st=>z15_k3 e f g (z15_l2 N l_ n12) k m=some r) ?_ (fun j19=>?_)))
  ·intro _ h
   replace h:z15_k3 e f g (z15_l2 N l_ n12) k m=some r:=h
   unfold z15_k3 at h
   exact wa J 6 (eSub [] (ih12 ((w64 (e+k)),(w64 (f+(m.Messages.length:Int))),(w64 (g+1))) h))
  refine wa J 1 (eLoop (σ:=Int) (fun st=>(zz7 l_ [(0,.S 0),(3,.I (w64 (e+k))),(4,.I (w64 (f+(m.Messages.length:Int)))),(5,.I g),(6,.I st)])) (fun n st=>z15_l4 l_ e f g (z15_l2 N l_ n12) k m n st) (r:=r) (fun _=>rfl) ?_ (fun ih=>?_))
  ·intro n14 ih21
   intro p h
   replace h:z15_l4 l_ e f g (z15_l2 N l_ n12) k m (n14+1) p=some r:=h
   unfold z15_l4 at h
   refine wO J 6 h fun q s h=>eIx J oO7 s ?_
   refine wB' J 5 h (fun h=>wa J 2 (eSub [] (j19 () h))) fun h=>?_
   refine wO J 8 h fun t u h=>eIx J oO7 u ?_
   refine wO J 3 h fun v x h=>eIx J oO6 x ?_
   refine wB J 5 h (fun h=>?_) fun h=>?_
   ·cases h
    exact wr J 18 func15 []
   refine wO J 2 h fun y z h=>eIx J oO7 z ?_
   refine wO J 3 h fun A C h=>eIx J oO6 C ?_
   refine wB J 6 h (fun h=>?_) fun h=>wa J 8 (eSub [] (ih21 (w64 (p+1)) h))
   cases h
   exact wr J 5 func15 []
  exact eSub [] (ih N 0 h)
 exact eSub [] (ih N (0,0,0) h)
theorem z38_b_ct (N:Nat) (rc:(List T5)→Option (List T10)) (rc_law10_ownItems_ct:(∀ (l_:(List T5)) (r:(List T10)),rc l_=some r→Fn Tryz.prog 38 ⟨1,[.S 0],[(0,.sl rR5 l_)],[],2,.S 1,[],[(1,.own rR10 r true)]⟩)) (l_:(List T5)) (r:(List T10)) (h:z38_b N rc l_=some r) :
 Fn Tryz.prog 38 ⟨1,[.S 0],[(0,.sl rR5 l_)],[],2,.S 1,[],[(1,.own rR10 r true)]⟩:=by
 refine eFn func38 rfl (fun E F w=>?_)
 unfold z38_b at h
 refine wa J 15 (eCut (σ:=(List T10)) (fun st=>⟨[(3,.S 1)],[(1,.own rR10 st true)],[(0,.sl rR5 l_)],2⟩) (fun st=>z38_k1 st=some r) ?_ (fun j1=>?_))
 ·intro c h
  replace h:z38_k1 c=some r:=h
  unfold z38_k1 at h
  cases h
  exact wr J 5 func38 [(1,.sl 1)]
 refine wa J 1 (eLoop (σ:=(List T10) × Int) (fun st=>⟨[(3,.S 1),(9,.S 0),(10,.I (l_.length:Int)),(11,.I st.2)],[(1,.own rR10 st.1 true)],[(0,.sl rR5 l_)],2⟩) (fun n st=>z38_l2 N rc l_ n st.1 st.2) (r:=r) (fun _=>rfl) ?_ (fun ih=>?_))
 ·intro n12 ih12
  rintro ⟨d,e⟩ h
  replace h:z38_l2 N rc l_ (n12+1) d e=some r:=h
  unfold z38_l2 at h
  refine wB' J 5 h (fun h=>wa J 2 (eSub [] (j1 d h))) fun h=>?_
  refine wO J 6 h fun f g h=>eIx J oO5 g (wa J 30 (eCut (σ:=(List (List T10))) (fun st=>⟨[(3,.S 1),(6,.B 6 0),(9,.S 0),(10,.I (l_.length:Int)),(11,.I e)],[(1,.own rR10 d true),(6,.box [.I f.Kind,.s f.From,.sl 3,.s f.Name,.s f.As,.I f.Ticks,.sl 7] 129),(7,.own (rSl rR10) st true)],[(0,.sl rR5 l_),(3,.sl rS f.To)],8⟩) (fun st=>z38_k3 d e (z38_l2 N rc l_ n12) f st=some r) ?_ (fun j19=>?_)))
  ·intro i h
   replace h:z38_k3 d e (z38_l2 N rc l_ n12) f i=some r:=h
   unfold z38_k3 at h
   refine wa J 3 (eBs J [7] oO10 ([(⟨f.Kind,f.From,f.To,f.Name,f.As,f.Ticks,i⟩:T10)]:List T10) ?_)
   obtain ⟨j,k,h⟩:=ob h
   exact eAp J rR10 k (wa J 7 (eSub [(1,.sl 9)] (ih12 (j,(w64 (e+1))) h)))
  refine wa J 1 (eLoop (σ:=(List (List T10)) × Int) (fun st=>⟨[(3,.S 1),(6,.B 6 0),(9,.S 0),(10,.I (l_.length:Int)),(11,.I e),(29,.S 4),(30,.I (f.Blocks.length:Int)),(31,.I st.2)],[(1,.own rR10 d true),(6,.box [.I f.Kind,.s f.From,.sl 3,.s f.Name,.s f.As,.I f.Ticks,.sl 7] 129),(7,.own (rSl rR10) st.1 true)],[(0,.sl rR5 l_),(3,.sl rS f.To),(4,.sl (rSl rR5) f.Blocks)],8⟩) (fun n st=>z38_l4 rc d e (z38_l2 N rc l_ n12) f n st.1 st.2) (r:=r) (fun _=>rfl) ?_ (fun ih=>?_))
  ·intro n14 ih21
   rintro ⟨l,m⟩ h
   replace h:z38_l4 rc d e (z38_l2 N rc l_ n12) f (n14+1) l m=some r:=h
   unfold z38_l4 at h
   refine wB' J 5 h (fun h=>wa J 2 (eSub [] (j19 l h))) fun h=>?_
   refine wO J 6 h fun o p h=>eIx J (oSl rR5) p ?_
   refine wO J 7 h fun q t h=>eCl (rc_law10_ownItems_ct o _ t) [] [(0,.sl 9)] (eBs J [10] (oSl rR10) ([q]:List (List T10)) ?_)
   obtain ⟨u,v,h⟩:=ob h
   exact eAp J (rSl rR10) v (wa J 2 (eEnd (wa J 5 (eSub [(7,.sl 12)] (ih21 (u,(w64 (m+1))) h)))))
  exact eSub [(7,.nil)] (ih N (([]:List (List T10)),0) h)
 exact eSub [(1,.nil)] (ih N (([]:List T10),0) h)
theorem z38_rct:∀ (N:Nat) (l_:(List T5)) (r:(List T10)) (h:z38_r N l_=some r),Fn Tryz.prog 38 ⟨1,[.S 0],[(0,.sl rR5 l_)],[],2,.S 1,[],[(1,.own rR10 r true)]⟩:=by
 intro N
 induction N with
 | zero=>intros;rename_i h;cases h
 | succ N ih=>intro l_ r h;exact z38_b_ct N (z38_r N) ih l_ r h
theorem z38_ct (N:Nat) (l_:(List T5)) (r:(List T10)) (h:z38 N l_=some r):Fn Tryz.prog 38 ⟨1,[.S 0],[(0,.sl rR5 l_)],[],2,.S 1,[],[(1,.own rR10 r true)]⟩:=z38_rct N l_ r h
theorem z17_ct (N:Nat) (l_:(List T7)) (r:(List T12)) (h:z17 N l_=some r) :
 Fn Tryz.prog 17 ⟨1,[.S 0],[(0,.sl rR7 l_)],[],2,.S 1,[],[(1,.own rR12 r true)]⟩:=by
 refine eFn func17 rfl (fun E F w=>?_)
 unfold z17 at h
 refine wa J 15 (eCut (σ:=(List T12)) (fun st=>⟨[(3,.S 1)],[(1,.own rR12 st true)],[(0,.sl rR7 l_)],2⟩) (fun st=>z17_k1 st=some r) ?_ (fun j1=>?_))
 ·intro c h
  replace h:z17_k1 c=some r:=h
  unfold z17_k1 at h
  cases h
  exact wr J 5 func17 [(1,.sl 1)]
 refine wa J 1 (eLoop (σ:=(List T12) × Int) (fun st=>⟨[(3,.S 1),(12,.S 0),(13,.I (l_.length:Int)),(14,.I st.2)],[(1,.own rR12 st.1 true)],[(0,.sl rR7 l_)],2⟩) (fun n st=>z17_l2 N l_ n st.1 st.2) (r:=r) (fun _=>rfl) ?_ (fun ih=>?_))
 ·intro n72 ih66
  rintro ⟨d,e⟩ h
  replace h:z17_l2 N l_ (n72+1) d e=some r:=h
  unfold z17_l2 at h
  refine wB' J 5 h (fun h=>wa J 2 (eSub [] (j1 d h))) fun h=>?_
  refine wO J 6 h fun f g h=>eIx J oO7 g ?_
  refine wO J 12 h fun i j h=>eCl (z38_ct N f.Body _ j) [] [(0,.sl 5)] (wa J 3 (eEnd (wa J 8 (eCut (σ:=(List T11)) (fun st=>⟨[(3,.S 1),(6,.B 8 0),(12,.S 0),(13,.I (l_.length:Int)),(14,.I e)],[(1,.own rR12 d true),(7,.own rR10 i true),(8,.box [.s f.Name,.sl 3,.sl 9,.sl 7] 57),(9,.own rR11 st true)],[(0,.sl rR7 l_),(3,.sl rS f.Roles)],10⟩) (fun st=>z17_k3 d e (z17_l2 N l_ n72) f i st=some r) ?_ (fun j109=>?_)))))
  ·intro k h
   replace h:z17_k3 d e (z17_l2 N l_ n72) f i k=some r:=h
   unfold z17_k3 at h
   refine wa J 3 (eBs J [9,7] oO12 ([(⟨f.Name,f.Roles,k,i⟩:T12)]:List T12) ?_)
   obtain ⟨l,m,h⟩:=ob h
   exact eAp J rR12 m (wa J 7 (eSub [(1,.sl 11)] (ih66 (l,(w64 (e+1))) h)))
  refine wa J 1 (eLoop (σ:=(List T11) × Int) (fun st=>⟨[(3,.S 1),(6,.B 8 0),(12,.S 0),(13,.I (l_.length:Int)),(14,.I e),(27,.S 4),(28,.I (f.Messages.length:Int)),(29,.I st.2)],[(1,.own rR12 d true),(7,.own rR10 i true),(8,.box [.s f.Name,.sl 3,.sl 9,.sl 7] 57),(9,.own rR11 st.1 true)],[(0,.sl rR7 l_),(3,.sl rS f.Roles),(4,.sl rR6 f.Messages)],10⟩) (fun n st=>z17_l4 N d e (z17_l2 N l_ n72) f i n st.1 st.2) (r:=r) (fun _=>rfl) ?_ (fun ih=>?_))
  ·intro n84 ih120
   rintro ⟨o,p⟩ h
   replace h:z17_l4 N d e (z17_l2 N l_ n72) f i (n84+1) o p=some r:=h
   unfold z17_l4 at h
   refine wB' J 5 h (fun h=>wa J 2 (eSub [] (j109 o h))) fun h=>?_
   refine wO J 6 h fun q t h=>eIx J oO6 t (wa J 22 (eCut (σ:=(List T9)) (fun st=>⟨[(3,.S 1),(6,.B 8 0),(9,.B 14 0),(12,.S 0),(13,.I (l_.length:Int)),(14,.I e),(27,.S 4),(28,.I (f.Messages.length:Int)),(29,.I p)],[(1,.own rR12 d true),(7,.own rR10 i true),(8,.box [.s f.Name,.sl 3,.sl 9,.sl 7] 57),(9,.own rR11 o true),(14,.box [.s q.Name,.sl 11,.sl 15] 77),(15,.own rR9 st true)],[(0,.sl rR7 l_),(3,.sl rS f.Roles),(4,.sl rR6 f.Messages),(11,.sl rR0 q.Fields)],16⟩) (fun st=>z17_k5 o p (z17_l4 N d e (z17_l2 N l_ n72) f i n84) q st=some r) ?_ (fun j127=>?_)))
   ·intro u h
    replace h:z17_k5 o p (z17_l4 N d e (z17_l2 N l_ n72) f i n84) q u=some r:=h
    unfold z17_k5 at h
    refine wa J 4 (eBs J [15] oO11 ([(⟨q.Name,q.Fields,u⟩:T11)]:List T11) ?_)
    obtain ⟨v,x,h⟩:=ob h
    exact eAp J rR11 x (wa J 8 (eSub [(9,.sl 17)] (ih120 (v,(w64 (p+1))) h)))
   refine wa J 1 (eLoop (σ:=(List T9) × Int) (fun st=>⟨[(3,.S 1),(6,.B 8 0),(9,.B 14 0),(12,.S 0),(13,.I (l_.length:Int)),(14,.I e),(27,.S 4),(28,.I (f.Messages.length:Int)),(29,.I p),(39,.S 12),(40,.I (q.Where.length:Int)),(41,.I st.2)],[(1,.own rR12 d true),(7,.own rR10 i true),(8,.box [.s f.Name,.sl 3,.sl 9,.sl 7] 57),(9,.own rR11 o true),(14,.box [.s q.Name,.sl 11,.sl 15] 77),(15,.own rR9 st.1 true)],((0,.sl rR7 l_)::(3,.sl rS f.Roles)::(4,.sl rR6 f.Messages)::vV6 11 12 q []),16⟩) (fun n st=>z17_l6 o p (z17_l4 N d e (z17_l2 N l_ n72) f i n84) q n st.1 st.2) (r:=r) (fun _=>rfl) ?_ (fun ih=>?_))
   ·intro n86 ih129
    rintro ⟨y,z⟩ h
    replace h:z17_l6 o p (z17_l4 N d e (z17_l2 N l_ n72) f i n84) q (n86+1) y z=some r:=h
    unfold z17_l6 at h
    refine wB' J 5 h (fun h=>wa J 2 (eSub [] (j127 y h))) fun h=>?_
    refine wO J 6 h fun A C h=>eIx J oO4 C (wa J 14 (eBs J [] oO9 ([(⟨A.Left,A.Op,A.Right⟩:T9)]:List T9) ?_))
    obtain ⟨D,G,h⟩:=ob h
    exact eAp J rR9 G (wa J 8 (eSub [(15,.sl 19)] (ih129 (D,(w64 (z+1))) h)))
   exact eSub [(15,.nil)] (ih N (([]:List T9),0) h)
  exact eSub [(9,.nil)] (ih N (([]:List T11),0) h)
 exact eSub [(1,.nil)] (ih N (([]:List T12),0) h)
theorem z18_ct (N:Nat) (l_:(List T7)) (r:ByteArray × Int) (h:z18 N l_=some r) :
 Fn Tryz.prog 18 ⟨1,[.S 0],[(0,.sl rR7 l_)],[],1,.t [.inl (.s r.1),.inl (.I r.2)],[],[]⟩:=by
 refine eFn func18 rfl (fun E F w=>?_)
 unfold z18 at h
 refine wO J 9 h fun x1 c h=>eCl (z19_ct N l_ _ c) [] [(0,.sl 0)] ?_
 refine wB J 2 h (fun h=>?_) fun h=>?_
 ·cases h
  exact wr J 6 func18 []
 refine wO J 5 h fun x2 d h=>eCl (z39_ct N l_ _ d) [] [(0,.sl 0)] ?_
 cases h
 exact wr J 3 func18 []
theorem law10_SyntaxPrint_ct (N:Nat) (l_:(List T7)) (r:Bool) (h:law10_SyntaxPrint N l_=some r) :
 Fn Tryz.prog 4 ⟨2,[.S 0],[(0,.sl rR7 l_)],[(1,.abs powT)],2,.O r,[],[(1,.abs powT)]⟩:=by
 refine eFn func4 rfl (fun E F w=>?_)
 unfold law10_SyntaxPrint at h
 refine wO J 7 h fun x1 c h=>eCl (z9_ct N _ c) [] [(0,.sl 1)] ?_
 refine wB J 2 h (fun h=>?_) fun h=>?_
 ·refine wO J 8 h fun x2 d h=>eCl (z9_ct N _ d) [] [(0,.sl 1)] ?_
  cases h
  exact wr J 2 func4 []
 refine wO J 1 h fun x3 e h=>eCl (z15_ct N l_ _ e) [] [(0,.sl 0)] ?_
 refine wB J 3 h (fun h=>?_) fun h=>?_
 ·refine wO J 3 h fun x4 f h=>eCl (z9_ct N _ f) [] [(0,.sl 1)] ?_
  cases h
  exact wr J 2 func4 []
 refine wO J 5 h fun x5 g h=>eCl (z17_ct N l_ _ g) [] [(0,.sl 0)] ?_
 obtain ⟨x6,i,h⟩:=ob h
 refine eCl (z16_ct N x5 _ i) [2] [(0,.sl 2),(1,.sl 1)] ?_
 refine wO J 9 h fun x7 j h=>eCl (z18_ct N l_ _ j) [] [(0,.sl 0)] ?_
 refine wB J 13 h (fun h=>?_) fun h=>?_
 ·cases h
  exact wr J 18 func4 []
 refine wB J 5 h (fun h=>?_) fun h=>?_
 ·cases h
  exact wr J 13 func4 []
 refine wO J 1 h fun x8 k h=>eCl (z17_ct N l_ _ k) [] [(0,.sl 0)] ?_
 obtain ⟨x9,l,h⟩:=ob h
 refine eCl (z14_ct N x8 _ l) [3] [(0,.sl 3),(1,.sl 1)] ?_
 refine wO J 1 h fun m o h=>eCl (z19_ct N l_ _ o) [] [(0,.sl 0)] ?_
 refine wB J 3 h (fun h=>?_) fun h=>?_
 ·cases h
  exact wr J 5 func4 []
 refine wO J 5 h fun p q h=>eCl (z10_ct N x6.1 _ q) [] [(0,.sl 1)] ?_
 refine wB J 13 h (fun h=>?_) fun h=>?_
 ·cases h
  exact wr J 11 func4 []
 refine wB' J 3 h (fun h=>?_) fun h=>?_
 ·cases h
  exact wr J 8 func4 []
 refine wO J 1 h fun s t h=>eCl (z13_ct N p.1 _ t) [] [(0,.sl 4)] ?_
 refine wO J 1 h fun u v h=>eCb (z12_ct N s l_ _ v) [] [(0,.sl 5),(1,.sl 0)] [5] (.inr ⟨rfl,trivial⟩) ?_
 cases h
 exact wr J 4 func4 []
end Gx
end
