/- Each function of the statement computes what its plain definition says, part 2. -/
import Derived.Test.YtdlhgdfjpilcjaaGreatDoorExplainPermitsWalk1
set_option linter.all false
section
set_option maxRecDepth 10000
set_option maxHeartbeats 4000000
open Go Go.Kx Go.Proofs Tryz
namespace Gx
theorem z249_ct (N:Nat) (x_:(List Int)) (r:Int) (h:z249 N x_=some r) :
 Fn Tryz.prog 249 ⟨1,[.S 0],[(0,.sl (rI .i64) x_)],[],1,.I r,[],[]⟩:=by
 refine eFn func249 rfl (fun E F w=>?_)
 unfold z249 at h
 refine wB J 11 h (fun h=>?_) fun h=>?_
 ·cases h
 refine wO J 5 h fun x1 c h=>eIx J (oI .i64) c (wa J 8 (eCut (σ:=Int) (fun st=>(zz11 x_ [(3,.I st)])) (fun st=>z249_k1 st=some r) ?_ (fun j2=>?_)))
 ·intro d h
  replace h:z249_k1 d=some r:=h
  unfold z249_k1 at h
  cases h
  exact wr J 5 func249 []
 refine wa J 1 (eLoop (σ:=Int × Int) (fun st=>(zz11 x_ [(0,.S 0),(3,.I st.1),(4,.I st.2)])) (fun n st=>z249_l2 x_ n st.1 st.2) (r:=r) (fun _=>rfl) ?_ (fun ih=>?_))
 ·intro n2 ih4
  rintro ⟨e,f⟩ h
  replace h:z249_l2 x_ (n2+1) e f=some r:=h
  unfold z249_l2 at h
  refine wB' J 8 h (fun h=>wa J 2 (eSub [] (j2 e h))) fun h=>?_
  exact wO J 8 h fun g i h=>eIx J (oI .i64) i (wa J 10 (eSub [] (ih4 ((minI e g),(w64 (f+1))) h)))
 exact eSub [] (ih N (x1,1) h)
theorem z250_ct (N:Nat) (x_:(List Int)) (r:Int) (h:z250 N x_=some r) :
 Fn Tryz.prog 250 ⟨1,[.S 0],[(0,.sl (rI .i64) x_)],[],1,.I r,[],[]⟩:=by
 refine eFn func250 rfl (fun E F w=>?_)
 unfold z250 at h
 refine wB J 11 h (fun h=>?_) fun h=>?_
 ·cases h
 refine wO J 5 h fun x1 c h=>eIx J (oI .i64) c (wa J 8 (eCut (σ:=Int) (fun st=>(zz11 x_ [(3,.I st)])) (fun st=>z250_k1 st=some r) ?_ (fun j2=>?_)))
 ·intro d h
  replace h:z250_k1 d=some r:=h
  unfold z250_k1 at h
  cases h
  exact wr J 5 func250 []
 refine wa J 1 (eLoop (σ:=Int × Int) (fun st=>(zz11 x_ [(0,.S 0),(3,.I st.1),(4,.I st.2)])) (fun n st=>z250_l2 x_ n st.1 st.2) (r:=r) (fun _=>rfl) ?_ (fun ih=>?_))
 ·intro n2 ih4
  rintro ⟨e,f⟩ h
  replace h:z250_l2 x_ (n2+1) e f=some r:=h
  unfold z250_l2 at h
  refine wB' J 8 h (fun h=>wa J 2 (eSub [] (j2 e h))) fun h=>?_
  exact wO J 8 h fun g i h=>eIx J (oI .i64) i (wa J 10 (eSub [] (ih4 ((maxI e g),(w64 (f+1))) h)))
 exact eSub [] (ih N (x1,1) h)
theorem z196_ct (N:Nat) (z_:T17) (r:Bool) (h:z196 N z_=some r) :
 Fn Tryz.prog 196 ⟨1,[.a (cC17 0 z_)],[(0,.sl (rI .i64) z_.B)],[],1,.O r,[],[]⟩:=by
 refine eFn func196 rfl (fun E F w=>?_)
 unfold z196 at h
 refine wB' J 11 h (fun h=>?_) fun h=>?_
 ·cases h
  exact wr J 31 func196 []
 refine wB' J 5 h (fun h=>?_) fun h=>?_
 ·cases h
  exact wr J 26 func196 []
 refine wB' J 13 h (fun h=>?_) fun h=>?_
 ·cases h
  exact wr J 13 func196 []
 refine wO J 2 h fun x1 c h=>eCl (z249_ct N z_.B _ c) [] [(0,.sl 0)] ?_
 refine wB' J 3 h (fun h=>?_) fun h=>?_
 ·cases h
  exact wr J 7 func196 []
 refine wO J 2 h fun x2 d h=>eCl (z250_ct N z_.B _ d) [] [(0,.sl 0)] ?_
 cases h
 exact wr J 4 func196 []
theorem z197_ct (N:Nat) (z_:T17) (x_:Int) (r:Bool) (h:z197 N z_ x_=some r) :
 Fn Tryz.prog 197 ⟨1,[.a (cC17 0 z_),.I x_],[(0,.sl (rI .i64) z_.B)],[],1,.O r,[],[]⟩:=by
 refine eFn func197 rfl (fun E F w=>?_)
 unfold z197 at h
 refine wB J 10 h (fun h=>?_) fun h=>?_
 ·cases h
  exact wr J 7 func197 []
 cases h
 exact wr J 7 func197 []
theorem z198_ct (N:Nat) (s_:(List Int)) (r:(List Int)) (h:z198 N s_=some r) :
 Fn Tryz.prog 198 ⟨1,[.S 0],[(0,.sl (rI .i64) s_)],[],2,.S 1,[],[(1,.own (rI .i64) r true)]⟩:=by
 refine eFn func198 rfl (fun E F w=>?_)
 unfold z198 at h
 refine wa J 8 (eNi (rI .i64) s_ false ?_)
 intro nb hnb
 cases nb
 ·refine wa J 5 (eBs J [] (oI .i64) ([]:List Int) ?_)
  refine wO J 1 h fun x1 c h=>eAp J (rI .i64) c ?_
  cases h
  exact wr J 2 func198 [(1,.sl 2)]
 ·obtain rfl:=hnb rfl
  replace h:(some ([]:List Int):Option (List Int))=some r:=h
  cases h
  exact wr J 6 func198 [(1,.nil)]
theorem z111_ct (N:Nat) (z_:T17) (d_:T1) (r:T17 × Int) (h:z111 N z_ d_=some r) :
 Fn Tryz.prog 111 ⟨1,[.a (cC17 0 z_),.a (cC1 d_)],[(0,.sl (rI .i64) z_.B)],[],2,.t [.inr (cC17 1 r.1),.inl (.I r.2)],[(1,.sl (rI .i64) r.1.B)],[]⟩:=by
 refine eFn func111 rfl (fun E F w=>?_)
 unfold z111 at h
 refine wO J 11 h fun x1 c h=>eCl (z196_ct N z_ _ c) [] [(0,.sl 0)] ?_
 refine wB J 2 h (fun h=>?_) fun h=>?_
 ·cases h
  exact wr J 7 func111 [(1,.nil)]
 refine wO J 8 h fun x2 d h=>eCl (z197_ct N z_ d_.X _ d) [] [(0,.sl 0)] ?_
 refine wB J 2 h (fun h=>?_) fun h=>?_
 ·cases h
  exact wr J 14 func111 [(1,.nil)]
 refine wO J 3 h fun x3 e h=>eCl (z197_ct N z_ d_.Y _ e) [] [(0,.sl 0)] ?_
 refine wB J 3 h (fun h=>?_) fun h=>?_
 ·cases h
  exact wr J 7 func111 [(1,.nil)]
 refine wO J 8 h fun x4 f h=>eCl (z198_ct N z_.B _ f) [] [(0,.sl 0)] (wa J 3 (eEnd ?_))
 refine wO J 23 h fun x5 g h=>eIo J (rI .i64) g (eLd J (oI .i64) g ?_)
 refine wO J 4 h fun x6 i h=>eIo J (rI .i64) i (eSt J [] (oI .i64) (minI x5 (maxI d_.C (-20001))) i (eEnd (wa J 6 (eFr [4] ?_))))
 cases h
 exact eRet J func111 [(1,.sl 4)]
theorem z199_ct (N:Nat) (z_:T17) (r:T17 × Bool) (h:z199 N z_=some r) :
 Fn Tryz.prog 199 ⟨1,[.a (cC17 0 z_)],[(0,.sl (rI .i64) z_.B)],[],2,.t [.inr (cC17 1 r.1),.inl (.b r.2)],[(1,.sl (rI .i64) r.1.B)],[]⟩:=by
 refine eFn func199 rfl (fun E F w=>?_)
 unfold z199 at h
 refine wO J 10 h fun x1 c h=>eCl (z196_ct N z_ _ c) [] [(0,.sl 0)] ?_
 refine wB J 2 h (fun h=>?_) fun h=>?_
 ·cases h
  exact wr J 7 func199 [(1,.nil)]
 refine wO J 15 h fun x2 d h=>eCl (z198_ct N z_.B _ d) [] [(0,.sl 0)] (wa J 3 (eEnd (wa J 6 (eCut (σ:=(List Int)) (fun st=>(zz0 st z_ z_.B [(2,.B 2 0),(4,.I (w64 (z_.N+1))),(5,.B 4 0)])) (fun st=>z199_k9 N z_ st=some r) ?_ (fun j1=>?_)))))
 ·intro e h
  replace h:z199_k9 N z_ e=some r:=h
  unfold z199_k9 at h
  refine wa J 6 (eCut (σ:=(List Int)) (fun st=>(zz0 st z_ z_.B [(2,.B 2 0),(5,.B 4 0)])) (fun st=>z199_k1 z_ st=some r) ?_ (fun j12=>?_))
  ·intro f h
   replace h:z199_k1 z_ f=some r:=h
   unfold z199_k1 at h
   refine wa J 6 (eFr [3] ?_)
   cases h
   exact eRet J func199 [(1,.sl 3)]
  refine wa J 1 (eLoop (σ:=(List Int) × Int) (fun st=>(zz0 st.1 z_ z_.B [(2,.B 2 0),(4,.I (w64 (z_.N+1))),(5,.B 4 0),(56,.I (w64 (z_.N+1))),(57,.I st.2)])) (fun n st=>z199_l2 N z_ n st.1 st.2) (r:=r) (fun _=>rfl) ?_ (fun ih=>?_))
  ·intro n89 ih86
   rintro ⟨g,i⟩ h
   replace h:z199_l2 N z_ (n89+1) g i=some r:=h
   unfold z199_l2 at h
   refine wB' J 5 h (fun h=>wa J 2 (eSub [] (j12 g h))) fun h=>wa J 15 (eCut (σ:=(List Int)) (fun st=>(zz0 st z_ z_.B [(2,.B 2 0),(4,.I (w64 (z_.N+1))),(5,.B 4 0),(56,.I (w64 (z_.N+1))),(57,.I i)])) (fun st=>z199_k5 N z_ i (z199_l2 N z_ n89) st=some r) ?_ (fun j135=>?_))
   ·intro j h
    replace h:z199_k5 N z_ i (z199_l2 N z_ n89) j=some r:=h
    unfold z199_k5 at h
    refine wa J 5 (eCut (σ:=Unit) (fun st=>(zz0 j z_ z_.B [(2,.B 2 0),(4,.I (w64 (z_.N+1))),(5,.B 4 0),(56,.I (w64 (z_.N+1))),(57,.I i)])) (fun st=>z199_k3 i (z199_l2 N z_ n89) j=some r) ?_ (fun j146=>?_))
    ·intro _ h
     replace h:z199_k3 i (z199_l2 N z_ n89) j=some r:=h
     unfold z199_k3 at h
     exact wa J 5 (eSub [] (ih86 (j,(w64 (i+1))) h))
    refine wa J 1 (eLoop (σ:=Int) (fun st=>(zz0 j z_ z_.B [(2,.B 2 0),(4,.I (w64 (z_.N+1))),(5,.B 4 0),(56,.I (w64 (z_.N+1))),(57,.I i),(107,.I (w64 (z_.N+1))),(108,.I st)])) (fun n st=>z199_l4 z_ i (z199_l2 N z_ n89) j n st) (r:=r) (fun _=>rfl) ?_ (fun ih=>?_))
    ·intro n98 ih148
     intro k h
     replace h:z199_l4 z_ i (z199_l2 N z_ n89) j (n98+1) k=some r:=h
     unfold z199_l4 at h
     refine wB' J 5 h (fun h=>wa J 2 (eSub [] (j146 () h))) fun h=>?_
     refine wO J 18 h fun l m h=>eIo J (rI .i64) m (eLd J (oI .i64) m ?_)
     refine wB J 2 h (fun h=>?_) fun h=>wa J 7 (eSub [] (ih148 (w64 (k+1)) h))
     cases h
     exact wr J 7 func199 [(1,.nil)]
    exact eSub [] (ih N 0 h)
   refine wa J 1 (eLoop (σ:=(List Int) × Int) (fun st=>(zz0 st.1 z_ z_.B [(2,.B 2 0),(4,.I (w64 (z_.N+1))),(5,.B 4 0),(8,.I i),(56,.I (w64 (z_.N+1))),(57,.I i),(60,.I (w64 (z_.N+1))),(61,.I st.2)])) (fun n st=>z199_l6 N z_ i (z199_l2 N z_ n89) n st.1 st.2) (r:=r) (fun _=>rfl) ?_ (fun ih=>?_))
   ·intro n103 ih149
    rintro ⟨o,p⟩ h
    replace h:z199_l6 N z_ i (z199_l2 N z_ n89) (n103+1) o p=some r:=h
    unfold z199_l6 at h
    refine wB' J 5 h (fun h=>wa J 2 (eSub [] (j135 o h))) fun h=>wa J 14 (eCut (σ:=(List Int)) (fun st=>(zz0 st z_ z_.B [(2,.B 2 0),(4,.I (w64 (z_.N+1))),(5,.B 4 0),(8,.I i),(56,.I (w64 (z_.N+1))),(57,.I i),(60,.I (w64 (z_.N+1))),(61,.I p)])) (fun st=>z199_k7 p (z199_l6 N z_ i (z199_l2 N z_ n89) n103) st=some r) ?_ (fun j156=>?_))
    ·intro q h
     replace h:z199_k7 p (z199_l6 N z_ i (z199_l2 N z_ n89) n103) q=some r:=h
     unfold z199_k7 at h
     exact wa J 5 (eSub [] (ih149 (q,(w64 (p+1))) h))
    refine wa J 1 (eLoop (σ:=(List Int) × Int) (fun st=>(zz0 st.1 z_ z_.B [(2,.B 2 0),(4,.I (w64 (z_.N+1))),(5,.B 4 0),(8,.I i),(9,.I p),(56,.I (w64 (z_.N+1))),(57,.I i),(60,.I (w64 (z_.N+1))),(61,.I p),(64,.I (w64 (z_.N+1))),(65,.I st.2)])) (fun n st=>z199_l8 z_ i p (z199_l6 N z_ i (z199_l2 N z_ n89) n103) n st.1 st.2) (r:=r) (fun _=>rfl) ?_ (fun ih=>?_))
    ·intro n105 ih158
     rintro ⟨s,u⟩ h
     replace h:z199_l8 z_ i p (z199_l6 N z_ i (z199_l2 N z_ n89) n103) (n105+1) s u=some r:=h
     unfold z199_l8 at h
     refine wB' J 5 h (fun h=>wa J 2 (eSub [] (j156 s h))) fun h=>?_
     refine wO J 24 h fun v x h=>eIo J (rI .i64) x (eLd J (oI .i64) x ?_)
     refine wO J 7 h fun y z h=>eIo J (rI .i64) z (eLd J (oI .i64) z ?_)
     refine wO J 7 h fun A C h=>eIo J (rI .i64) C (eLd J (oI .i64) C ?_)
     exact wO J 2 h fun D G h=>eIo J (rI .i64) G (eSt J [] (oI .i64) (minI v (w64 (y+A))) G (eEnd (wa J 5 (eSub [] (ih158 ((setL' s (w64 ((w64 (p * (w64 (z_.N+1))))+u)) (minI v (w64 (y+A)))),(w64 (u+1))) h)))))
    exact eSub [] (ih N (o,0) h)
   exact eSub [] (ih N (g,0) h)
  exact eSub [] (ih N (e,0) h)
 refine wa J 1 (eLoop (σ:=(List Int) × Int) (fun st=>(zz0 st.1 z_ z_.B [(2,.B 2 0),(4,.I (w64 (z_.N+1))),(5,.B 4 0),(25,.I (w64 (z_.N+1))),(26,.I st.2)])) (fun n st=>z199_l10 N z_ n st.1 st.2) (r:=r) (fun _=>rfl) ?_ (fun ih=>?_))
 ·intro n110 ih159
  rintro ⟨H,R⟩ h
  replace h:z199_l10 N z_ (n110+1) H R=some r:=h
  unfold z199_l10 at h
  refine wB' J 5 h (fun h=>wa J 2 (eSub [] (j1 H h))) fun h=>wa J 14 (eCut (σ:=(List Int)) (fun st=>(zz0 st z_ z_.B [(2,.B 2 0),(4,.I (w64 (z_.N+1))),(5,.B 4 0),(25,.I (w64 (z_.N+1))),(26,.I R)])) (fun st=>z199_k11 R (z199_l10 N z_ n110) st=some r) ?_ (fun j166=>?_))
  ·intro T h
   replace h:z199_k11 R (z199_l10 N z_ n110) T=some r:=h
   unfold z199_k11 at h
   exact wa J 5 (eSub [] (ih159 (T,(w64 (R+1))) h))
  refine wa J 1 (eLoop (σ:=(List Int) × Int) (fun st=>(zz0 st.1 z_ z_.B [(2,.B 2 0),(4,.I (w64 (z_.N+1))),(5,.B 4 0),(6,.I R),(25,.I (w64 (z_.N+1))),(26,.I R),(29,.I (w64 (z_.N+1))),(30,.I st.2)])) (fun n st=>z199_l12 N z_ R (z199_l10 N z_ n110) n st.1 st.2) (r:=r) (fun _=>rfl) ?_ (fun ih=>?_))
  ·intro n112 ih168
   rintro ⟨U,X⟩ h
   replace h:z199_l12 N z_ R (z199_l10 N z_ n110) (n112+1) U X=some r:=h
   unfold z199_l12 at h
   refine wB' J 5 h (fun h=>wa J 2 (eSub [] (j166 U h))) fun h=>?_
   refine wO J 24 h fun Y Z h=>eIo J (rI .i64) Z (eLd J (oI .i64) Z ?_)
   refine wO J 2 h fun a0 b0 h=>eCl (z248_ct N R X _ b0) [] [] ?_
   exact wO J 1 h fun c0 d0 h=>eIo J (rI .i64) d0 (eSt J [] (oI .i64) (minI Y a0) d0 (eEnd (wa J 5 (eSub [] (ih168 ((setL' U (w64 ((w64 (R * (w64 (z_.N+1))))+X)) (minI Y a0)),(w64 (X+1))) h)))))
  exact eSub [] (ih N (H,0) h)
 exact eSub [] (ih N (x2,0) h)
theorem z200_ct (N:Nat) (z_:T17) (i_:Int) (j_:Int) (r:Int) (h:z200 N z_ i_ j_=some r) :
 Fn Tryz.prog 200 ⟨1,[.a (cC17 0 z_),.I i_,.I j_],[(0,.sl (rI .i64) z_.B)],[],1,.I r,[],[]⟩:=by
 refine eFn func200 rfl (fun E F w=>?_)
 unfold z200 at h
 refine wO J 16 h fun x1 c h=>eIx J (oI .i64) c ?_
 cases h
 exact wr J 3 func200 []
theorem z112_ct (N:Nat) (z_:T17) (r:(List Int) × Bool) (h:z112 N z_=some r) :
 Fn Tryz.prog 112 ⟨1,[.a (cC17 0 z_)],[(0,.sl (rI .i64) z_.B)],[],2,.t [.inl (.sl 1),.inl (.b r.2)],[],[(1,.own (rI .i64) r.1 true)]⟩:=by
 refine eFn func112 rfl (fun E F w=>?_)
 unfold z112 at h
 refine wO J 9 h fun x1 c h=>eCl (z199_ct N z_ _ c) [] [(0,.sl 0)] ?_
 refine wB J 13 h (fun h=>?_) fun h=>wa J 4 (eBs J [] (oI .i64) ([]:List Int) (wa J 9 (eCut (σ:=(List Int)) (fun st=>⟨[(6,.S 5)],[(5,.own (rI .i64) st true)],[(0,.sl (rI .i64) z_.B)],6⟩) (fun st=>z112_k1 st=some r) ?_ (fun j1=>?_))))
 ·cases h
  exact wr J 6 func112 [(1,.nil)]
 ·intro d h
  replace h:z112_k1 d=some r:=h
  unfold z112_k1 at h
  cases h
  exact wr J 6 func112 [(1,.sl 5)]
 refine wa J 1 (eLoop (σ:=(List Int) × Int) (fun st=>(zz14 x1.1 st.1 z_.B x1.1.B [(4,.B 3 0),(6,.S 5),(20,.I z_.N),(21,.I st.2)])) (fun n st=>z112_l2 N z_ x1 n st.1 st.2) (r:=r) (fun _=>rfl) ?_ (fun ih=>?_))
 ·intro n12 ih12
  rintro ⟨e,f⟩ h
  replace h:z112_l2 N z_ x1 (n12+1) e f=some r:=h
  unfold z112_l2 at h
  refine wB' J 5 h (fun h=>wa J 2 (eSub [] (j1 e h))) fun h=>?_
  refine wO J 14 h fun g i h=>eCl (z200_ct N x1.1 0 (w64 (f+1)) _ i) [] [(0,.sl 2)] (wa J 10 (eCut (σ:=Int) (fun st=>(zz14 x1.1 e z_.B x1.1.B [(4,.B 3 0),(6,.S 5),(8,.I st),(20,.I z_.N),(21,.I f)])) (fun st=>z112_k3 e f (z112_l2 N z_ x1 n12) st=some r) ?_ (fun j19=>?_)))
  ·intro j h
   replace h:z112_k3 e f (z112_l2 N z_ x1 n12) j=some r:=h
   unfold z112_k3 at h
   refine wa J 3 (eBs J [] (oI .i64) ([j]:List Int) ?_)
   obtain ⟨k,l,h⟩:=ob h
   exact eAp J (rI .i64) l (wa J 7 (eSub [(5,.sl 7)] (ih12 (k,(w64 (f+1))) h)))
  refine wa J 1 (eLoop (σ:=Int × Int) (fun st=>(zz14 x1.1 e z_.B x1.1.B [(4,.B 3 0),(6,.S 5),(7,.I f),(8,.I st.1),(20,.I z_.N),(21,.I f),(29,.S 5),(30,.I (e.length:Int)),(31,.I st.2)])) (fun n st=>z112_l4 N x1 e f (z112_l2 N z_ x1 n12) n st.1 st.2) (r:=r) (fun _=>rfl) ?_ (fun ih=>?_))
  ·intro n14 ih21
   rintro ⟨m,o⟩ h
   replace h:z112_l4 N x1 e f (z112_l2 N z_ x1 n12) (n14+1) m o=some r:=h
   unfold z112_l4 at h
   refine wB' J 5 h (fun h=>wa J 2 (eSub [] (j19 m h))) fun h=>?_
   refine wO J 7 h fun p q h=>eIo J (rI .i64) q (eLd J (oI .i64) q ?_)
   exact wO J 11 h fun s u h=>eCl (z200_ct N x1.1 (w64 (o+1)) (w64 (f+1)) _ u) [] [(0,.sl 2)] (wa J 9 (eSub [] (ih21 ((maxI m (w64 (p-s))),(w64 (o+1))) h)))
  exact eSub [] (ih N ((w64 (0-g)),0) h)
 exact eSub [(5,.sl 4)] (ih N (([]:List Int),0) h)
theorem repL_eq (l:List UInt8):∀ n:Nat,Go.Lib.repeatL l n=repL l n
 | 0=>rfl
 | n+1=>by show l++Go.Lib.repeatL l n=l++repL l n;rw [repL_eq l n]
theorem z113_ct (N:Nat) (s_:ByteArray) (count_:Int) (r:ByteArray) (h:z113 N s_ count_=some r):Fn Tryz.prog 113 ⟨0,[.c (.s s_),.I count_],[],[],0,.c (.s r),[],[]⟩:=by
 unfold z113 at h
 cases hb:((decide (0≤count_) && decide (count_≤140737488355328)) && decide (s_.size * count_.toNat≤140737488355328)) with
 | false=>rw [hb] at h;cases h
 | true =>
  rw [hb] at h
  simp only [cond_true,Option.some.injEq] at h
  subst h
  simp only [Bool.and_eq_true,decide_eq_true_eq] at hb
  obtain ⟨⟨h1,h2⟩,h3⟩:=hb
  obtain ⟨c,rfl⟩:=Int.eq_ofNat_of_zero_le h1
  have:=repeat_fn s_ c (by omega) h3
  rw [repL_eq] at this
  exact this
theorem z115_ct (N:Nat) (d_:T0) (l_:(List T12)) (r:(List T12)) (h:z115 N d_ l_=some r) :
 Fn Tryz.prog 115 ⟨4,[.a (cC0 0 1 2 d_),.S 3],(vV0 0 1 2 d_ []),[(3,.own rR12 l_ false)],4,.t [],[],[(3,.own rR12 r false)]⟩:=by
 refine eFn func115 rfl (fun E F w=>?_)
 unfold z115 at h
 refine wO J 8 h fun x1 c h=>eMk J oB c (wa J 9 (eCut (σ:=(List Bool)) (fun st=>(zz7 l_ d_ st [(1,.S 3),(2,.B 4 0),(4,.S 5)])) (fun st=>z115_k8 N d_ l_ st=some r) ?_ (fun j1=>?_)))
 ·intro d h
  replace h:z115_k8 N d_ l_ d=some r:=h
  unfold z115_k8 at h
  refine wa J 4 (eCut (σ:=(List T12)) (fun st=>⟨[],[(3,.own rR12 st false)],(vV0 0 1 2 d_ []),6⟩) (fun st=>z115_k1 st=some r) ?_ (fun j3=>?_))
  ·intro e h
   replace h:z115_k1 e=some r:=h
   unfold z115_k1 at h
   cases h
   exact eRet J func115 []
  refine wa J 1 (eLoop (σ:=(List T12) × (List Bool) × Bool) (fun st=>(zz7 st.1 d_ st.2.1 [(1,.S 3),(2,.B 4 0),(4,.S 5),(6,.O st.2.2)])) (fun n st=>z115_l2 N d_ n st.1 st.2.1 st.2.2) (r:=r) (fun _=>rfl) ?_ (fun ih=>?_))
  ·intro n73 ih176
   rintro ⟨f,g,j⟩ h
   replace h:z115_l2 N d_ (n73+1) f g j=some r:=h
   unfold z115_l2 at h
   refine wB' J 5 h (fun h=>wa J 2 (eSub [] (j3 f h))) fun h=>wa J 15 (eCut (σ:=(List T12) × (List Bool) × Bool) (fun st=>(zz7 st.1 d_ st.2.1 [(1,.S 3),(2,.B 4 0),(4,.S 5),(6,.O st.2.2)])) (fun st=>z115_k3 (z115_l2 N d_ n73) st.1 st.2.1 st.2.2=some r) ?_ (fun j291=>?_))
   ·rintro ⟨k,l,m⟩ h
    replace h:z115_k3 (z115_l2 N d_ n73) k l m=some r:=h
    unfold z115_k3 at h
    exact wa J 1 (eSub [] (ih176 (k,l,m) h))
   refine wa J 1 (eLoop (σ:=(List T12) × (List Bool) × Bool × Int) (fun st=>(zz7 st.1 d_ st.2.1 [(1,.S 3),(2,.B 4 0),(4,.S 5),(6,.O st.2.2.1),(49,.S 2),(50,.I (d_.Guard.Equals.length:Int)),(51,.I st.2.2.2)])) (fun n st=>z115_l4 N d_ (z115_l2 N d_ n73) n st.1 st.2.1 st.2.2.1 st.2.2.2) (r:=r) (fun _=>rfl) ?_ (fun ih=>?_))
   ·intro n85 ih320
    rintro ⟨o,p,q,s⟩ h
    replace h:z115_l4 N d_ (z115_l2 N d_ n73) (n85+1) o p q s=some r:=h
    unfold z115_l4 at h
    refine wB' J 5 h (fun h=>wa J 2 (eSub [] (j291 (o,p,q) h))) fun h=>?_
    refine wO J 6 h fun u v h=>eIx J (oP (oI .i64) (oI .i64)) v (wa J 9 (eCut (σ:=(List T12) × (List Bool) × Bool) (fun st=>⟨[(1,.S 3),(2,.B 4 0),(4,.S 5),(6,.O st.2.2),(49,.S 2),(50,.I (d_.Guard.Equals.length:Int)),(51,.I s)],[(3,.own rR12 st.1 false),(4,.box (cC0 0 1 2 d_) 75),(5,.own rB st.2.1 true)],(vV0 0 1 2 d_ []),8⟩) (fun st=>z115_k5 s (z115_l4 N d_ (z115_l2 N d_ n73) n85) st.1 st.2.1 st.2.2=some r) ?_ (fun j339=>?_)))
    ·rintro ⟨x,y,z⟩ h
     replace h:z115_k5 s (z115_l4 N d_ (z115_l2 N d_ n73) n85) x y z=some r:=h
     unfold z115_k5 at h
     exact wa J 5 (eSub [] (ih320 (x,y,z,(w64 (s+1))) h))
    refine wa J 1 (eLoop (σ:=(List T12) × (List Bool) × Bool × Int) (fun st=>(zz26 st.1 d_ st.2.1 u.1 u.2 [(1,.S 3),(2,.B 4 0),(4,.S 5),(6,.O st.2.2.1),(8,.B 7 0),(49,.S 2),(50,.I (d_.Guard.Equals.length:Int)),(51,.I s),(55,.a [.I u.1,.I u.2]),(56,.I st.2.2.2)])) (fun n st=>z115_l6 s (z115_l4 N d_ (z115_l2 N d_ n73) n85) u n st.1 st.2.1 st.2.2.1 st.2.2.2) (r:=r) (fun _=>rfl) ?_ (fun ih=>?_))
    ·intro n87 ih344
     rintro ⟨A,C,D,G⟩ h
     replace h:z115_l6 s (z115_l4 N d_ (z115_l2 N d_ n73) n85) u (n87+1) A C D G=some r:=h
     unfold z115_l6 at h
     refine wB' J 5 h (fun h=>wa J 2 (eSub [] (j339 (A,C,D) h))) fun h=>?_
     refine wO J 7 h fun H R h=>eAx (SC.i .i64) ([u.1,u.2]:List Int) R ?_
     refine wa J 7 (eCut (σ:=Int) (fun st=>(zz26 A d_ C u.1 u.2 [(1,.S 3),(2,.B 4 0),(4,.S 5),(6,.O D),(8,.B 7 0),(10,.I H),(11,.I st),(49,.S 2),(50,.I (d_.Guard.Equals.length:Int)),(51,.I s),(55,.a [.I u.1,.I u.2]),(56,.I G)])) (fun st=>z115_k7 A C D G (z115_l6 s (z115_l4 N d_ (z115_l2 N d_ n73) n85) u n87) H st=some r) ?_ (fun j347=>?_))
     ·intro T h
      replace h:z115_k7 A C D G (z115_l6 s (z115_l4 N d_ (z115_l2 N d_ n73) n85) u n87) H T=some r:=h
      unfold z115_k7 at h
      refine wO J 4 h fun U X h=>eIo J rB X (eLd J oB X ?_)
      refine wB' J 1 h (fun h=>wa J 14 (eSub [] (ih344 (A,C,D,(w64 (G+1))) h))) fun h=>?_
      refine wO J 2 h fun Y Z h=>eIo J rB Z (eLd J oB Z ?_)
      refine wB' J 3 h (fun h=>wa J 7 (eSub [] (ih344 (A,C,D,(w64 (G+1))) h))) fun h=>?_
      refine wO J 8 h fun a0 b0 h=>eIo J rR12 b0 (wa J 1 (eLd J oO12 b0 ?_))
      obtain ⟨c0,d0,h⟩:=ob h
      refine eIo J rR12 d0 (wa J 1 (eSt J [] oO12 (⟨c0.Kind,c0.N,a0.S⟩:T12) d0 ?_))
      obtain ⟨e0,f0,h⟩:=ob h
      exact eIo J rB f0 (eSt J [] oB true f0 (wa J 7 (eSub [] (ih344 ((setL' A H (⟨c0.Kind,c0.N,a0.S⟩:T12)),(setL' C H true),true,(w64 (G+1))) h))))
     obtain ⟨K,h⟩|⟨K,h⟩:=oc h
     ·exact eAb 0 (by exact eq_of_beq K) (wa J 3 (eSub [] (j347 u.1 h)))
     obtain ⟨K,h⟩|⟨K,h⟩:=oc h
     ·exact eAb 1 (by exact eq_of_beq K) (wa J 3 (eSub [] (j347 u.2 h)))
     cases h
    exact eSub [] (ih N (o,p,q,0) h)
   exact eSub [] (ih N (f,g,false,0) h)
  exact eSub [] (ih N (l_,d,true) h)
 refine wa J 1 (eLoop (σ:=(List Bool) × Int) (fun st=>(zz7 l_ d_ st.1 [(1,.S 3),(2,.B 4 0),(4,.S 5),(16,.I (l_.length:Int)),(17,.I st.2)])) (fun n st=>z115_l9 N d_ l_ n st.1 st.2) (r:=r) (fun _=>rfl) ?_ (fun ih=>?_))
 ·intro n88 ih348
  rintro ⟨g0,i0⟩ h
  replace h:z115_l9 N d_ l_ (n88+1) g0 i0=some r:=h
  unfold z115_l9 at h
  refine wB' J 5 h (fun h=>wa J 2 (eSub [] (j1 g0 h))) fun h=>?_
  refine wB J 17 h (fun h=>?_) fun h=>?_
  ·refine wO J 12 h fun j0 k0 h=>eIo J rR12 k0 (wa J 1 (eLd J oO12 k0 ?_))
   exact wO J 2 h fun l0 m0 h=>eIo J rB m0 (eSt J [] oB (j0.Kind != 0) m0 (wa J 6 (eSub [] (ih348 ((setL' g0 i0 (j0.Kind != 0)),(w64 (i0+1))) h))))
  refine wB' J 10 h (fun h=>?_) fun h=>?_
  ·exact wO J 7 h fun o0 p0 h=>eIo J rB p0 (eSt J [] oB false p0 (wa J 6 (eSub [] (ih348 ((setL' g0 i0 false),(w64 (i0+1))) h))))
  refine wO J 2 h fun q0 s0 h=>eIo J rR12 s0 (wa J 1 (eLd J oO12 s0 ?_))
  exact wO J 2 h fun t0 u0 h=>eIo J rB u0 (eSt J [] oB (q0.Kind != 0) u0 (wa J 6 (eSub [] (ih348 ((setL' g0 i0 (q0.Kind != 0)),(w64 (i0+1))) h))))
 exact eSub [] (ih N (x1,0) h)
theorem z54_ct (N:Nat) (decls_:(List T0)) (label_:Int) (known_:(List T12)) (r:(List T12) × Bool) (h:z54 N decls_ label_ known_=some r) :
 Fn Tryz.prog 54 ⟨2,[.S 0,.I label_,.S 1],[(0,.sl rR0 decls_),(1,.sl rR12 known_)],[],3,.t [.inl (.sl 2),.inl (.b r.2)],[],[(2,.own rR12 r.1 true)]⟩:=by
 refine eFn func54 rfl (fun E F w=>?_)
 unfold z54 at h
 refine wO J 11 h fun x1 c h=>eCl (z108_ct N decls_ label_ known_ _ c) [] [(0,.sl 0),(1,.sl 1)] ?_
 refine wB J 2 h (fun h=>?_) fun h=>?_
 ·cases h
  exact wr J 6 func54 [(2,.nil)]
 refine wO J 6 h fun x2 d h=>eIx J oO0 d ?_
 refine wO J 14 h fun x3 e h=>eCl (z109_ct N (x2.Fields.length:Int) _ e) [] [] ?_
 refine wO J 11 h fun x4 f h=>eCl (z72_ct N x2 _ f) [] [(0,.sl 3),(1,.sl 4),(2,.sl 5)] (wa J 3 (eCut (σ:=Int × (List Int)) (fun st=>⟨[(2,.S 1),(8,.B 6 0),(9,.I (x2.Fields.length:Int)),(10,.B 8 0)],[(6,.box (cC0 3 4 5 x2) 75),(8,.box [.I st.1,.sl 10] 173)],((0,.sl rR0 decls_)::(1,.sl rR12 known_)::vV0 3 4 5 x2 [(10,.sl (rI .i64) st.2)]),11⟩) (fun st=>z54_k3 N known_ x2 st.1 st.2=some r) ?_ (fun j1=>?_)))
 ·rintro ⟨g,j⟩ h
  replace h:z54_k3 N known_ x2 g j=some r:=h
  unfold z54_k3 at h
  refine wO J 3 h fun k l h=>eCl (z112_ct N (⟨g,j⟩:T17) _ l) [] [(0,.sl 10)] ?_
  refine wB J 12 h (fun h=>?_) fun h=>?_
  ·cases h
   exact wr J 6 func54 [(2,.nil)]
  refine wO J 5 h fun m o h=>eMk J oO12 o (wa J 10 (eCut (σ:=(List T12)) (fun st=>⟨[(2,.S 1),(8,.B 6 0),(9,.I (x2.Fields.length:Int)),(20,.S 12)],[(6,.box (cC0 3 4 5 x2) 75),(12,.own rR12 st true)],((0,.sl rR0 decls_)::(1,.sl rR12 known_)::vV0 3 4 5 x2 []),13⟩) (fun st=>z54_k1 N known_ x2 st=some r) ?_ (fun j36=>?_)))
  ·intro p h
   replace h:z54_k1 N known_ x2 p=some r:=h
   unfold z54_k1 at h
   refine wO J 5 h fun q s h=>eCb (z114_ct N x2 p known_ _ s) [] [(0,.sl 3),(1,.sl 4),(2,.sl 5),(3,.sl 12),(4,.sl 1)] [12] (.inr ⟨rfl,⟨(rM_flat (rP_flat (rI_flat _) (rP_flat (rI_flat _) rS_flat))),trivial⟩⟩) ?_
   refine wO J 6 h fun u v h=>eCl (z115_ct N x2 q _ v) [] [(0,.sl 3),(1,.sl 4),(2,.sl 5),(3,.sl 13)] ?_
   refine wO J 11 h fun x y h=>eVw J rR12 y ?_
   obtain ⟨z,A,h⟩:=ob h
   refine eDp J rR12 y A ?_
   refine wO J 7 h fun D G h=>eCb (z116_ct N x2.Guard u _ G) [] [(0,.sl 4),(1,.sl 5),(2,.sl 13)] [13] (.inr ⟨rfl,trivial⟩) ?_
   refine wB J 2 h (fun h=>?_) fun h=>?_
   ·cases h
    exact wr J 13 func54 [(2,.nil)]
   refine wO J 3 h fun H R h=>eCb (z117_ct N x2.Fields z.1 _ R) [] [(0,.sl 3),(1,.sl 12)] [12] (.inr ⟨rfl,trivial⟩) ?_
   refine wB J 3 h (fun h=>?_) fun h=>?_
   ·cases h
    exact wr J 6 func54 [(2,.nil)]
   cases h
   exact wr J 8 func54 [(2,.sl 12)]
  refine wa J 1 (eLoop (σ:=(List T12) × Int) (fun st=>⟨[(2,.S 1),(8,.B 6 0),(9,.I (x2.Fields.length:Int)),(18,.S 11),(20,.S 12),(129,.S 3),(130,.I (x2.Fields.length:Int)),(131,.I st.2)],[(6,.box (cC0 3 4 5 x2) 75),(11,.own (rI .i64) k.1 true),(12,.own rR12 st.1 true)],((0,.sl rR0 decls_)::(1,.sl rR12 known_)::vV0 3 4 5 x2 []),13⟩) (fun n st=>z54_l2 N known_ x2 k n st.1 st.2) (r:=r) (fun _=>rfl) ?_ (fun ih=>?_))
  ·intro n9 ih38
   rintro ⟨T,U⟩ h
   replace h:z54_l2 N known_ x2 k (n9+1) T U=some r:=h
   unfold z54_l2 at h
   refine wB' J 5 h (fun h=>wa J 2 (eSub [] (j36 T h))) fun h=>?_
   refine wO J 7 h fun Z a0 h=>eIx J oO4 a0 ?_
   refine wO J 14 h fun b0 c0 h=>eIo J (rI .i64) c0 (eLd J (oI .i64) c0 ?_)
   refine wO J 1 h fun d0 e0 h=>eIo J rR12 e0 (eSt J [] oO12 (⟨Z.Sort'.Kind,b0,(str [])⟩:T12) e0 (eEnd ?_))
   refine wB' J 7 h (fun h=>wa J 7 (eSub [] (ih38 ((setL' T U (⟨Z.Sort'.Kind,b0,(str [])⟩:T12)),(w64 (U+1))) h))) fun h=>?_
   refine wO J 6 h fun f0 g0 h=>eIo J (rI .i64) g0 (eLd J (oI .i64) g0 ?_)
   obtain ⟨i0,j0,h⟩:=ob h
   refine eCl (z113_ct N (str [97]) f0 _ j0) [] [] ?_
   exact wO J 1 h fun k0 l0 h=>eIo J rR12 l0 (eSt J [] oO12 (⟨2,0,i0⟩:T12) l0 (wa J 6 (eSub [] (ih38 ((setL' (setL' T U (⟨Z.Sort'.Kind,b0,(str [])⟩:T12)) U (⟨2,0,i0⟩:T12)),(w64 (U+1))) h))))
  exact eSub [] (ih N (m,0) h)
 refine wa J 1 (eLoop (σ:=Int × (List Int) × Int) (fun st=>⟨[(2,.S 1),(8,.B 6 0),(9,.I (x2.Fields.length:Int)),(10,.B 8 0),(42,.S 9),(43,.I (x4.length:Int)),(44,.I st.2.2)],[(6,.box (cC0 3 4 5 x2) 75),(8,.box [.I st.1,.sl 10] 173),(9,.own rR1 x4 true)],((0,.sl rR0 decls_)::(1,.sl rR12 known_)::vV0 3 4 5 x2 [(10,.sl (rI .i64) st.2.1)]),11⟩) (fun n st=>z54_l4 N known_ x2 x4 n st.1 st.2.1 st.2.2) (r:=r) (fun _=>rfl) ?_ (fun ih=>?_))
 ·intro n14 ih39
  rintro ⟨m0,o0,p0⟩ h
  replace h:z54_l4 N known_ x2 x4 (n14+1) m0 o0 p0=some r:=h
  unfold z54_l4 at h
  refine wB' J 5 h (fun h=>wa J 2 (eSub [] (j1 (m0,o0) h))) fun h=>?_
  refine wO J 6 h fun q0 s0 h=>eIo J rR1 s0 (eLd J oO1 s0 (wa J 25 (eCut (σ:=Int × Int × Int) (fun st=>(zz15 x2 m0 x4 st.2.1 st.2.2 decls_ known_ o0 [(2,.S 1),(8,.B 6 0),(9,.I (x2.Fields.length:Int)),(10,.B 8 0),(14,.I st.1),(15,.B 13 0),(42,.S 9),(43,.I (x4.length:Int)),(44,.I p0)])) (fun st=>z54_k5 N m0 o0 p0 (z54_l4 N known_ x2 x4 n14) st.1 st.2.1 st.2.2=some r) ?_ (fun j62=>?_))))
  ·rintro ⟨t0,u0,v0⟩ h
   replace h:z54_k5 N m0 o0 p0 (z54_l4 N known_ x2 x4 n14) t0 u0 v0=some r:=h
   unfold z54_k5 at h
   refine wa J 2 (eAb 0 rfl (wa J 1 (eAb 1 rfl ?_)))
   exact wO J 3 h fun x0 y0 h=>eCl (z111_ct N (⟨m0,o0⟩:T17) (⟨u0,v0,t0⟩:T1) _ y0) [] [(0,.sl 10)] (wa J 10 (eSub [(10,.sl 14)] (ih39 (x0.1.N,x0.1.B,(w64 (p0+1))) h)))
  refine wa J 1 (eLoop (σ:=Int × Int × Int × Int) (fun st=>(zz15 x2 m0 x4 st.2.1 st.2.2.1 decls_ known_ o0 [(2,.S 1),(8,.B 6 0),(9,.I (x2.Fields.length:Int)),(10,.B 8 0),(14,.I st.1),(15,.B 13 0),(42,.S 9),(43,.I (x4.length:Int)),(44,.I p0),(55,.a [.I q0.X,.I q0.Y]),(56,.I st.2.2.2)])) (fun n st=>z54_l6 N known_ x2 m0 o0 p0 (z54_l4 N known_ x2 x4 n14) q0 n st.1 st.2.1 st.2.2.1 st.2.2.2) (r:=r) (fun _=>rfl) ?_ (fun ih=>?_))
  ·intro n16 ih68
   rintro ⟨z0,A0,B0,C0⟩ h
   replace h:z54_l6 N known_ x2 m0 o0 p0 (z54_l4 N known_ x2 x4 n14) q0 (n16+1) z0 A0 B0 C0=some r:=h
   unfold z54_l6 at h
   refine wB' J 5 h (fun h=>wa J 2 (eSub [] (j62 (z0,A0,B0) h))) fun h=>?_
   refine wO J 7 h fun D0 G0 h=>eAx (SC.i .i64) ([q0.X,q0.Y]:List Int) G0 ?_
   refine wB J 10 h (fun h=>wa J 8 (eSub [] (ih68 (z0,A0,B0,(w64 (C0+1))) h))) fun h=>?_
   refine wa J 8 (eCut (σ:=Bool) (fun st=>(zz15 x2 m0 x4 A0 B0 decls_ known_ o0 [(2,.S 1),(8,.B 6 0),(9,.I (x2.Fields.length:Int)),(10,.B 8 0),(14,.I z0),(15,.B 13 0),(16,.I C0),(17,.I D0),(42,.S 9),(43,.I (x4.length:Int)),(44,.I p0),(55,.a [.I q0.X,.I q0.Y]),(56,.I C0),(70,.O st)])) (fun st=>z54_k7 N known_ x2 z0 A0 B0 C0 (z54_l6 N known_ x2 m0 o0 p0 (z54_l4 N known_ x2 x4 n14) q0 n16) D0 st=some r) ?_ (fun j72=>?_))
   ·intro H0 h
    replace h:z54_k7 N known_ x2 z0 A0 B0 C0 (z54_l6 N known_ x2 m0 o0 p0 (z54_l4 N known_ x2 x4 n14) q0 n16) D0 H0=some r:=h
    unfold z54_k7 at h
    refine eB h (fun h=>?_) fun h=>?_
    ·obtain ⟨K,h⟩|⟨K,h⟩:=oc h
     ·exact wa J 7 (eAb 0 (by exact eq_of_beq K) (wa J 8 (eSub [] (ih68 (z0,(w64 (D0-x2.First)),B0,(w64 (C0+1))) h))))
     obtain ⟨K,h⟩|⟨K,h⟩:=oc h
     ·exact wa J 7 (eAb 1 (by exact eq_of_beq K) (wa J 8 (eSub [] (ih68 (z0,A0,(w64 (D0-x2.First)),(w64 (C0+1))) h))))
     cases h
    refine wO J 5 h fun I0 L0 h=>eIx J oO12 L0 ?_
    refine wB J 5 h (fun h=>?_) fun h=>?_
    ·cases h
     exact wr J 6 func54 [(2,.nil)]
    refine wB J 7 h (fun h=>?_) fun h=>?_
    ·refine wO J 5 h fun M0 O0 h=>eIx J oO12 O0 ?_
     exact wO J 1 h fun R0 S0 h=>eCl (z110_ct N M0 _ S0) [] [] (wa J 9 (eSub [] (ih68 ((w64 (z0-R0)),A0,B0,(w64 (C0+1))) h)))
    refine wO J 5 h fun T0 U0 h=>eIx J oO12 U0 ?_
    exact wO J 1 h fun V0 X0 h=>eCl (z110_ct N T0 _ X0) [] [] (wa J 9 (eSub [] (ih68 ((w64 (z0+V0)),A0,B0,(w64 (C0+1))) h)))
   exact eB h (fun h=>wa J 9 (eSub [] (j72 (decide (D0 < (w64 (x2.First+(x2.Fields.length:Int))))) h))) fun h=>wa J 9 (eSub [] (j72 false h))
  exact eSub [] (ih N (q0.C,(-1),(-1),0) h)
 exact eSub [(10,.sl 7)] (ih N (x3.1.N,x3.1.B,0) h)
theorem z20_ct (N:Nat) (g_:T5) (m_:T8) (s_:T16) (r:(List T3)) (h:z20 N g_ m_ s_=some r) :
 Fn Tryz.prog 20 ⟨9,[.a (cC5 0 1 2 3 g_),.a (cC8 4 5 6 m_),.a (cC16 7 8 s_)],((0,.sl rS g_.Roles)::(1,.sl rR0 g_.Decls)::(2,.sl rR2 g_.Edges)::(3,.sl rR11 g_.Timeouts)::(4,.sl rB m_.Finals)::(5,.sl rR9 m_.Moves)::(6,.sl rR11 m_.Timeouts)::vV16 7 8 s_ []),[],10,.S 9,[],[(9,.own rR3 r true)]⟩:=by
 refine eFn func20 rfl (fun E F w=>?_)
 unfold z20 at h
 refine wO J 13 h fun x1 c h=>eCl (z46_ct N g_ m_ s_ _ c) [] [(0,.sl 0),(1,.sl 1),(2,.sl 2),(3,.sl 3),(4,.sl 4),(5,.sl 5),(6,.sl 6),(7,.sl 7),(8,.sl 8)] ?_
 refine wB J 2 h (fun h=>?_) fun h=>?_
 ·cases h
  exact wr J 5 func20 [(9,.nil)]
 refine wO J 12 h fun x2 d h=>eCl (z53_ct N m_ s_.At _ d) [] [(0,.sl 4),(1,.sl 5),(2,.sl 6)] (wa J 3 (eCut (σ:=(List T3)) (fun st=>⟨[(7,.S 13)],[(13,.own rR3 st true)],((0,.sl rS g_.Roles)::(1,.sl rR0 g_.Decls)::(2,.sl rR2 g_.Edges)::(3,.sl rR11 g_.Timeouts)::(4,.sl rB m_.Finals)::(5,.sl rR9 m_.Moves)::(6,.sl rR11 m_.Timeouts)::vV16 7 8 s_ []),14⟩) (fun st=>z20_k1 st=some r) ?_ (fun j1=>?_)))
 ·intro e h
  replace h:z20_k1 e=some r:=h
  unfold z20_k1 at h
  cases h
  exact wr J 5 func20 [(9,.sl 13)]
 refine wa J 1 (eLoop (σ:=(List T3) × Int) (fun st=>⟨[(3,.B 9 0),(4,.B 10 0),(5,.B 11 0),(7,.S 13),(21,.S 12),(22,.I (x2.length:Int)),(23,.I st.2)],[(9,.box (cC5 0 1 2 3 g_) 27),(10,.box (cC8 4 5 6 m_) 31),(11,.box (cC16 7 8 s_) 48),(13,.own rR3 st.1 true)],((0,.sl rS g_.Roles)::(1,.sl rR0 g_.Decls)::(2,.sl rR2 g_.Edges)::(3,.sl rR11 g_.Timeouts)::(4,.sl rB m_.Finals)::(5,.sl rR9 m_.Moves)::(6,.sl rR11 m_.Timeouts)::vV16 7 8 s_ [(12,.sl (rI .i64) x2)]),14⟩) (fun n st=>z20_l2 N g_ m_ s_ x2 n st.1 st.2) (r:=r) (fun _=>rfl) ?_ (fun ih=>?_))
 ·intro n2 ih6
  rintro ⟨f,g⟩ h
  replace h:z20_l2 N g_ m_ s_ x2 (n2+1) f g=some r:=h
  unfold z20_l2 at h
  refine wB' J 5 h (fun h=>wa J 2 (eSub [] (j1 f h))) fun h=>?_
  refine wO J 6 h fun i j h=>eIx J (oI .i64) j ?_
  refine wO J 8 h fun k l h=>eIx J oO9 l ?_
  refine wO J 12 h fun m o h=>eCl (z54_ct N g_.Decls k.Label s_.Known _ o) [] [(0,.sl 1),(1,.sl 7)] (wa J 12 (eCut (σ:=(List T12) × Bool) (fun st=>⟨[(3,.B 9 0),(4,.B 10 0),(5,.B 11 0),(7,.S 13),(10,.B 16 0),(11,.S 18),(12,.O st.2),(21,.S 12),(22,.I (x2.length:Int)),(23,.I g)],[(9,.box (cC5 0 1 2 3 g_) 27),(10,.box (cC8 4 5 6 m_) 31),(11,.box (cC16 7 8 s_) 48),(13,.own rR3 f true),(16,.box (cC9 k) 52),(18,.own rR12 st.1 true)],((0,.sl rS g_.Roles)::(1,.sl rR0 g_.Decls)::(2,.sl rR2 g_.Edges)::(3,.sl rR11 g_.Timeouts)::(4,.sl rB m_.Finals)::(5,.sl rR9 m_.Moves)::(6,.sl rR11 m_.Timeouts)::vV16 7 8 s_ [(12,.sl (rI .i64) x2)]),19⟩) (fun st=>z20_k3 m_ f g (z20_l2 N g_ m_ s_ x2 n2) k st.1 st.2=some r) ?_ (fun j9=>?_)))
  ·rintro ⟨p,q⟩ h
   replace h:z20_k3 m_ f g (z20_l2 N g_ m_ s_ x2 n2) k p q=some r:=h
   unfold z20_k3 at h
   refine wB' J 4 h (fun h=>wa J 7 (eSub [] (ih6 (f,(w64 (g+1))) h))) fun h=>wa J 13 (eBs J [18] oO3 ([(⟨m_.Role,k.Send,k.Peer,k.Label,p⟩:T3)]:List T3) ?_)
   obtain ⟨s,t,h⟩:=ob h
   exact eAp J rR3 t (wa J 7 (eSub [(13,.sl 20)] (ih6 (s,(w64 (g+1))) h)))
  refine eB' h (fun h=>wa J 2 (eSub [(18,.sl 17)] (j9 (m.1,m.2) h))) fun h=>?_
  refine wO J 4 h fun u v h=>eCl (z55_ct N s_.Pending _ v) [] [(0,.sl 8)] ?_
  exact wO J 8 h fun x y h=>eCl (z56_ct N g_.Decls k.Label s_.Pending s_.Known _ y) [] [(0,.sl 1),(1,.sl 8),(2,.sl 7)] (wa J 2 (eEnd (eSub [] (j9 (u,x) h))))
 exact eSub [(13,.nil)] (ih N (([]:List T3),0) h)
theorem z12_ct (N:Nat) (a_:(List ByteArray)) (b_:(List ByteArray)) (r:Bool) (h:z12 N a_ b_=some r) :
 Fn Tryz.prog 12 ⟨2,[.S 0,.S 1],[(0,.sl rS a_),(1,.sl rS b_)],[],2,.O r,[],[]⟩:=by
 refine eFn func12 rfl (fun E F w=>?_)
 unfold z12 at h
 refine wB J 13 h (fun h=>?_) fun h=>wa J 7 (eCut (σ:=Unit) (fun st=>⟨[],[],[(0,.sl rS a_),(1,.sl rS b_)],2⟩) (fun st=>z12_k1=some r) ?_ (fun j1=>?_))
 ·cases h
  exact wr J 5 func12 []
 ·intro _ h
  replace h:z12_k1=some r:=h
  unfold z12_k1 at h
  cases h
  exact wr J 4 func12 []
 refine wa J 1 (eLoop (σ:=Int) (fun st=>⟨[(0,.S 0),(1,.S 1),(5,.I st)],[],[(0,.sl rS a_),(1,.sl rS b_)],2⟩) (fun n st=>z12_l2 a_ b_ n st) (r:=r) (fun _=>rfl) ?_ (fun ih=>?_))
 ·intro n2 ih3
  intro c h
  replace h:z12_l2 a_ b_ (n2+1) c=some r:=h
  unfold z12_l2 at h
  refine wB' J 8 h (fun h=>wa J 2 (eSub [] (j1 () h))) fun h=>?_
  refine wO J 8 h fun d e h=>eIx J oS e ?_
  refine wO J 3 h fun f g h=>eIx J oS g (wa J 2 (eEnd ?_))
  refine eB h (fun h=>?_) fun h=>wa J 8 (eSub [] (ih3 (w64 (c+1)) h))
  cases h
  exact wr J 5 func12 []
 exact eSub [] (ih N 0 h)
theorem z26_ct (N:Nat) (n_:Int) (r:T12) (h:z26 N n_=some r) :
 Fn Tryz.prog 26 ⟨0,[.I n_],[],[],0,.a (cC12 r),[],[]⟩:=by
 refine eFn func26 rfl (fun E F w=>?_)
 unfold z26 at h
 cases h
 exact wr J 10 func26 []
theorem z25_ct (N:Nat) (a_:(List T12)) (b_:(List T12)) (r:Bool) (h:z25 N a_ b_=some r) :
 Fn Tryz.prog 25 ⟨2,[.S 0,.S 1],[(0,.sl rR12 a_),(1,.sl rR12 b_)],[],2,.O r,[],[]⟩:=by
 refine eFn func25 rfl (fun E F w=>?_)
 unfold z25 at h
 refine wB J 13 h (fun h=>?_) fun h=>wa J 7 (eCut (σ:=Unit) (fun st=>(zz4 a_ b_ [])) (fun st=>z25_k1=some r) ?_ (fun j1=>?_))
 ·cases h
  exact wr J 5 func25 []
 ·intro _ h
  replace h:z25_k1=some r:=h
  unfold z25_k1 at h
  cases h
  exact wr J 4 func25 []
 refine wa J 1 (eLoop (σ:=Int) (fun st=>(zz4 a_ b_ [(0,.S 0),(1,.S 1),(5,.I st)])) (fun n st=>z25_l2 a_ b_ n st) (r:=r) (fun _=>rfl) ?_ (fun ih=>?_))
 ·intro n2 ih3
  intro c h
  replace h:z25_l2 a_ b_ (n2+1) c=some r:=h
  unfold z25_l2 at h
  refine wB' J 8 h (fun h=>wa J 2 (eSub [] (j1 () h))) fun h=>?_
  refine wO J 8 h fun d e h=>eIx J oO12 e ?_
  refine wO J 3 h fun f g h=>eIx J oO12 g (wa J 1 (eEq (eEnd ?_)))
  refine eB h (fun h=>?_) fun h=>wa J 8 (eSub [] (ih3 (w64 (c+1)) h))
  cases h
  exact wr J 5 func25 []
 exact eSub [] (ih N 0 h)
theorem z8_ct (N:Nat) (r:Bool) (h:z8 N=some r) :
 Fn Tryz.prog 8 ⟨1,[],[],[(0,.abs powT)],1,.O r,[],[(0,.abs powT)]⟩:=by
 refine eFn func8 rfl (fun E F w=>?_)
 unfold z8 at h
 refine wa J 13 (eBs J [] oS ([(str [97]),(str [98])]:List ByteArray) (wa J 1 (eBs J [] oO4 ([(⟨(str [110]),(⟨1,0,9⟩:T10)⟩:T4)]:List T4) (wa J 1 (eBs J [3] oO0 ([(⟨(str [97,115,107]),([(⟨(str [110]),(⟨1,0,9⟩:T10)⟩:T4)]:List T4),0,(⟨([]:List T1),([]:List (Int × Int))⟩:T6)⟩:T0)]:List T0) (wa J 2 (eBs J [] oO2 ([(⟨0,(⟨0,1,0⟩:T7),1,false⟩:T2)]:List T2) (wa J 6 (eBs J [] oB ([false,true]:List Bool) (wa J 1 (eBs J [] oO9 ([(⟨0,true,1,0,1,false⟩:T9)]:List T9) ?_)))))))))))
 refine wO J 8 h fun x1 c h=>eCl (z10_ct N (⟨(str [80]),([(str [97]),(str [98])]:List ByteArray),([(⟨(str [97,115,107]),([(⟨(str [110]),(⟨1,0,9⟩:T10)⟩:T4)]:List T4),0,(⟨([]:List T1),([]:List (Int × Int))⟩:T6)⟩:T0)]:List T0),2,0,1,([(⟨0,(⟨0,1,0⟩:T7),1,false⟩:T2)]:List T2),([]:List T11)⟩:T5) (⟨0,2,0,([false,true]:List Bool),([(⟨0,true,1,0,1,false⟩:T9)]:List T9),([]:List T11)⟩:T8) 0 _ c) [2,4,5,7,8] [(0,.sl 2),(1,.sl 4),(2,.sl 5),(3,.nil),(4,.sl 7),(5,.sl 8),(6,.nil),(7,.sl 0)] ?_
 refine wO J 11 h fun x2 d h=>eCl (z15_ct N (⟨(str [80]),([(str [97]),(str [98])]:List ByteArray),([(⟨(str [97,115,107]),([(⟨(str [110]),(⟨1,0,9⟩:T10)⟩:T4)]:List T4),0,(⟨([]:List T1),([]:List (Int × Int))⟩:T6)⟩:T0)]:List T0),2,0,1,([(⟨0,(⟨0,1,0⟩:T7),1,false⟩:T2)]:List T2),([]:List T11)⟩:T5) (⟨0,2,0,([false,true]:List Bool),([(⟨0,true,1,0,1,false⟩:T9)]:List T9),([]:List T11)⟩:T8) ([]:List T3) (⟨0,true,1,0,([]:List T12)⟩:T3) _ d) [] [(0,.sl 2),(1,.sl 4),(2,.sl 5),(3,.nil),(4,.sl 7),(5,.sl 8),(6,.nil),(7,.nil),(8,.nil),(9,.sl 0)] ?_
 refine wO J 12 h fun x3 e h=>eCl (z24_ct N (⟨(str [80]),([(str [97]),(str [98])]:List ByteArray),([(⟨(str [97,115,107]),([(⟨(str [110]),(⟨1,0,9⟩:T10)⟩:T4)]:List T4),0,(⟨([]:List T1),([]:List (Int × Int))⟩:T6)⟩:T0)]:List T0),2,0,1,([(⟨0,(⟨0,1,0⟩:T7),1,false⟩:T2)]:List T2),([]:List T11)⟩:T5) (⟨0,2,0,([false,true]:List Bool),([(⟨0,true,1,0,1,false⟩:T9)]:List T9),([]:List T11)⟩:T8) _ e) [] [(0,.sl 2),(1,.sl 4),(2,.sl 5),(3,.nil),(4,.sl 7),(5,.sl 8),(6,.nil)] ?_
 obtain ⟨x4,f,h⟩:=ob h
 refine eCl (z20_ct N (⟨(str [80]),([(str [97]),(str [98])]:List ByteArray),([(⟨(str [97,115,107]),([(⟨(str [110]),(⟨1,0,9⟩:T10)⟩:T4)]:List T4),0,(⟨([]:List T1),([]:List (Int × Int))⟩:T6)⟩:T0)]:List T0),2,0,1,([(⟨0,(⟨0,1,0⟩:T7),1,false⟩:T2)]:List T2),([]:List T11)⟩:T5) (⟨0,2,0,([false,true]:List Bool),([(⟨0,true,1,0,1,false⟩:T9)]:List T9),([]:List T11)⟩:T8) x3 _ f) [] [(0,.sl 2),(1,.sl 4),(2,.sl 5),(3,.nil),(4,.sl 7),(5,.sl 8),(6,.nil),(7,.sl 11),(8,.sl 12)] (wa J 1 (eEnd ?_))
 refine wB' J 5 h (fun h=>wa J 27 (eEnd ?_)) fun h=>?_
 ·cases h
  exact eRet J func8 []
 refine wB' J 4 h (fun h=>wa J 23 (eEnd ?_)) fun h=>wa J 1 (eBs J [] oS ([(str [115,101,110,100,32,97,115,107,40,110,58,32,105,110,116,32,48,32,46,46,32,57,41,32,116,111,32,98])]:List ByteArray) ?_)
 ·cases h
  exact eRet J func8 []
 obtain ⟨x5,g,h⟩:=ob h
 refine eCb (z12_ct N x1.1 ([(str [115,101,110,100,32,97,115,107,40,110,58,32,105,110,116,32,48,32,46,46,32,57,41,32,116,111,32,98])]:List ByteArray) _ g) [] [(0,.sl 10),(1,.sl 14)] [10,14] (.inr ⟨rfl,trivial⟩) ?_
 refine wB' J 2 h (fun h=>wa J 18 (eEnd ?_)) fun h=>?_
 ·cases h
  exact eRet J func8 []
 refine wB' J 4 h (fun h=>wa J 14 (eEnd ?_)) fun h=>?_
 ·cases h
  exact eRet J func8 []
 refine wB' J 5 h (fun h=>wa J 9 (eEnd ?_)) fun h=>?_
 ·cases h
  exact eRet J func8 []
 refine wO J 1 h fun x6 i h=>eIo J rR3 i (wa J 1 (eLd J oO3 i ?_))
 obtain ⟨x7,j,h⟩:=ob h
 refine eCl (z26_ct N 0 _ j) [] [] (eBs J [] oO12 ([x7]:List T12) ?_)
 obtain ⟨x8,k,h⟩:=ob h
 refine eCb (z25_ct N x6.Values ([x7]:List T12) _ k) [] [(0,.sl 16),(1,.sl 17)] [17] (.inr ⟨rfl,trivial⟩) (wa J 2 (eEnd ?_))
 cases h
 exact eRet J func8 []
theorem z62_ct (N:Nat) (l_:(List T0)) (r:Bool) (h:z62 N l_=some r) :
 Fn Tryz.prog 62 ⟨1,[.S 0],[(0,.sl rR0 l_)],[],1,.O r,[],[]⟩:=by
 refine eFn func62 rfl (fun E F w=>?_)
 unfold z62 at h
 refine wa J 13 (eCut (σ:=Int) (fun st=>⟨[(0,.S 0),(3,.I st)],[],[(0,.sl rR0 l_)],1⟩) (fun st=>z62_k1 l_ st=some r) ?_ (fun j1=>?_))
 ·intro c h
  replace h:z62_k1 l_ c=some r:=h
  unfold z62_k1 at h
  refine wB J 6 h (fun h=>?_) fun h=>?_
  ·cases h
   exact wr J 5 func62 []
  cases h
  exact wr J 5 func62 []
 refine wa J 1 (eLoop (σ:=Int × Int) (fun st=>⟨[(0,.S 0),(3,.I st.1),(4,.I st.2)],[],[(0,.sl rR0 l_)],1⟩) (fun n st=>z62_l2 l_ n st.1 st.2) (r:=r) (fun _=>rfl) ?_ (fun ih=>?_))
 ·intro n2 ih3
  rintro ⟨d,e⟩ h
  replace h:z62_l2 l_ (n2+1) d e=some r:=h
  unfold z62_l2 at h
  refine wB' J 8 h (fun h=>wa J 2 (eSub [] (j1 d h))) fun h=>?_
  refine wO J 8 h fun f g h=>eIx J oO0 g ?_
  refine wO J 5 h fun i j h=>eIx J oO0 j ?_
  exact wO J 7 h fun k l h=>eIx J oO0 l (wa J 7 (eEnd (wa J 6 (eSub [] (ih3 ((w64 (d+(w64 ((w64 ((f.Fields.length:Int)+(i.Guard.Diffs.length:Int)))+(k.Guard.Equals.length:Int))))),(w64 (e+1))) h)))))
 exact eSub [] (ih N (0,0) h)
theorem z27_ct (N:Nat) (g_:T5) (r:Bool) (h:z27 N g_=some r) :
 Fn Tryz.prog 27 ⟨4,[.a (cC5 0 1 2 3 g_)],(vV5 0 1 2 3 g_ []),[],4,.O r,[],[]⟩:=by
 refine eFn func27 rfl (fun E F w=>?_)
 unfold z27 at h
 refine wB' J 11 h (fun h=>?_) fun h=>?_
 ·cases h
  exact wr J 24 func27 []
 refine wB' J 6 h (fun h=>?_) fun h=>?_
 ·cases h
  exact wr J 18 func27 []
 refine wB' J 6 h (fun h=>?_) fun h=>?_
 ·cases h
  exact wr J 12 func27 []
 refine wB' J 6 h (fun h=>?_) fun h=>?_
 ·cases h
  exact wr J 6 func27 []
 refine wO J 2 h fun x1 c h=>eCl (z62_ct N g_.Decls _ c) [] [(0,.sl 1)] ?_
 cases h
 exact wr J 3 func27 []
theorem z28_ct (N:Nat) (m_:T8) (r:Bool) (h:z28 N m_=some r) :
 Fn Tryz.prog 28 ⟨3,[.a (cC8 0 1 2 m_)],(vV8 0 1 2 m_ []),[],3,.O r,[],[]⟩:=by
 refine eFn func28 rfl (fun E F w=>?_)
 unfold z28 at h
 refine wB' J 11 h (fun h=>?_) fun h=>?_
 ·cases h
  exact wr J 19 func28 []
 refine wB' J 6 h (fun h=>?_) fun h=>?_
 ·cases h
  exact wr J 13 func28 []
 refine wB J 6 h (fun h=>?_) fun h=>?_
 ·cases h
  exact wr J 7 func28 []
 cases h
 exact wr J 7 func28 []
theorem z63_ct (N:Nat) (l_:(List T12)) (r:Bool) (h:z63 N l_=some r) :
 Fn Tryz.prog 63 ⟨1,[.S 0],[(0,.sl rR12 l_)],[],1,.O r,[],[]⟩:=by
 refine eFn func63 rfl (fun E F w=>?_)
 unfold z63 at h
 refine wa J 9 (eCut (σ:=Unit) (fun st=>⟨[(0,.S 0)],[],[(0,.sl rR12 l_)],1⟩) (fun st=>z63_k1 l_=some r) ?_ (fun j1=>?_))
 ·intro _ h
  replace h:z63_k1 l_=some r:=h
  unfold z63_k1 at h
  cases h
  exact wr J 7 func63 []
 refine wa J 1 (eLoop (σ:=Int) (fun st=>⟨[(0,.S 0),(3,.I st)],[],[(0,.sl rR12 l_)],1⟩) (fun n st=>z63_l2 l_ n st) (r:=r) (fun _=>rfl) ?_ (fun ih=>?_))
 ·intro n2 ih3
  intro c h
  replace h:z63_l2 l_ (n2+1) c=some r:=h
  unfold z63_l2 at h
  refine wB' J 8 h (fun h=>wa J 2 (eSub [] (j1 () h))) fun h=>?_
  refine wO J 8 h fun x9 d h=>eIx J oO12 d ?_
  refine wB J 5 h (fun h=>?_) fun h=>wa J 8 (eSub [] (ih3 (w64 (c+1)) h))
  cases h
  exact wr J 5 func63 []
 exact eSub [] (ih N 0 h)
theorem z29_ct (N:Nat) (l_:(List T3)) (r:Bool) (h:z29 N l_=some r) :
 Fn Tryz.prog 29 ⟨1,[.S 0],[(0,.sl rR3 l_)],[],1,.O r,[],[]⟩:=by
 refine eFn func29 rfl (fun E F w=>?_)
 unfold z29 at h
 refine wa J 9 (eCut (σ:=Unit) (fun st=>⟨[(0,.S 0)],[],[(0,.sl rR3 l_)],1⟩) (fun st=>z29_k1 l_=some r) ?_ (fun j1=>?_))
 ·intro _ h
  replace h:z29_k1 l_=some r:=h
  unfold z29_k1 at h
  cases h
  exact wr J 7 func29 []
 refine wa J 1 (eLoop (σ:=Int) (fun st=>⟨[(0,.S 0),(3,.I st)],[],[(0,.sl rR3 l_)],1⟩) (fun n st=>z29_l2 N l_ n st) (r:=r) (fun _=>rfl) ?_ (fun ih=>?_))
 ·intro n2 ih3
  intro c h
  replace h:z29_l2 N l_ (n2+1) c=some r:=h
  unfold z29_l2 at h
  refine wB' J 8 h (fun h=>wa J 2 (eSub [] (j1 () h))) fun h=>?_
  refine wO J 8 h fun d e h=>eIx J oO3 e ?_
  refine wO J 2 h fun f g h=>eCl (z63_ct N d.Values _ g) [] [(0,.sl 2)] ?_
  refine wB J 2 h (fun h=>?_) fun h=>wa J 8 (eSub [] (ih3 (w64 (c+1)) h))
  cases h
  exact wr J 5 func29 []
 exact eSub [] (ih N 0 h)
theorem z9_ct (N:Nat) (g_:T5) (m_:T8) (l_:(List T3)) (r:Bool) (h:z9 N g_ m_ l_=some r) :
 Fn Tryz.prog 9 ⟨8,[.a (cC5 0 1 2 3 g_),.a (cC8 4 5 6 m_),.S 7],((0,.sl rS g_.Roles)::(1,.sl rR0 g_.Decls)::(2,.sl rR2 g_.Edges)::(3,.sl rR11 g_.Timeouts)::vV8 4 5 6 m_ [(7,.sl rR3 l_)]),[],8,.O r,[],[]⟩:=by
 refine eFn func9 rfl (fun E F w=>?_)
 unfold z9 at h
 refine wO J 9 h fun x1 c h=>eCl (z27_ct N g_ _ c) [] [(0,.sl 0),(1,.sl 1),(2,.sl 2),(3,.sl 3)] ?_
 refine wB' J 1 h (fun h=>?_) fun h=>?_
 ·cases h
  exact wr J 9 func9 []
 refine wO J 1 h fun x2 d h=>eCl (z28_ct N m_ _ d) [] [(0,.sl 4),(1,.sl 5),(2,.sl 6)] ?_
 refine wB' J 2 h (fun h=>?_) fun h=>?_
 ·cases h
  exact wr J 5 func9 []
 refine wO J 1 h fun x3 e h=>eCl (z29_ct N l_ _ e) [] [(0,.sl 7)] ?_
 cases h
 exact wr J 3 func9 []
theorem law43_ExplainPermits_ct (N:Nat) (g_:T5) (m_:T8) (l_:(List T3)) (r:Bool) (h:law43_ExplainPermits N g_ m_ l_=some r) :
 Fn Tryz.prog 6 ⟨9,[.a (cC5 0 1 2 3 g_),.a (cC8 4 5 6 m_),.S 7],((0,.sl rS g_.Roles)::(1,.sl rR0 g_.Decls)::(2,.sl rR2 g_.Edges)::(3,.sl rR11 g_.Timeouts)::vV8 4 5 6 m_ [(7,.sl rR3 l_)]),[(8,.abs powT)],9,.O r,[],[(8,.abs powT)]⟩:=by
 refine eFn func6 rfl (fun E F w=>?_)
 unfold law43_ExplainPermits at h
 refine wO J 9 h fun x1 d h=>eCl (z8_ct N _ d) [] [(0,.sl 8)] ?_
 refine wB J 2 h (fun h=>?_) fun h=>?_
 ·cases h
  exact wr J 5 func6 []
 refine wO J 8 h fun x2 e h=>eCl (z9_ct N g_ m_ l_ _ e) [] [(0,.sl 0),(1,.sl 1),(2,.sl 2),(3,.sl 3),(4,.sl 4),(5,.sl 5),(6,.sl 6),(7,.sl 7)] ?_
 refine wB J 2 h (fun h=>?_) fun h=>?_
 ·cases h
  exact wr J 10 func6 []
 refine wB J 5 h (fun h=>?_) fun h=>?_
 ·cases h
  exact wr J 5 func6 []
 refine wO J 15 h fun x3 f h=>eIs J rR3 f ?_
 refine wO J 2 h fun x4 g h=>eIx J oO3 g ?_
 refine wO J 1 h fun x5 i h=>eCl (z15_ct N g_ m_ x3 x4 _ i) [] [(0,.sl 0),(1,.sl 1),(2,.sl 2),(3,.sl 3),(4,.sl 4),(5,.sl 5),(6,.sl 6),(7,.sl 11),(8,.sl 13),(9,.sl 8)] (wa J 5 (eEnd ?_))
 refine wO J 6 h fun x6 j h=>eIs J rR3 j ?_
 obtain ⟨x7,k,h⟩:=ob h
 refine eCl (z17_ct N g_ m_ x6 _ k) [] [(0,.sl 0),(1,.sl 1),(2,.sl 2),(3,.sl 3),(4,.sl 4),(5,.sl 5),(6,.sl 6),(7,.sl 14)] (wa J 8 (eEnd ?_))
 refine wB J 6 h (fun h=>?_) fun h=>?_
 ·refine wB J 10 h (fun h=>?_) fun h=>?_
  ·cases h
   exact wr J 5 func6 []
  cases h
  exact wr J 5 func6 []
 refine wB J 4 h (fun h=>?_) fun h=>?_
 ·refine wB J 6 h (fun h=>?_) fun h=>?_
  ·cases h
   exact wr J 5 func6 []
  cases h
  exact wr J 5 func6 []
 refine wO J 7 h fun x8 l h=>eCl (z18_ct N g_ m_ l_ _ l) [] [(0,.sl 0),(1,.sl 1),(2,.sl 2),(3,.sl 3),(4,.sl 4),(5,.sl 5),(6,.sl 6),(7,.sl 7),(8,.sl 8)] ?_
 refine wO J 12 h fun x9 m h=>eCl (z10_ct N g_ m_ x7.1.At _ m) [] [(0,.sl 0),(1,.sl 1),(2,.sl 2),(3,.sl 3),(4,.sl 4),(5,.sl 5),(6,.sl 6),(7,.sl 8)] ?_
 refine wO J 9 h fun o p h=>eCa p (wa J 7 (eCut (σ:=ByteArray) (fun st=>(zz27 powT x9.1 g_.Roles g_.Decls g_.Edges g_.Timeouts m_ l_ [(8,.c (.s x5.1)),(12,.I x7.2.2),(14,.I x8.2),(15,.S 18),(16,.I x9.2),(17,.c (.s st))])) (fun st=>law43_ExplainPermits_k2 x5 x7 x8 x9 st=some r) ?_ (fun j1=>?_)))
 ·intro q h
  replace h:law43_ExplainPermits_k2 x5 x7 x8 x9 q=some r:=h
  unfold law43_ExplainPermits_k2 at h
  refine wa J 7 (eCut (σ:=ByteArray) (fun st=>⟨[(8,.c (.s x5.1)),(12,.I x7.2.2),(14,.I x8.2),(16,.I x9.2),(17,.c (.s st))],[(8,.abs powT)],((0,.sl rS g_.Roles)::(1,.sl rR0 g_.Decls)::(2,.sl rR2 g_.Edges)::(3,.sl rR11 g_.Timeouts)::vV8 4 5 6 m_ [(7,.sl rR3 l_)]),19⟩) (fun st=>law43_ExplainPermits_k1 x5 x7 x8 x9 st=some r) ?_ (fun j3=>?_))
  ·intro t h
   replace h:law43_ExplainPermits_k1 x5 x7 x8 x9 t=some r:=h
   unfold law43_ExplainPermits_k1 at h
   refine wB' J 5 h (fun h=>?_) fun h=>?_
   ·cases h
    exact wr J 14 func6 []
   refine wB' J 4 h (fun h=>?_) fun h=>?_
   ·cases h
    exact wr J 10 func6 []
   refine wB J 4 h (fun h=>?_) fun h=>?_
   ·cases h
    exact wr J 6 func6 []
   cases h
   exact wr J 6 func6 []
  refine eB' h (fun h=>wa J 2 (eSub [] (j3 q h))) fun h=>?_
  exact wO J 3 h fun u v h=>eCa v (wa J 2 (eSub [] (j3 u h)))
 refine wa J 1 (eLoop (σ:=ByteArray × Int) (fun st=>(zz27 powT x9.1 g_.Roles g_.Decls g_.Edges g_.Timeouts m_ l_ [(8,.c (.s x5.1)),(12,.I x7.2.2),(14,.I x8.2),(15,.S 18),(16,.I x9.2),(17,.c (.s st.1)),(18,.I st.2)])) (fun n st=>law43_ExplainPermits_l3 x5 x7 x8 x9 n st.1 st.2) (r:=r) (fun _=>rfl) ?_ (fun ih=>?_))
 ·intro n2 ih4
  rintro ⟨x,y⟩ h
  replace h:law43_ExplainPermits_l3 x5 x7 x8 x9 (n2+1) x y=some r:=h
  unfold law43_ExplainPermits_l3 at h
  refine wB' J 8 h (fun h=>wa J 2 (eSub [] (j1 x h))) fun h=>?_
  refine wB' J 10 h (fun h=>?_) fun h=>?_
  ·refine wO J 6 h fun z A h=>eIo J rS A (eLd J oS A ?_)
   obtain ⟨C,D,h⟩:=ob h
   exact eCa D (wa J 8 (eSub [] (ih4 (C,(w64 (y+1))) h)))
  refine wO J 3 h fun G H h=>eCa H ?_
  refine wO J 6 h fun R T h=>eIo J rS T (eLd J oS T ?_)
  obtain ⟨U,X,h⟩:=ob h
  exact eCa X (wa J 8 (eSub [] (ih4 (U,(w64 (y+1))) h)))
 exact eSub [] (ih N (o,0) h)
end Gx
end
