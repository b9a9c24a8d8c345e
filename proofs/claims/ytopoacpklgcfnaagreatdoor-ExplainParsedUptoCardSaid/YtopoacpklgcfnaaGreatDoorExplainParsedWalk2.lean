/- Each function of the statement computes what its plain definition says, part 2. -/
import Derived.Test.YtopoacpklgcfnaaGreatDoorExplainParsedWalk1
set_option linter.all false
section
set_option maxRecDepth 10000
set_option maxHeartbeats 4000000
open Go Go.Kx Go.Proofs Tryz
namespace Gx
theorem repL_eq (l:List UInt8):∀ n:Nat,Go.Lib.repeatL l n=repL l n
 | 0=>rfl
 | n+1=>by show l++Go.Lib.repeatL l n=l++repL l n;rw [repL_eq l n]
theorem z86_ct (N:Nat) (d:ByteArray) (e:Int) (r:ByteArray) (h:z86 N d e=some r):Fn Tryz.prog 86 ⟨0,[.c (.s d),.I e],[],[],0,.c (.s r),[],[]⟩:=by
 unfold z86 at h
 cases hb:((decide (0≤e) && decide (e≤140737488355328)) && decide (d.size * e.toNat≤140737488355328)) with
 | false=>rw [hb] at h;cases h
 | true =>
  rw [hb] at h
  simp only [cond_true,Option.some.injEq] at h
  subst h
  simp only [Bool.and_eq_true,decide_eq_true_eq] at hb
  obtain ⟨⟨h1,h2⟩,h3⟩:=hb
  obtain ⟨c,rfl⟩:=Int.eq_ofNat_of_zero_le h1
  have:=repeat_fn d c (by omega) h3
  rw [repL_eq] at this
  exact this
theorem z88_ct (N:Nat) (c:T0) (d:(List T12)) (r:(List T12)) (h:z88 N c d=some r) :
 Fn Tryz.prog 88 ⟨4,[.a (cC0 0 1 2 c),.S 3],(vV0 0 1 2 c []),[(3,.own rR12 d false)],4,.t [],[],[(3,.own rR12 r false)]⟩:=by
 refine eFn func88 rfl (fun E F w=>?_)
 unfold z88 at h
 refine wO J 8 h fun e f h=>eMk J oB f (wa J 9 (eCut (σ:=(List Bool)) (fun st=>(zz11 d c st [(1,.S 3),(2,.B 4 0),(4,.S 5)])) (fun st=>z88_k8 N c d st=some r) ?_ (fun j1=>?_)))
 ·intro g h
  unfold z88_k8 at h
  refine wa J 4 (eCut (σ:=(List T12)) (fun st=>⟨[],[(3,.own rR12 st false)],(vV0 0 1 2 c []),6⟩) (fun st=>z88_k1 st=some r) ?_ (fun j3=>?_))
  ·intro j h
   unfold z88_k1 at h
   cases h
   exact eRet J func88 []
  refine wa J 1 (eLoop (σ:=(List T12) × (List Bool) × Bool) (fun st=>(zz11 st.1 c st.2.1 [(1,.S 3),(2,.B 4 0),(4,.S 5),(6,.O st.2.2)])) (fun n st=>z88_l2 N c n st.1 st.2.1 st.2.2) (r:=r) (fun _=>rfl) ?_ (fun ih=>?_))
  ·intro n73 ih176
   rintro ⟨k,l,m⟩ h
   unfold z88_l2 at h
   refine wB' J 5 h (fun h=>wa J 2 (eSub [] (j3 k h))) fun h=>wa J 15 (eCut (σ:=(List T12) × (List Bool) × Bool) (fun st=>(zz11 st.1 c st.2.1 [(1,.S 3),(2,.B 4 0),(4,.S 5),(6,.O st.2.2)])) (fun st=>z88_k3 (z88_l2 N c n73) st.1 st.2.1 st.2.2=some r) ?_ (fun j291=>?_))
   ·rintro ⟨o,p,q⟩ h
    unfold z88_k3 at h
    exact wa J 1 (eSub [] (ih176 (o,p,q) h))
   refine wa J 1 (eLoop (σ:=(List T12) × (List Bool) × Bool × Int) (fun st=>(zz11 st.1 c st.2.1 [(1,.S 3),(2,.B 4 0),(4,.S 5),(6,.O st.2.2.1),(49,.S 2),(50,.I (c.Guard.Equals.length:Int)),(51,.I st.2.2.2)])) (fun n st=>z88_l4 N c (z88_l2 N c n73) n st.1 st.2.1 st.2.2.1 st.2.2.2) (r:=r) (fun _=>rfl) ?_ (fun ih=>?_))
   ·intro n85 ih320
    rintro ⟨s,u,v,x⟩ h
    unfold z88_l4 at h
    refine wB' J 5 h (fun h=>wa J 2 (eSub [] (j291 (s,u,v) h))) fun h=>?_
    refine wO J 6 h fun y z h=>eIx J (oP (oI .i64) (oI .i64)) z (wa J 9 (eCut (σ:=(List T12) × (List Bool) × Bool) (fun st=>⟨[(1,.S 3),(2,.B 4 0),(4,.S 5),(6,.O st.2.2),(49,.S 2),(50,.I (c.Guard.Equals.length:Int)),(51,.I x)],[(3,.own rR12 st.1 false),(4,.box (cC0 0 1 2 c) 31),(5,.own rB st.2.1 true)],(vV0 0 1 2 c []),8⟩) (fun st=>z88_k5 x (z88_l4 N c (z88_l2 N c n73) n85) st.1 st.2.1 st.2.2=some r) ?_ (fun j339=>?_)))
    ·rintro ⟨A,C,D⟩ h
     unfold z88_k5 at h
     exact wa J 5 (eSub [] (ih320 (A,C,D,(w64 (x+1))) h))
    refine wa J 1 (eLoop (σ:=(List T12) × (List Bool) × Bool × Int) (fun st=>(zz33 st.1 c st.2.1 y.1 y.2 [(1,.S 3),(2,.B 4 0),(4,.S 5),(6,.O st.2.2.1),(8,.B 7 0),(49,.S 2),(50,.I (c.Guard.Equals.length:Int)),(51,.I x),(55,.a [.I y.1,.I y.2]),(56,.I st.2.2.2)])) (fun n st=>z88_l6 x (z88_l4 N c (z88_l2 N c n73) n85) y n st.1 st.2.1 st.2.2.1 st.2.2.2) (r:=r) (fun _=>rfl) ?_ (fun ih=>?_))
    ·intro n87 ih344
     rintro ⟨G,H,R,T⟩ h
     unfold z88_l6 at h
     refine wB' J 5 h (fun h=>wa J 2 (eSub [] (j339 (G,H,R) h))) fun h=>?_
     refine wO J 7 h fun U X h=>eAx (SC.i .i64) ([y.1,y.2]:List Int) X ?_
     refine wa J 7 (eCut (σ:=Int) (fun st=>(zz33 G c H y.1 y.2 [(1,.S 3),(2,.B 4 0),(4,.S 5),(6,.O R),(8,.B 7 0),(10,.I U),(11,.I st),(49,.S 2),(50,.I (c.Guard.Equals.length:Int)),(51,.I x),(55,.a [.I y.1,.I y.2]),(56,.I T)])) (fun st=>z88_k7 G H R T (z88_l6 x (z88_l4 N c (z88_l2 N c n73) n85) y n87) U st=some r) ?_ (fun j347=>?_))
     ·intro Y h
      unfold z88_k7 at h
      refine wO J 4 h fun Z a0 h=>eIo J rB a0 (eLd J oB a0 ?_)
      refine wB' J 1 h (fun h=>wa J 14 (eSub [] (ih344 (G,H,R,(w64 (T+1))) h))) fun h=>?_
      refine wO J 2 h fun b0 c0 h=>eIo J rB c0 (eLd J oB c0 ?_)
      refine wB' J 3 h (fun h=>wa J 7 (eSub [] (ih344 (G,H,R,(w64 (T+1))) h))) fun h=>?_
      refine wO J 8 h fun d0 e0 h=>eIo J rR12 e0 (wa J 1 (eLd J oO12 e0 ?_))
      obtain ⟨f0,g0,h⟩:=ob h
      refine eIo J rR12 g0 (wa J 1 (eSt J [] oO12 (⟨f0.Kind,f0.N,d0.S⟩:T12) g0 ?_))
      obtain ⟨i0,j0,h⟩:=ob h
      exact eIo J rB j0 (eSt J [] oB true j0 (wa J 7 (eSub [] (ih344 ((setL' G U (⟨f0.Kind,f0.N,d0.S⟩:T12)),(setL' H U true),true,(w64 (T+1))) h))))
     obtain ⟨K,h⟩|⟨K,h⟩:=oc h
     ·exact eAb 0 (by exact eq_of_beq K) (wa J 3 (eSub [] (j347 y.1 h)))
     obtain ⟨K,h⟩|⟨K,h⟩:=oc h
     ·exact eAb 1 (by exact eq_of_beq K) (wa J 3 (eSub [] (j347 y.2 h)))
     cases h
    exact eSub [] (ih N (s,u,v,0) h)
   exact eSub [] (ih N (k,l,false,0) h)
  exact eSub [] (ih N (d,g,true) h)
 refine wa J 1 (eLoop (σ:=(List Bool) × Int) (fun st=>(zz11 d c st.1 [(1,.S 3),(2,.B 4 0),(4,.S 5),(16,.I (d.length:Int)),(17,.I st.2)])) (fun n st=>z88_l9 N c d n st.1 st.2) (r:=r) (fun _=>rfl) ?_ (fun ih=>?_))
 ·intro n88 ih348
  rintro ⟨k0,l0⟩ h
  unfold z88_l9 at h
  refine wB' J 5 h (fun h=>wa J 2 (eSub [] (j1 k0 h))) fun h=>?_
  refine wB J 17 h (fun h=>?_) fun h=>?_
  ·refine wO J 12 h fun m0 o0 h=>eIo J rR12 o0 (wa J 1 (eLd J oO12 o0 ?_))
   exact wO J 2 h fun p0 q0 h=>eIo J rB q0 (eSt J [] oB (m0.Kind != 0) q0 (wa J 6 (eSub [] (ih348 ((setL' k0 l0 (m0.Kind != 0)),(w64 (l0+1))) h))))
  refine wB' J 10 h (fun h=>?_) fun h=>?_
  ·exact wO J 7 h fun s0 t0 h=>eIo J rB t0 (eSt J [] oB false t0 (wa J 6 (eSub [] (ih348 ((setL' k0 l0 false),(w64 (l0+1))) h))))
  refine wO J 2 h fun u0 v0 h=>eIo J rR12 v0 (wa J 1 (eLd J oO12 v0 ?_))
  exact wO J 2 h fun x0 y0 h=>eIo J rB y0 (eSt J [] oB (u0.Kind != 0) y0 (wa J 6 (eSub [] (ih348 ((setL' k0 l0 (u0.Kind != 0)),(w64 (l0+1))) h))))
 exact eSub [] (ih N (e,0) h)
theorem z36_ct (N:Nat) (c:(List T0)) (d:Int) (e:(List T12)) (r:(List T12) × Bool) (h:z36 N c d e=some r) :
 Fn Tryz.prog 36 ⟨2,[.S 0,.I d,.S 1],[(0,.sl rR0 c),(1,.sl rR12 e)],[],3,.t [.inl (.sl 2),.inl (.b r.2)],[],[(2,.own rR12 r.1 true)]⟩:=by
 refine eFn func36 rfl (fun E F w=>?_)
 unfold z36 at h
 refine wO J 11 h fun f g h=>eCl (z81_ct N c d e _ g) [] [(0,.sl 0),(1,.sl 1)] ?_
 refine wB J 2 h (fun h=>oi h▸wr J 6 func36 [(2,.nil)]) fun h=>?_
 refine wO J 6 h fun j k h=>eIx J oO0 k ?_
 refine wO J 14 h fun l m h=>eCl (z82_ct N (j.Fields.length:Int) _ m) [] [] ?_
 refine wO J 11 h fun o p h=>eCl (z47_ct N j _ p) [] [(0,.sl 3),(1,.sl 4),(2,.sl 5)] (wa J 3 (eCut (σ:=Int × (List Int)) (fun st=>⟨[(2,.S 1),(8,.B 6 0),(9,.I (j.Fields.length:Int)),(10,.B 8 0)],[(6,.box (cC0 3 4 5 j) 31),(8,.box [.I st.1,.sl 10] 169)],((0,.sl rR0 c)::(1,.sl rR12 e)::vV0 3 4 5 j [(10,.sl (rI .i64) st.2)]),11⟩) (fun st=>z36_k3 N e j st.1 st.2=some r) ?_ (fun j1=>?_)))
 ·rintro ⟨q,s⟩ h
  unfold z36_k3 at h
  refine wO J 3 h fun u v h=>eCl (z85_ct N (⟨q,s⟩:T26) _ v) [] [(0,.sl 10)] ?_
  refine wB J 12 h (fun h=>oi h▸wr J 6 func36 [(2,.nil)]) fun h=>?_
  refine wO J 5 h fun x y h=>eMk J oO12 y (wa J 10 (eCut (σ:=(List T12)) (fun st=>⟨[(2,.S 1),(8,.B 6 0),(9,.I (j.Fields.length:Int)),(20,.S 12)],[(6,.box (cC0 3 4 5 j) 31),(12,.own rR12 st true)],((0,.sl rR0 c)::(1,.sl rR12 e)::vV0 3 4 5 j []),13⟩) (fun st=>z36_k1 N e j st=some r) ?_ (fun j36=>?_)))
  ·intro z h
   unfold z36_k1 at h
   refine wO J 5 h fun A D h=>eCb (z87_ct N j z e _ D) [] [(0,.sl 3),(1,.sl 4),(2,.sl 5),(3,.sl 12),(4,.sl 1)] [12] (.inr ⟨rfl,⟨(rM_flat (rP_flat (rI_flat _) (rP_flat (rI_flat _) rS_flat))),trivial⟩⟩) ?_
   refine wO J 6 h fun G H h=>eCl (z88_ct N j A _ H) [] [(0,.sl 3),(1,.sl 4),(2,.sl 5),(3,.sl 13)] ?_
   refine wO J 11 h fun R T h=>eVw J rR12 T ?_
   obtain ⟨U,Z,h⟩:=ob h
   refine eDp J rR12 T Z ?_
   refine wO J 7 h fun a0 b0 h=>eCb (z89_ct N j.Guard G _ b0) [] [(0,.sl 4),(1,.sl 5),(2,.sl 13)] [13] (.inr ⟨rfl,trivial⟩) ?_
   refine wB J 2 h (fun h=>oi h▸wr J 13 func36 [(2,.nil)]) fun h=>?_
   refine wO J 3 h fun c0 d0 h=>eCb (z90_ct N j.Fields U.1 _ d0) [] [(0,.sl 3),(1,.sl 12)] [12] (.inr ⟨rfl,trivial⟩) ?_
   exact wB J 3 h (fun h=>oi h▸wr J 6 func36 [(2,.nil)]) fun h=>oi h▸wr J 8 func36 [(2,.sl 12)]
  refine wa J 1 (eLoop (σ:=(List T12) × Int) (fun st=>⟨[(2,.S 1),(8,.B 6 0),(9,.I (j.Fields.length:Int)),(18,.S 11),(20,.S 12),(129,.S 3),(130,.I (j.Fields.length:Int)),(131,.I st.2)],[(6,.box (cC0 3 4 5 j) 31),(11,.own (rI .i64) u.1 true),(12,.own rR12 st.1 true)],((0,.sl rR0 c)::(1,.sl rR12 e)::vV0 3 4 5 j []),13⟩) (fun n st=>z36_l2 N e j u n st.1 st.2) (r:=r) (fun _=>rfl) ?_ (fun ih=>?_))
  ·intro n9 ih38
   rintro ⟨e0,f0⟩ h
   unfold z36_l2 at h
   refine wB' J 5 h (fun h=>wa J 2 (eSub [] (j36 e0 h))) fun h=>?_
   refine wO J 7 h fun g0 i0 h=>eIx J oO4 i0 ?_
   refine wO J 14 h fun j0 k0 h=>eIo J (rI .i64) k0 (eLd J (oI .i64) k0 ?_)
   refine wO J 1 h fun l0 m0 h=>eIo J rR12 m0 (eSt J [] oO12 (⟨g0.Sort'.Kind,j0,(str [])⟩:T12) m0 (eEnd ?_))
   refine wB' J 7 h (fun h=>wa J 7 (eSub [] (ih38 ((setL' e0 f0 (⟨g0.Sort'.Kind,j0,(str [])⟩:T12)),(w64 (f0+1))) h))) fun h=>?_
   refine wO J 6 h fun o0 p0 h=>eIo J (rI .i64) p0 (eLd J (oI .i64) p0 ?_)
   obtain ⟨q0,s0,h⟩:=ob h
   refine eCl (z86_ct N (str [97]) o0 _ s0) [] [] ?_
   exact wO J 1 h fun t0 u0 h=>eIo J rR12 u0 (eSt J [] oO12 (⟨2,0,q0⟩:T12) u0 (wa J 6 (eSub [] (ih38 ((setL' (setL' e0 f0 (⟨g0.Sort'.Kind,j0,(str [])⟩:T12)) f0 (⟨2,0,q0⟩:T12)),(w64 (f0+1))) h))))
  exact eSub [] (ih N (x,0) h)
 refine wa J 1 (eLoop (σ:=Int × (List Int) × Int) (fun st=>⟨[(2,.S 1),(8,.B 6 0),(9,.I (j.Fields.length:Int)),(10,.B 8 0),(42,.S 9),(43,.I (o.length:Int)),(44,.I st.2.2)],[(6,.box (cC0 3 4 5 j) 31),(8,.box [.I st.1,.sl 10] 169),(9,.own rR1 o true)],((0,.sl rR0 c)::(1,.sl rR12 e)::vV0 3 4 5 j [(10,.sl (rI .i64) st.2.1)]),11⟩) (fun n st=>z36_l4 N e j o n st.1 st.2.1 st.2.2) (r:=r) (fun _=>rfl) ?_ (fun ih=>?_))
 ·intro n14 ih39
  rintro ⟨v0,x0,y0⟩ h
  unfold z36_l4 at h
  refine wB' J 5 h (fun h=>wa J 2 (eSub [] (j1 (v0,x0) h))) fun h=>?_
  refine wO J 6 h fun z0 A0 h=>eIo J rR1 A0 (eLd J oO1 A0 (wa J 25 (eCut (σ:=Int × Int × Int) (fun st=>(zz22 j v0 o st.2.1 st.2.2 c e x0 [(2,.S 1),(8,.B 6 0),(9,.I (j.Fields.length:Int)),(10,.B 8 0),(14,.I st.1),(15,.B 13 0),(42,.S 9),(43,.I (o.length:Int)),(44,.I y0)])) (fun st=>z36_k5 N v0 x0 y0 (z36_l4 N e j o n14) st.1 st.2.1 st.2.2=some r) ?_ (fun j62=>?_))))
  ·rintro ⟨B0,C0,D0⟩ h
   unfold z36_k5 at h
   refine wa J 2 (eAb 0 rfl (wa J 1 (eAb 1 rfl ?_)))
   exact wO J 3 h fun G0 H0 h=>eCl (z84_ct N (⟨v0,x0⟩:T26) (⟨C0,D0,B0⟩:T1) _ H0) [] [(0,.sl 10)] (wa J 10 (eSub [(10,.sl 14)] (ih39 (G0.1.N,G0.1.B,(w64 (y0+1))) h)))
  refine wa J 1 (eLoop (σ:=Int × Int × Int × Int) (fun st=>(zz22 j v0 o st.2.1 st.2.2.1 c e x0 [(2,.S 1),(8,.B 6 0),(9,.I (j.Fields.length:Int)),(10,.B 8 0),(14,.I st.1),(15,.B 13 0),(42,.S 9),(43,.I (o.length:Int)),(44,.I y0),(55,.a [.I z0.X,.I z0.Y]),(56,.I st.2.2.2)])) (fun n st=>z36_l6 N e j v0 x0 y0 (z36_l4 N e j o n14) z0 n st.1 st.2.1 st.2.2.1 st.2.2.2) (r:=r) (fun _=>rfl) ?_ (fun ih=>?_))
  ·intro n16 ih68
   rintro ⟨I0,L0,M0,O0⟩ h
   unfold z36_l6 at h
   refine wB' J 5 h (fun h=>wa J 2 (eSub [] (j62 (I0,L0,M0) h))) fun h=>?_
   refine wO J 7 h fun R0 S0 h=>eAx (SC.i .i64) ([z0.X,z0.Y]:List Int) S0 ?_
   refine wB J 10 h (fun h=>wa J 8 (eSub [] (ih68 (I0,L0,M0,(w64 (O0+1))) h))) fun h=>?_
   refine wa J 8 (eCut (σ:=Bool) (fun st=>(zz22 j v0 o L0 M0 c e x0 [(2,.S 1),(8,.B 6 0),(9,.I (j.Fields.length:Int)),(10,.B 8 0),(14,.I I0),(15,.B 13 0),(16,.I O0),(17,.I R0),(42,.S 9),(43,.I (o.length:Int)),(44,.I y0),(55,.a [.I z0.X,.I z0.Y]),(56,.I O0),(70,.O st)])) (fun st=>z36_k7 N e j I0 L0 M0 O0 (z36_l6 N e j v0 x0 y0 (z36_l4 N e j o n14) z0 n16) R0 st=some r) ?_ (fun j72=>?_))
   ·intro T0 h
    unfold z36_k7 at h
    refine eB h (fun h=>?_) fun h=>?_
    ·obtain ⟨K,h⟩|⟨K,h⟩:=oc h
     ·exact wa J 7 (eAb 0 (by exact eq_of_beq K) (wa J 8 (eSub [] (ih68 (I0,(w64 (R0-j.First)),M0,(w64 (O0+1))) h))))
     obtain ⟨K,h⟩|⟨K,h⟩:=oc h
     ·exact wa J 7 (eAb 1 (by exact eq_of_beq K) (wa J 8 (eSub [] (ih68 (I0,L0,(w64 (R0-j.First)),(w64 (O0+1))) h))))
     cases h
    refine wO J 5 h fun U0 V0 h=>eIx J oO12 V0 ?_
    refine wB J 5 h (fun h=>oi h▸wr J 6 func36 [(2,.nil)]) fun h=>?_
    refine wB J 7 h (fun h=>?_) fun h=>?_
    ·refine wO J 5 h fun X0 Y0 h=>eIx J oO12 Y0 ?_
     exact wO J 1 h fun Z0 a1 h=>eCl (z83_ct N X0 _ a1) [] [] (wa J 9 (eSub [] (ih68 ((w64 (I0-Z0)),L0,M0,(w64 (O0+1))) h)))
    refine wO J 5 h fun b1 c1 h=>eIx J oO12 c1 ?_
    exact wO J 1 h fun d1 e1 h=>eCl (z83_ct N b1 _ e1) [] [] (wa J 9 (eSub [] (ih68 ((w64 (I0+d1)),L0,M0,(w64 (O0+1))) h)))
   exact eB h (fun h=>wa J 9 (eSub [] (j72 (decide (R0 < (w64 (j.First+(j.Fields.length:Int))))) h))) fun h=>wa J 9 (eSub [] (j72 false h))
  exact eSub [] (ih N (z0.C,(-1),(-1),0) h)
 exact eSub [(10,.sl 7)] (ih N (l.1.N,l.1.B,0) h)
theorem z12_ct (N:Nat) (c:T5) (d:T8) (e:T18) (r:(List T3)) (h:z12 N c d e=some r) :
 Fn Tryz.prog 12 ⟨9,[.a (cC5 0 1 2 3 c),.a (cC8 4 5 6 d),.a (cC18 7 8 e)],((0,.sl rS c.Roles)::(1,.sl rR0 c.Decls)::(2,.sl rR2 c.Edges)::(3,.sl rR11 c.Timeouts)::(4,.sl rB d.Finals)::(5,.sl rR9 d.Moves)::(6,.sl rR11 d.Timeouts)::vV18 7 8 e []),[],10,.S 9,[],[(9,.own rR3 r true)]⟩:=by
 refine eFn func12 rfl (fun E F w=>?_)
 unfold z12 at h
 refine wO J 13 h fun f g h=>eCl (z34_ct N c d e _ g) [] [(0,.sl 0),(1,.sl 1),(2,.sl 2),(3,.sl 3),(4,.sl 4),(5,.sl 5),(6,.sl 6),(7,.sl 7),(8,.sl 8)] ?_
 refine wB J 2 h (fun h=>oi h▸wr J 5 func12 [(9,.nil)]) fun h=>?_
 refine wO J 12 h fun i j h=>eCl (z35_ct N d e.At _ j) [] [(0,.sl 4),(1,.sl 5),(2,.sl 6)] (wa J 3 (eCut (σ:=(List T3)) (fun st=>⟨[(7,.S 13)],[(13,.own rR3 st true)],((0,.sl rS c.Roles)::(1,.sl rR0 c.Decls)::(2,.sl rR2 c.Edges)::(3,.sl rR11 c.Timeouts)::(4,.sl rB d.Finals)::(5,.sl rR9 d.Moves)::(6,.sl rR11 d.Timeouts)::vV18 7 8 e []),14⟩) (fun st=>z12_k1 st=some r) ?_ (fun j1=>?_)))
 ·intro k h
  unfold z12_k1 at h
  exact oi h▸wr J 5 func12 [(9,.sl 13)]
 refine wa J 1 (eLoop (σ:=(List T3) × Int) (fun st=>⟨[(3,.B 9 0),(4,.B 10 0),(5,.B 11 0),(7,.S 13),(21,.S 12),(22,.I (i.length:Int)),(23,.I st.2)],[(9,.box (cC5 0 1 2 3 c) 58),(10,.box (cC8 4 5 6 d) 64),(11,.box (cC18 7 8 e) 75),(13,.own rR3 st.1 true)],((0,.sl rS c.Roles)::(1,.sl rR0 c.Decls)::(2,.sl rR2 c.Edges)::(3,.sl rR11 c.Timeouts)::(4,.sl rB d.Finals)::(5,.sl rR9 d.Moves)::(6,.sl rR11 d.Timeouts)::vV18 7 8 e [(12,.sl (rI .i64) i)]),14⟩) (fun n st=>z12_l2 N c d e i n st.1 st.2) (r:=r) (fun _=>rfl) ?_ (fun ih=>?_))
 ·intro n2 ih6
  rintro ⟨l,m⟩ h
  unfold z12_l2 at h
  refine wB' J 5 h (fun h=>wa J 2 (eSub [] (j1 l h))) fun h=>?_
  refine wO J 6 h fun o p h=>eIx J (oI .i64) p ?_
  refine wO J 8 h fun q s h=>eIx J oO9 s ?_
  refine wO J 12 h fun t u h=>eCl (z36_ct N c.Decls q.Label e.Known _ u) [] [(0,.sl 1),(1,.sl 7)] (wa J 12 (eCut (σ:=(List T12) × Bool) (fun st=>⟨[(3,.B 9 0),(4,.B 10 0),(5,.B 11 0),(7,.S 13),(10,.B 16 0),(11,.S 18),(12,.O st.2),(21,.S 12),(22,.I (i.length:Int)),(23,.I m)],[(9,.box (cC5 0 1 2 3 c) 58),(10,.box (cC8 4 5 6 d) 64),(11,.box (cC18 7 8 e) 75),(13,.own rR3 l true),(16,.box (cC9 q) 61),(18,.own rR12 st.1 true)],((0,.sl rS c.Roles)::(1,.sl rR0 c.Decls)::(2,.sl rR2 c.Edges)::(3,.sl rR11 c.Timeouts)::(4,.sl rB d.Finals)::(5,.sl rR9 d.Moves)::(6,.sl rR11 d.Timeouts)::vV18 7 8 e [(12,.sl (rI .i64) i)]),19⟩) (fun st=>z12_k3 d l m (z12_l2 N c d e i n2) q st.1 st.2=some r) ?_ (fun j9=>?_)))
  ·rintro ⟨v,x⟩ h
   unfold z12_k3 at h
   refine wB' J 4 h (fun h=>wa J 7 (eSub [] (ih6 (l,(w64 (m+1))) h))) fun h=>wa J 13 (eBs J [18] oO3 ([(⟨d.Role,q.Send,q.Peer,q.Label,v⟩:T3)]:List T3) ?_)
   obtain ⟨y,z,h⟩:=ob h
   exact eAp J rR3 z (wa J 7 (eSub [(13,.sl 20)] (ih6 (y,(w64 (m+1))) h)))
  refine eB' h (fun h=>wa J 2 (eSub [(18,.sl 17)] (j9 (t.1,t.2) h))) fun h=>?_
  refine wO J 4 h fun A C h=>eCl (z37_ct N e.Pending _ C) [] [(0,.sl 8)] ?_
  exact wO J 8 h fun D G h=>eCl (z38_ct N c.Decls q.Label e.Pending e.Known _ G) [] [(0,.sl 1),(1,.sl 8),(2,.sl 7)] (wa J 2 (eEnd (eSub [] (j9 (A,D) h))))
 exact eSub [(13,.nil)] (ih N (([]:List T3),0) h)
theorem z14_ct (N:Nat) (c:(List ByteArray)) (d:(List ByteArray)) (r:Bool) (h:z14 N c d=some r) :
 Fn Tryz.prog 14 ⟨2,[.S 0,.S 1],[(0,.sl rS c),(1,.sl rS d)],[],2,.O r,[],[]⟩:=by
 refine eFn func14 rfl (fun E F w=>?_)
 unfold z14 at h
 refine wB J 13 h (fun h=>oi h▸wr J 5 func14 []) fun h=>wa J 7 (eCut (σ:=Unit) (fun st=>⟨[],[],[(0,.sl rS c),(1,.sl rS d)],2⟩) (fun st=>z14_k1=some r) ?_ (fun j1=>?_))
 ·intro _ h
  unfold z14_k1 at h
  exact oi h▸wr J 4 func14 []
 refine wa J 1 (eLoop (σ:=Int) (fun st=>⟨[(0,.S 0),(1,.S 1),(5,.I st)],[],[(0,.sl rS c),(1,.sl rS d)],2⟩) (fun n st=>z14_l2 c d n st) (r:=r) (fun _=>rfl) ?_ (fun ih=>?_))
 ·intro n2 ih3
  intro e h
  unfold z14_l2 at h
  refine wB' J 8 h (fun h=>wa J 2 (eSub [] (j1 () h))) fun h=>?_
  refine wO J 8 h fun f g h=>eIx J oS g ?_
  refine wO J 3 h fun i j h=>eIx J oS j (wa J 2 (eEnd ?_))
  exact eB h (fun h=>oi h▸wr J 5 func14 []) fun h=>wa J 8 (eSub [] (ih3 (w64 (e+1)) h))
 exact eSub [] (ih N 0 h)
theorem z16_ct (N:Nat) (c:Int) (r:T12) (h:z16 N c=some r) :
 Fn Tryz.prog 16 ⟨0,[.I c],[],[],0,.a (cC12 r),[],[]⟩:=by
 refine eFn func16 rfl (fun E F w=>?_)
 unfold z16 at h
 exact oi h▸wr J 10 func16 []
theorem z15_ct (N:Nat) (c:(List T12)) (d:(List T12)) (r:Bool) (h:z15 N c d=some r) :
 Fn Tryz.prog 15 ⟨2,[.S 0,.S 1],[(0,.sl rR12 c),(1,.sl rR12 d)],[],2,.O r,[],[]⟩:=by
 refine eFn func15 rfl (fun E F w=>?_)
 unfold z15 at h
 refine wB J 13 h (fun h=>oi h▸wr J 5 func15 []) fun h=>wa J 7 (eCut (σ:=Unit) (fun st=>(zz6 c d [])) (fun st=>z15_k1=some r) ?_ (fun j1=>?_))
 ·intro _ h
  unfold z15_k1 at h
  exact oi h▸wr J 4 func15 []
 refine wa J 1 (eLoop (σ:=Int) (fun st=>(zz6 c d [(0,.S 0),(1,.S 1),(5,.I st)])) (fun n st=>z15_l2 c d n st) (r:=r) (fun _=>rfl) ?_ (fun ih=>?_))
 ·intro n2 ih3
  intro e h
  unfold z15_l2 at h
  refine wB' J 8 h (fun h=>wa J 2 (eSub [] (j1 () h))) fun h=>?_
  refine wO J 8 h fun f g h=>eIx J oO12 g ?_
  refine wO J 3 h fun i j h=>eIx J oO12 j (wa J 1 (eEq (eEnd ?_)))
  exact eB h (fun h=>oi h▸wr J 5 func15 []) fun h=>wa J 8 (eSub [] (ih3 (w64 (e+1)) h))
 exact eSub [] (ih N 0 h)
theorem z4_ct (N:Nat) (r:Bool) (h:z4 N=some r) :
 Fn Tryz.prog 4 ⟨1,[],[],[(0,.abs powT)],1,.O r,[],[(0,.abs powT)]⟩:=by
 refine eFn func4 rfl (fun E F w=>?_)
 unfold z4 at h
 refine wa J 13 (eBs J [] oS ([(str [97]),(str [98])]:List ByteArray) (wa J 1 (eBs J [] oO4 ([(⟨(str [110]),(⟨1,0,9⟩:T10)⟩:T4)]:List T4) (wa J 1 (eBs J [3] oO0 ([(⟨(str [97,115,107]),([(⟨(str [110]),(⟨1,0,9⟩:T10)⟩:T4)]:List T4),0,(⟨([]:List T1),([]:List (Int × Int))⟩:T6)⟩:T0)]:List T0) (wa J 2 (eBs J [] oO2 ([(⟨0,(⟨0,1,0⟩:T7),1,false⟩:T2)]:List T2) (wa J 6 (eBs J [] oB ([false,true]:List Bool) (wa J 1 (eBs J [] oO9 ([(⟨0,true,1,0,1,false⟩:T9)]:List T9) ?_)))))))))))
 refine wO J 8 h fun c d h=>eCl (z10_ct N (⟨(str [80]),([(str [97]),(str [98])]:List ByteArray),([(⟨(str [97,115,107]),([(⟨(str [110]),(⟨1,0,9⟩:T10)⟩:T4)]:List T4),0,(⟨([]:List T1),([]:List (Int × Int))⟩:T6)⟩:T0)]:List T0),2,0,1,([(⟨0,(⟨0,1,0⟩:T7),1,false⟩:T2)]:List T2),([]:List T11)⟩:T5) (⟨0,2,0,([false,true]:List Bool),([(⟨0,true,1,0,1,false⟩:T9)]:List T9),([]:List T11)⟩:T8) 0 _ d) [2,4,5,7,8] [(0,.sl 2),(1,.sl 4),(2,.sl 5),(3,.nil),(4,.sl 7),(5,.sl 8),(6,.nil),(7,.sl 0)] ?_
 refine wO J 11 h fun e f h=>eCl (z11_ct N (⟨(str [80]),([(str [97]),(str [98])]:List ByteArray),([(⟨(str [97,115,107]),([(⟨(str [110]),(⟨1,0,9⟩:T10)⟩:T4)]:List T4),0,(⟨([]:List T1),([]:List (Int × Int))⟩:T6)⟩:T0)]:List T0),2,0,1,([(⟨0,(⟨0,1,0⟩:T7),1,false⟩:T2)]:List T2),([]:List T11)⟩:T5) (⟨0,2,0,([false,true]:List Bool),([(⟨0,true,1,0,1,false⟩:T9)]:List T9),([]:List T11)⟩:T8) ([]:List T3) (⟨0,true,1,0,([]:List T12)⟩:T3) _ f) [] [(0,.sl 2),(1,.sl 4),(2,.sl 5),(3,.nil),(4,.sl 7),(5,.sl 8),(6,.nil),(7,.nil),(8,.nil),(9,.sl 0)] ?_
 refine wO J 12 h fun g i h=>eCl (z13_ct N (⟨(str [80]),([(str [97]),(str [98])]:List ByteArray),([(⟨(str [97,115,107]),([(⟨(str [110]),(⟨1,0,9⟩:T10)⟩:T4)]:List T4),0,(⟨([]:List T1),([]:List (Int × Int))⟩:T6)⟩:T0)]:List T0),2,0,1,([(⟨0,(⟨0,1,0⟩:T7),1,false⟩:T2)]:List T2),([]:List T11)⟩:T5) (⟨0,2,0,([false,true]:List Bool),([(⟨0,true,1,0,1,false⟩:T9)]:List T9),([]:List T11)⟩:T8) _ i) [] [(0,.sl 2),(1,.sl 4),(2,.sl 5),(3,.nil),(4,.sl 7),(5,.sl 8),(6,.nil)] ?_
 obtain ⟨j,k,h⟩:=ob h
 refine eCl (z12_ct N (⟨(str [80]),([(str [97]),(str [98])]:List ByteArray),([(⟨(str [97,115,107]),([(⟨(str [110]),(⟨1,0,9⟩:T10)⟩:T4)]:List T4),0,(⟨([]:List T1),([]:List (Int × Int))⟩:T6)⟩:T0)]:List T0),2,0,1,([(⟨0,(⟨0,1,0⟩:T7),1,false⟩:T2)]:List T2),([]:List T11)⟩:T5) (⟨0,2,0,([false,true]:List Bool),([(⟨0,true,1,0,1,false⟩:T9)]:List T9),([]:List T11)⟩:T8) g _ k) [] [(0,.sl 2),(1,.sl 4),(2,.sl 5),(3,.nil),(4,.sl 7),(5,.sl 8),(6,.nil),(7,.sl 11),(8,.sl 12)] (wa J 1 (eEnd ?_))
 refine wB' J 5 h (fun h=>wa J 27 (eEnd ?_)) fun h=>?_
 ·cases h
  exact eRet J func4 []
 refine wB' J 4 h (fun h=>wa J 23 (eEnd ?_)) fun h=>wa J 1 (eBs J [] oS ([(str [115,101,110,100,32,97,115,107,40,110,58,32,105,110,116,32,48,32,46,46,32,57,41,32,116,111,32,98])]:List ByteArray) ?_)
 ·cases h
  exact eRet J func4 []
 obtain ⟨l,m,h⟩:=ob h
 refine eCb (z14_ct N c.1 ([(str [115,101,110,100,32,97,115,107,40,110,58,32,105,110,116,32,48,32,46,46,32,57,41,32,116,111,32,98])]:List ByteArray) _ m) [] [(0,.sl 10),(1,.sl 14)] [10,14] (.inr ⟨rfl,trivial⟩) ?_
 refine wB' J 2 h (fun h=>wa J 18 (eEnd ?_)) fun h=>?_
 ·cases h
  exact eRet J func4 []
 refine wB' J 4 h (fun h=>wa J 14 (eEnd ?_)) fun h=>?_
 ·cases h
  exact eRet J func4 []
 refine wB' J 5 h (fun h=>wa J 9 (eEnd ?_)) fun h=>?_
 ·cases h
  exact eRet J func4 []
 refine wO J 1 h fun o p h=>eIo J rR3 p (wa J 1 (eLd J oO3 p ?_))
 obtain ⟨q,s,h⟩:=ob h
 refine eCl (z16_ct N 0 _ s) [] [] (eBs J [] oO12 ([q]:List T12) ?_)
 obtain ⟨t,u,h⟩:=ob h
 refine eCb (z15_ct N o.Values ([q]:List T12) _ u) [] [(0,.sl 16),(1,.sl 17)] [17] (.inr ⟨rfl,trivial⟩) (wa J 2 (eEnd ?_))
 cases h
 exact eRet J func4 []
theorem z5_ct (N:Nat) (c:(List T0)) (r:Bool) (h:z5 N c=some r) :
 Fn Tryz.prog 5 ⟨1,[.S 0],[(0,.sl rR0 c)],[],1,.O r,[],[]⟩:=by
 refine eFn func5 rfl (fun E F w=>?_)
 unfold z5 at h
 refine wa J 13 (eCut (σ:=Int) (fun st=>(zz7 c [(0,.S 0),(3,.I st)])) (fun st=>z5_k1 c st=some r) ?_ (fun j1=>?_))
 ·intro d h
  unfold z5_k1 at h
  exact wB J 6 h (fun h=>oi h▸wr J 5 func5 []) fun h=>oi h▸wr J 5 func5 []
 refine wa J 1 (eLoop (σ:=Int × Int) (fun st=>(zz7 c [(0,.S 0),(3,.I st.1),(4,.I st.2)])) (fun n st=>z5_l2 c n st.1 st.2) (r:=r) (fun _=>rfl) ?_ (fun ih=>?_))
 ·intro n2 ih3
  rintro ⟨e,f⟩ h
  unfold z5_l2 at h
  refine wB' J 8 h (fun h=>wa J 2 (eSub [] (j1 e h))) fun h=>?_
  refine wO J 8 h fun g i h=>eIx J oO0 i ?_
  refine wO J 5 h fun j k h=>eIx J oO0 k ?_
  exact wO J 7 h fun l m h=>eIx J oO0 m (wa J 7 (eEnd (wa J 6 (eSub [] (ih3 ((w64 (e+(w64 ((w64 ((g.Fields.length:Int)+(j.Guard.Diffs.length:Int)))+(l.Guard.Equals.length:Int))))),(w64 (f+1))) h)))))
 exact eSub [] (ih N (0,0) h)
theorem z17_ct (N:Nat) (c:(List T0)) (r:Int) (h:z17 N c=some r) :
 Fn Tryz.prog 17 ⟨1,[.S 0],[(0,.sl rR0 c)],[],1,.I r,[],[]⟩:=by
 refine eFn func17 rfl (fun E F w=>?_)
 unfold z17 at h
 refine wa J 13 (eCut (σ:=Int) (fun st=>(zz7 c [(3,.I st)])) (fun st=>z17_k1 st=some r) ?_ (fun j1=>?_))
 ·intro d h
  unfold z17_k1 at h
  exact oi h▸wr J 5 func17 []
 refine wa J 1 (eLoop (σ:=Int × Int) (fun st=>(zz7 c [(0,.S 0),(3,.I st.1),(4,.I st.2)])) (fun n st=>z17_l2 c n st.1 st.2) (r:=r) (fun _=>rfl) ?_ (fun ih=>?_))
 ·intro n2 ih3
  rintro ⟨e,f⟩ h
  unfold z17_l2 at h
  refine wB' J 8 h (fun h=>wa J 2 (eSub [] (j1 e h))) fun h=>?_
  exact wO J 8 h fun g i h=>eIx J oO0 i (wa J 12 (eSub [] (ih3 ((w64 (e+(g.Fields.length:Int))),(w64 (f+1))) h)))
 exact eSub [] (ih N (0,0) h)
theorem z18_ct (N:Nat) (c:T10) (r:Bool) (h:z18 N c=some r) :
 Fn Tryz.prog 18 ⟨0,[.a (cC10 c)],[],[],0,.O r,[],[]⟩:=by
 refine eFn func18 rfl (fun E F w=>?_)
 unfold z18 at h
 refine wa J 17 (eCut (σ:=Int × Int) (fun st=>⟨[(1,.B 0 0),(3,.I st.1),(4,.I st.2)],[(0,.box (cC10 c) 47)],[],1⟩) (fun st=>z18_k1 c st.1 st.2=some r) ?_ (fun j1=>?_))
 ·rintro ⟨d,e⟩ h
  unfold z18_k1 at h
  refine wB J 6 h (fun h=>?_) fun h=>?_
  ·refine wB' J 11 h (fun h=>oi h▸wr J 14 func18 []) fun h=>?_
   exact wB J 6 h (fun h=>oi h▸wr J 8 func18 []) fun h=>oi h▸wr J 8 func18 []
  refine wB' J 5 h (fun h=>oi h▸wr J 20 func18 []) fun h=>?_
  refine wB' J 6 h (fun h=>oi h▸wr J 14 func18 []) fun h=>?_
  exact wB J 6 h (fun h=>oi h▸wr J 8 func18 []) fun h=>oi h▸wr J 8 func18 []
 exact eB h (fun h=>wa J 5 (eSub [] (j1 (0,40) h))) fun h=>wa J 2 (eSub [] (j1 ((-1000),1000) h))
theorem z95_ct (N:Nat) (d:Int) (r:Bool) (h:z95 N d=some r) :
 Fn Tryz.prog 95 ⟨0,[.c (.i .u8 d)],[],[],0,.O r,[],[]⟩:=by
 refine eFn func95 rfl (fun E F w=>?_)
 unfold z95 at h
 refine wB' J 9 h (fun h=>?_) fun h=>?_
 ·exact wB J 7 h (fun h=>oi h▸wr J 6 func95 []) fun h=>oi h▸wr J 6 func95 []
 refine wB J 4 h (fun h=>oi h▸wr J 9 func95 []) fun h=>?_
 exact wB J 3 h (fun h=>oi h▸wr J 6 func95 []) fun h=>oi h▸wr J 6 func95 []
theorem z171_ct (N:Nat) (d:Int) (r:Bool) (h:z171 N d=some r) :
 Fn Tryz.prog 171 ⟨0,[.c (.i .u8 d)],[],[],0,.O r,[],[]⟩:=by
 refine eFn func171 rfl (fun E F w=>?_)
 unfold z171 at h
 exact wB J 9 h (fun h=>oi h▸wr J 5 func171 []) fun h=>oi h▸wr J 5 func171 []
theorem z96_ct (N:Nat) (d:Int) (r:Bool) (h:z96 N d=some r) :
 Fn Tryz.prog 96 ⟨0,[.c (.i .u8 d)],[],[],0,.O r,[],[]⟩:=by
 refine eFn func96 rfl (fun E F w=>?_)
 unfold z96 at h
 refine wO J 7 h fun e f h=>eCl (z95_ct N d _ f) [] [] ?_
 refine wB J 1 h (fun h=>oi h▸wr J 9 func96 []) fun h=>?_
 refine wO J 1 h fun g j h=>eCl (z171_ct N d _ j) [] [] ?_
 exact wB J 2 h (fun h=>oi h▸wr J 5 func96 []) fun h=>oi h▸wr J 5 func96 []
theorem z41_ct (N:Nat) (d:ByteArray) (r:Bool) (h:z41 N d=some r) :
 Fn Tryz.prog 41 ⟨0,[.c (.s d)],[],[],0,.O r,[],[]⟩:=by
 refine eFn func41 rfl (fun E F w=>?_)
 unfold z41 at h
 refine wB J 10 h (fun h=>oi h▸wr J 16 func41 []) fun h=>?_
 refine wO J 1 h fun e f h=>eSx J f ?_
 obtain ⟨g,i,h⟩:=ob h
 refine eCl (z95_ct N e _ i) [] [] ?_
 refine wB J 3 h (fun h=>oi h▸wr J 10 func41 []) fun h=>?_
 refine wB J 5 h (fun h=>oi h▸wr J 5 func41 []) fun h=>wa J 7 (eCut (σ:=Unit) (fun st=>(zz0 [])) (fun st=>z41_k1=some r) ?_ (fun j1=>?_))
 ·intro _ h
  unfold z41_k1 at h
  exact oi h▸wr J 4 func41 []
 refine wa J 1 (eLoop (σ:=Int) (fun st=>(zz0 [(0,.c (.s d)),(3,.I st)])) (fun n st=>z41_l2 N d n st) (r:=r) (fun _=>rfl) ?_ (fun ih=>?_))
 ·intro n2 ih3
  intro j h
  unfold z41_l2 at h
  refine wB' J 8 h (fun h=>wa J 2 (eSub [] (j1 () h))) fun h=>?_
  refine wO J 8 h fun k l h=>eSx J l ?_
  obtain ⟨m,o,h⟩:=ob h
  refine eCl (z96_ct N k _ o) [] [] ?_
  exact wB J 2 h (fun h=>oi h▸wr J 5 func41 []) fun h=>wa J 8 (eSub [] (ih3 (w64 (j+1)) h))
 exact eSub [] (ih N 0 h)
theorem z43_ct (N:Nat) (r:(List ByteArray)) (h:z43 N=some r) :
 Fn Tryz.prog 43 ⟨0,[],[],[],1,.S 0,[],[(0,.own rS r true)]⟩:=by
 refine eFn func43 rfl (fun E F w=>?_)
 unfold z43 at h
 refine wa J 6 (eBs J [] oS ([(str [97,103,97,105,110]),(str [97,110,100]),(str [97,115]),(str [97,116]),(str [99,97,108,108]),(str [99,104,111,105,99,101]),(str [101,108,115,101]),(str [102,114,111,109]),(str [105,102]),(str [105,110,116]),(str [108,101,110]),(str [108,111,111,112]),(str [109,101,115,115,97,103,101]),(str [111,102]),(str [111,102,102,101,114]),(str [111,110]),(str [111,114]),(str [112,97,114]),(str [112,108,97,121,115]),(str [112,114,111,116,111,99,111,108]),(str [115,101,114,118,105,99,101]),(str [116,101,120,116]),(str [116,105,109,101,115]),(str [116,111]),(str [118,97,114]),(str [119,104,101,114,101]),(str [119,104,105,108,101]),(str [119,105,116,104,105,110])]:List ByteArray) ?_)
 exact oi h▸wr J 2 func43 [(0,.sl 0)]
theorem z42_ct (N:Nat) (d:(List ByteArray)) (e:ByteArray) (r:Bool) (h:z42 N d e=some r) :
 Fn Tryz.prog 42 ⟨1,[.S 0,.c (.s e)],[(0,.sl rS d)],[],1,.O r,[],[]⟩:=by
 refine eFn func42 rfl (fun E F w=>?_)
 unfold z42 at h
 refine wa J 9 (eCut (σ:=Unit) (fun st=>(zz2 d [])) (fun st=>z42_k1=some r) ?_ (fun j1=>?_))
 ·intro _ h
  unfold z42_k1 at h
  exact oi h▸wr J 4 func42 []
 refine wa J 1 (eLoop (σ:=Int) (fun st=>(zz2 d [(0,.S 0),(1,.c (.s e)),(5,.I st)])) (fun n st=>z42_l2 d e n st) (r:=r) (fun _=>rfl) ?_ (fun ih=>?_))
 ·intro n2 ih3
  intro f h
  unfold z42_l2 at h
  refine wB' J 8 h (fun h=>wa J 2 (eSub [] (j1 () h))) fun h=>?_
  refine wO J 8 h fun g i h=>eIx J oS i ?_
  exact wB J 4 h (fun h=>oi h▸wr J 5 func42 []) fun h=>wa J 8 (eSub [] (ih3 (w64 (f+1)) h))
 exact eSub [] (ih N 0 h)
theorem z19_ct (N:Nat) (d:ByteArray) (r:Bool) (h:z19 N d=some r) :
 Fn Tryz.prog 19 ⟨0,[.c (.s d)],[],[],0,.O r,[],[]⟩:=by
 refine eFn func19 rfl (fun E F w=>?_)
 unfold z19 at h
 refine wO J 7 h fun e f h=>eCl (z41_ct N d _ f) [] [] ?_
 refine wB' J 1 h (fun h=>oi h▸wr J 7 func19 []) fun h=>?_
 obtain ⟨g,i,h⟩:=ob h
 refine eCl (z43_ct N _ i) [] [] ?_
 refine wO J 1 h fun j k h=>eCb (z42_ct N g d _ k) [] [(0,.sl 0)] [0] (.inr ⟨rfl,trivial⟩) ?_
 exact oi h▸wr J 4 func19 []
theorem z44_ct (N:Nat) (d:ByteArray) (r:Bool) (h:z44 N d=some r) :
 Fn Tryz.prog 44 ⟨0,[.c (.s d)],[],[],0,.O r,[],[]⟩:=by
 refine eFn func44 rfl (fun E F w=>?_)
 unfold z44 at h
 refine wO J 7 h fun e f h=>eCl (z19_ct N d _ f) [] [] ?_
 exact oi h▸wr J 2 func44 []
theorem z20_ct (N:Nat) (d:ByteArray) (r:Bool) (h:z20 N d=some r) :
 Fn Tryz.prog 20 ⟨0,[.c (.s d)],[],[],0,.O r,[],[]⟩:=by
 refine eFn func20 rfl (fun E F w=>?_)
 unfold z20 at h
 refine wa J 13 (eCut (σ:=Unit) (fun st=>(zz0 [(0,.c (.s d))])) (fun st=>z20_k1 d=some r) ?_ (fun j1=>?_))
 ·intro _ h
  unfold z20_k1 at h
  exact oi h▸wr J 7 func20 []
 refine wa J 1 (eLoop (σ:=Int × Int) (fun st=>(zz0 [(0,.c (.s d)),(3,.I st.1),(4,.I st.2)])) (fun n st=>z20_l2 N d n st.1 st.2) (r:=r) (fun _=>rfl) ?_ (fun ih=>?_))
 ·intro n2 ih6
  rintro ⟨e,f⟩ h
  unfold z20_l2 at h
  refine wB' J 8 h (fun h=>wa J 2 (eSub [] (j1 () h))) fun h=>?_
  refine wa J 11 (eCut (σ:=Bool) (fun st=>(zz0 [(0,.c (.s d)),(3,.I e),(4,.I f),(20,.O st)])) (fun st=>z20_k3 N d e f (z20_l2 N d n2) st=some r) ?_ (fun j9=>?_))
  ·intro g h
   unfold z20_k3 at h
   refine eB' h (fun h=>wa J 8 (eSub [] (ih6 (e,(w64 (f+1))) h))) fun h=>?_
   refine wO J 7 h fun i j h=>eSs J j ?_
   obtain ⟨k,l,h⟩:=ob h
   refine eCl (z44_ct N i _ l) [] [] ?_
   exact wB J 2 h (fun h=>oi h▸wr J 5 func20 []) fun h=>wa J 13 (eSub [] (ih6 ((w64 (f+1)),(w64 (f+1))) h))
  refine eB h (fun h=>wa J 6 (eSub [] (j9 true h))) fun h=>?_
  exact wO J 2 h fun m o h=>eSx J o (wa J 3 (eSub [] (j9 (m==46) h)))
 exact eSub [] (ih N (0,0) h)
theorem z97_ct (N:Nat) (c:(List T0)) (d:Int) (r:T4) (h:z97 N c d=some r) :
 Fn Tryz.prog 97 ⟨1,[.S 0,.I d],[(0,.sl rR0 c)],[],1,.a (cC4 r),[],[]⟩:=by
 refine eFn func97 rfl (fun E F w=>?_)
 unfold z97 at h
 refine wa J 9 (eCut (σ:=Unit) (fun st=>⟨[(4,.B 1 0)],[(1,.box [.s (str []),.I 0,.I 0,.I 0] 49)],[(0,.sl rR0 c)],2⟩) (fun st=>z97_k1=some r) ?_ (fun j1=>?_))
 ·intro _ h
  unfold z97_k1 at h
  exact oi h▸wr J 5 func97 []
 refine wa J 1 (eLoop (σ:=Int × Int) (fun st=>⟨[(0,.S 0),(1,.I st.1),(4,.B 1 0),(5,.I st.2)],[(1,.box [.s (str []),.I 0,.I 0,.I 0] 49)],[(0,.sl rR0 c)],2⟩) (fun n st=>z97_l2 c n st.1 st.2) (r:=r) (fun _=>rfl) ?_ (fun ih=>?_))
 ·intro n2 ih3
  rintro ⟨e,f⟩ h
  unfold z97_l2 at h
  refine wB' J 8 h (fun h=>wa J 2 (eSub [] (j1 () h))) fun h=>?_
  refine wO J 10 h fun g i h=>eIx J oO0 i ?_
  refine wB' J 5 h (fun h=>?_) fun h=>?_
  ·exact wO J 6 h fun j k h=>eIx J oO0 k (wa J 12 (eSub [] (ih3 ((w64 (e-(j.Fields.length:Int))),(w64 (f+1))) h)))
  refine wO J 5 h fun l m h=>eIx J oO0 m ?_
  refine wO J 3 h fun o p h=>eIx J oO4 p ?_
  exact oi h▸wr J 3 func97 []
 exact eSub [] (ih N (d,0) h)
theorem z45_ct (N:Nat) (c:(List T0)) (d:Int) (r:Bool) (h:z45 N c d=some r) :
 Fn Tryz.prog 45 ⟨1,[.S 0,.I d],[(0,.sl rR0 c)],[],1,.O r,[],[]⟩:=by
 refine eFn func45 rfl (fun E F w=>?_)
 unfold z45 at h
 refine wB' J 9 h (fun h=>oi h▸wr J 15 func45 []) fun h=>?_
 refine wO J 2 h fun e f h=>eCl (z17_ct N c _ f) [] [(0,.sl 0)] ?_
 refine wB' J 3 h (fun h=>oi h▸wr J 9 func45 []) fun h=>?_
 refine wO J 2 h fun g i h=>eCl (z97_ct N c d _ i) [] [(0,.sl 0)] ?_
 exact oi h▸wr J 6 func45 []
theorem z21_ct (N:Nat) (c:(List T0)) (d:T6) (r:Bool) (h:z21 N c d=some r) :
 Fn Tryz.prog 21 ⟨3,[.S 0,.a [.sl 1,.sl 2]],[(0,.sl rR0 c),(1,.sl rR1 d.Diffs),(2,.sl (rP (rI .i64) (rI .i64)) d.Equals)],[],3,.O r,[],[]⟩:=by
 refine eFn func21 rfl (fun E F w=>?_)
 unfold z21 at h
 refine wO J 8 h fun e f h=>eCl (z17_ct N c _ f) [] [(0,.sl 0)] (wa J 7 (eCut (σ:=Unit) (fun st=>(zz16 c d.Diffs d.Equals [(0,.S 0),(3,.B 3 0)])) (fun st=>z21_k3 N c d=some r) ?_ (fun j1=>?_)))
 ·intro _ h
  unfold z21_k3 at h
  refine wa J 5 (eCut (σ:=Unit) (fun st=>(zz16 c d.Diffs d.Equals [(3,.B 3 0)])) (fun st=>z21_k1 d=some r) ?_ (fun j3=>?_))
  ·intro _ h
   unfold z21_k1 at h
   exact wB J 7 h (fun h=>oi h▸wr J 7 func21 []) fun h=>oi h▸wr J 7 func21 []
  refine wa J 1 (eLoop (σ:=Int) (fun st=>(zz16 c d.Diffs d.Equals [(0,.S 0),(3,.B 3 0),(8,.I st)])) (fun n st=>z21_l2 N c d n st) (r:=r) (fun _=>rfl) ?_ (fun ih=>?_))
  ·intro n3 ih5
   intro g h
   unfold z21_l2 at h
   refine wB' J 9 h (fun h=>wa J 2 (eSub [] (j3 () h))) fun h=>?_
   refine wO J 10 h fun i j h=>eIx J (oP (oI .i64) (oI .i64)) j (eAq 0 rfl ?_)
   refine wO J 1 h fun k l h=>eCl (z45_ct N c i.1 _ l) [] [(0,.sl 0)] ?_
   refine wB J 2 h (fun h=>oi h▸wr J 16 func21 []) fun h=>?_
   refine wO J 4 h fun m o h=>eIx J (oP (oI .i64) (oI .i64)) o (eAq 1 rfl ?_)
   refine wO J 1 h fun p q h=>eCl (z45_ct N c m.2 _ q) [] [(0,.sl 0)] ?_
   exact wB J 3 h (fun h=>oi h▸wr J 5 func21 []) fun h=>wa J 8 (eSub [] (ih5 (w64 (g+1)) h))
  exact eSub [] (ih N 0 h)
 refine wa J 1 (eLoop (σ:=Int) (fun st=>(zz16 c d.Diffs d.Equals [(0,.S 0),(3,.B 3 0),(5,.I e),(6,.I st)])) (fun n st=>z21_l4 N c d e n st) (r:=r) (fun _=>rfl) ?_ (fun ih=>?_))
 ·intro n4 ih6
  intro s h
  unfold z21_l4 at h
  refine wB' J 9 h (fun h=>wa J 2 (eSub [] (j1 () h))) fun h=>?_
  refine wO J 9 h fun t u h=>eIx J oO1 u ?_
  refine wB J 10 h (fun h=>oi h▸wr J 32 func21 []) fun h=>?_
  refine wB J 6 h (fun h=>oi h▸wr J 26 func21 []) fun h=>?_
  refine wB J 5 h (fun h=>oi h▸wr J 21 func21 []) fun h=>?_
  refine wB J 6 h (fun h=>oi h▸wr J 15 func21 []) fun h=>?_
  refine wB J 5 h (fun h=>oi h▸wr J 10 func21 []) fun h=>?_
  exact wB J 5 h (fun h=>oi h▸wr J 5 func21 []) fun h=>wa J 8 (eSub [] (ih6 (w64 (s+1)) h))
 exact eSub [] (ih N 0 h)
theorem z6_ct (N:Nat) (c:(List T0)) (r:Bool) (h:z6 N c=some r) :
 Fn Tryz.prog 6 ⟨1,[.S 0],[(0,.sl rR0 c)],[],1,.O r,[],[]⟩:=by
 refine eFn func6 rfl (fun E F w=>?_)
 unfold z6 at h
 refine wB J 11 h (fun h=>oi h▸wr J 10 func6 []) fun h=>?_
 refine wO J 1 h fun d e h=>eCl (z17_ct N c _ e) [] [(0,.sl 0)] ?_
 refine wB J 3 h (fun h=>oi h▸wr J 5 func6 []) fun h=>wa J 11 (eCut (σ:=Unit) (fun st=>(zz7 c [])) (fun st=>z6_k1=some r) ?_ (fun j1=>?_))
 ·intro _ h
  unfold z6_k1 at h
  exact oi h▸wr J 4 func6 []
 refine wa J 1 (eLoop (σ:=Int × Int) (fun st=>(zz7 c [(0,.S 0),(3,.I st.1),(4,.I st.2)])) (fun n st=>z6_l2 N c n st.1 st.2) (r:=r) (fun _=>rfl) ?_ (fun ih=>?_))
 ·intro n82 ih75
  rintro ⟨f,g⟩ h
  unfold z6_l2 at h
  refine wB' J 8 h (fun h=>wa J 2 (eSub [] (j1 () h))) fun h=>?_
  refine wO J 8 h fun i j h=>eIx J oO0 j (wa J 9 (eCut (σ:=Unit) (fun st=>(zz17 i c [(0,.S 0),(3,.I f),(4,.I g),(5,.B 5 0)])) (fun st=>z6_k7 N c f g (z6_l2 N c n82) i=some r) ?_ (fun j124=>?_)))
  ·intro _ h
   unfold z6_k7 at h
   refine wa J 5 (eCut (σ:=Unit) (fun st=>(zz17 i c [(0,.S 0),(3,.I f),(4,.I g),(5,.B 5 0)])) (fun st=>z6_k3 N c f g (z6_l2 N c n82) i=some r) ?_ (fun j126=>?_))
   ·intro _ h
    unfold z6_k3 at h
    refine wO J 5 h fun k l h=>eCl (z20_ct N i.Name _ l) [] [] ?_
    refine wB J 2 h (fun h=>oi h▸wr J 24 func6 []) fun h=>?_
    refine wB J 6 h (fun h=>oi h▸wr J 18 func6 []) fun h=>?_
    refine wB J 6 h (fun h=>oi h▸wr J 12 func6 []) fun h=>?_
    refine wO J 3 h fun m o h=>eCl (z21_ct N c i.Guard _ o) [] [(0,.sl 0),(1,.sl 3),(2,.sl 4)] ?_
    exact wB J 3 h (fun h=>oi h▸wr J 5 func6 []) fun h=>wa J 16 (eSub [] (ih75 ((w64 (f+(i.Fields.length:Int))),(w64 (g+1))) h))
   refine wa J 1 (eLoop (σ:=Int) (fun st=>(zz17 i c [(0,.S 0),(3,.I f),(4,.I g),(5,.B 5 0),(7,.I st)])) (fun n st=>z6_l4 N c f g (z6_l2 N c n82) i n st) (r:=r) (fun _=>rfl) ?_ (fun ih=>?_))
   ·intro n95 ih137
    intro p h
    unfold z6_l4 at h
    refine wB' J 9 h (fun h=>wa J 2 (eSub [] (j126 () h))) fun h=>?_
    refine wO J 10 h fun q s h=>eIx J oO4 s ?_
    refine wO J 2 h fun t u h=>eCl (z18_ct N q.Sort' _ u) [] [] ?_
    refine wB J 2 h (fun h=>oi h▸wr J 15 func6 []) fun h=>?_
    refine wO J 3 h fun v x h=>eIx J oO4 x ?_
    refine wO J 2 h fun y z h=>eCl (z19_ct N v.Name _ z) [] [] ?_
    refine wB J 3 h (fun h=>oi h▸wr J 5 func6 []) fun h=>wa J 6 (eCut (σ:=Unit) (fun st=>⟨[(0,.S 0),(3,.I f),(4,.I g),(5,.B 5 0),(7,.I p)],[(5,.box (cC0 2 3 4 i) 31)],((0,.sl rR0 c)::vV0 2 3 4 i []),8⟩) (fun st=>z6_k5 p (z6_l4 N c f g (z6_l2 N c n82) i n95)=some r) ?_ (fun j144=>?_))
    ·intro _ h
     unfold z6_k5 at h
     exact wa J 6 (eSub [] (ih137 (w64 (p+1)) h))
    refine wa J 1 (eLoop (σ:=Int) (fun st=>⟨[(0,.S 0),(3,.I f),(4,.I g),(5,.B 5 0),(7,.I p),(8,.I st)],[(5,.box (cC0 2 3 4 i) 31)],((0,.sl rR0 c)::vV0 2 3 4 i []),8⟩) (fun n st=>z6_l6 i p (z6_l4 N c f g (z6_l2 N c n82) i n95) n st) (r:=r) (fun _=>rfl) ?_ (fun ih=>?_))
    ·intro n97 ih146
     intro A h
     unfold z6_l6 at h
     refine wB' J 7 h (fun h=>wa J 2 (eSub [] (j144 () h))) fun h=>?_
     refine wO J 9 h fun C D h=>eIx J oO4 D ?_
     refine wO J 5 h fun G H h=>eIx J oO4 H (wa J 3 (eEnd ?_))
     exact eB h (fun h=>oi h▸wr J 5 func6 []) fun h=>wa J 8 (eSub [] (ih146 (w64 (A+1)) h))
    exact eSub [] (ih N 0 h)
   exact eSub [] (ih N 0 h)
  refine wa J 1 (eLoop (σ:=Int) (fun st=>(zz17 i c [(0,.S 0),(3,.I f),(4,.I g),(5,.B 5 0),(6,.I st)])) (fun n st=>z6_l8 N c f g (z6_l2 N c n82) i n st) (r:=r) (fun _=>rfl) ?_ (fun ih=>?_))
  ·intro n98 ih147
   intro R h
   unfold z6_l8 at h
   refine wB' J 7 h (fun h=>wa J 2 (eSub [] (j124 () h))) fun h=>?_
   refine wO J 8 h fun T U h=>eIx J oO0 U (wa J 5 (eEnd ?_))
   exact eB h (fun h=>oi h▸wr J 5 func6 []) fun h=>wa J 8 (eSub [] (ih147 (w64 (R+1)) h))
  exact eSub [] (ih N 0 h)
 exact eSub [] (ih N (0,0) h)
theorem z8_ct (N:Nat) (c:T0) (r:Int) (h:z8 N c=some r) :
 Fn Tryz.prog 8 ⟨3,[.a (cC0 0 1 2 c)],(vV0 0 1 2 c []),[],3,.I r,[],[]⟩:=by
 refine eFn func8 rfl (fun E F w=>?_)
 unfold z8 at h
 exact oi h▸wr J 18 func8 []
theorem z113_ct (N:Nat) (d:ByteArray) (e:Int) (r:Int) (h:z113 N d e=some r) :
 Fn Tryz.prog 113 ⟨0,[.c (.s d),.c (.i .u8 e)],[],[],0,.I r,[],[]⟩:=by
 refine eFn func113 rfl (fun E F w=>?_)
 unfold z113 at h
 refine wO J 8 h fun f g h=>eCl (z181_ct N d e _ g) [] [] ?_
 exact oi h▸wr J 2 func113 []
theorem z221_ct (N:Nat) (d:Int) (r:Bool) (h:z221 N d=some r) :
 Fn Tryz.prog 221 ⟨0,[.c (.i .i32 d)],[],[],0,.O r,[],[]⟩:=by
 refine eFn func221 rfl (fun E F w=>?_)
 unfold z221 at h
 refine wB' J 11 h (fun h=>?_) fun h=>?_
 ·refine wB' J 11 h (fun h=>oi h▸wr J 12 func221 []) fun h=>?_
  exact wB J 5 h (fun h=>oi h▸wr J 5 func221 []) fun h=>oi h▸wr J 7 func221 []
 refine wB J 5 h (fun h=>oi h▸wr J 5 func221 []) fun h=>?_
 refine wB' J 6 h (fun h=>oi h▸wr J 12 func221 []) fun h=>?_
 exact wB J 5 h (fun h=>oi h▸wr J 5 func221 []) fun h=>oi h▸wr J 7 func221 []
theorem z179_ct (N:Nat) (d:ByteArray) (e:Int) (r:Int) (h:z179 N d e=some r) :
 Fn Tryz.prog 179 ⟨0,[.c (.s d),.c (.i .i32 e)],[],[],0,.I r,[],[]⟩:=by
 refine eFn func179 rfl (fun E F w=>?_)
 unfold z179 at h
 refine wa J 10 (eCut (σ:=Bool) (fun st=>(zz0 [(0,.c (.s d)),(1,.c (.i .i32 e)),(160,.O st)])) (fun st=>z179_k8 N d e st=some r) ?_ (fun j1=>?_))
 ·intro f h
  unfold z179_k8 at h
  refine eB h (fun h=>?_) fun h=>?_
  ·refine wO J 6 h fun g j h=>eCl (z113_ct N d (wk .u8 (e)) _ j) [] [] ?_
   exact oi h▸wr J 2 func179 []
  obtain ⟨K,h⟩|⟨K,h⟩:=oc h
  ·refine wH J 7 K (wa J 5 (eRn J (fun bk2=>wa J 1 (eCut (σ:=Nat) (fun st=>(zz3 (itR bk2 d st) [])) (fun st=>z179_k1 st=some r) ?_ (fun j2=>?_)))))
   ·intro vi0_2 h
    unfold z179_k1 at h
    exact oi h▸wr J 4 func179 []
   refine wa J 1 (eLoop (σ:=Nat) (fun st=>(zz3 (itR bk2 d st) [(175,.c (.v (.pointer (some ⟨bk2,0,none⟩))))])) (fun n st=>z179_l2 d n st) (r:=r) (fun _=>rfl) ?_ (fun ih=>?_))
   ·intro n2 ih4
    intro vi0_4 h
    unfold z179_l2 at h
    obtain ⟨K,h⟩|⟨K,h⟩:=oc' h
    ·exact wa J 2 (eNf bk2 0 K (wa J 5 (eSub [] (j2 vi0_4 h))))
    refine wa J 2 (eNt bk2 0 K ?_)
    exact wB J 18 h (fun h=>oi h▸wr J 6 func179 []) fun h=>wa J 3 (eSub [] (ih4 (vi0_4+(Utf8.decode d vi0_4).2) h))
   exact eSub [] (ih N (0:Nat) h)
  refine wH J 7 K ?_
  refine wO J 4 h fun k l h=>eCl (z221_ct N e _ l) [] [] ?_
  refine wB J 3 h (fun h=>oi h▸wr J 5 func179 []) fun h=>wa J 5 (eCr (wa J 19 (eCut (σ:=Unit) (fun st=>(zz0 [])) (fun st=>z179_k3=some r) ?_ (fun j5=>?_))))
  ·intro _ h
   unfold z179_k3 at h
   exact oi h▸wr J 5 func179 []
  refine wa J 1 (eLoop (σ:=Unit) (fun st=>(zz0 [(0,.c (.s d)),(7,.c (.s (Utf8.encode e))),(8,.I (w64 (((Utf8.encode e).size:Int)-1))),(9,.I (w64 (((Utf8.encode e).size:Int)-1)))])) (fun n st=>z179_l4 N d e n) (r:=r) (fun _=>rfl) ?_ (fun ih=>?_))
  ·intro n10 ih15
   intro _ h
   unfold z179_l4 at h
   refine wB' J 8 h (fun h=>wa J 2 (eSub [] (j5 () h))) fun h=>?_
   refine wO J 9 h fun m o h=>eSx J o ?_
   refine wO J 2 h fun p q h=>eSx J q (wa J 1 (eEnd (eCut (σ:=Int) (fun st=>(zz0 [(0,.c (.s d)),(7,.c (.s (Utf8.encode e))),(8,.I (w64 (((Utf8.encode e).size:Int)-1))),(9,.I st)])) (fun st=>z179_k7 N d e st=some r) ?_ (fun j20=>?_))))
   ·intro t h
    unfold z179_k7 at h
    refine wa J 5 (eCut (σ:=Unit) (fun st=>(zz0 [(8,.I (w64 (((Utf8.encode e).size:Int)-1))),(9,.I t)])) (fun st=>z179_k5 e t=some r) ?_ (fun j21=>?_))
    ·intro _ h
     unfold z179_k5 at h
     exact oi h▸wr J 8 func179 []
    refine wa J 1 (eLoop (σ:=Int) (fun st=>(zz0 [(0,.c (.s d)),(7,.c (.s (Utf8.encode e))),(8,.I (w64 (((Utf8.encode e).size:Int)-1))),(9,.I t),(12,.I st)])) (fun n st=>z179_l6 d e t n st) (r:=r) (fun _=>rfl) ?_ (fun ih=>?_))
    ·intro n12 ih23
     intro u h
     unfold z179_l6 at h
     refine wB' J 8 h (fun h=>wa J 2 (eSub [] (j21 () h))) fun h=>?_
     refine wO J 10 h fun x y h=>eSx J y ?_
     refine wO J 4 h fun z A h=>eSx J A (wa J 1 (eEnd ?_))
     refine eB h (fun h=>?_) fun h=>wa J 8 (eSub [] (ih23 (w64 (u+1)) h))
     cases h
    exact eSub [] (ih N 1 h)
   refine eB' h (fun h=>wa J 2 (eSub [] (j20 (w64 (((Utf8.encode e).size:Int)-1)) h))) fun h=>?_
   refine wO J 6 h fun C D h=>eSs J D ?_
   refine wO J 2 h fun G H h=>eSx J H ?_
   obtain ⟨R,T,h⟩:=ob h
   refine eCl (z113_ct N C G _ T) [] [] (wa J 1 (eEnd ?_))
   exact wB J 6 h (fun h=>oi h▸wr J 5 func179 []) fun h=>wa J 9 (eSub [] (j20 (w64 ((w64 (((Utf8.encode e).size:Int)-1))+(w64 (R+1)))) h))
  exact eSub [] (ih N () h)
 exact eB h (fun h=>wa J 5 (eSub [] (j1 (decide (e < 128)) h))) fun h=>wa J 5 (eSub [] (j1 false h))
theorem z111_ct (N:Nat) (d:ByteArray) (e:Int) (r:Bool) (h:z111 N d e=some r) :
 Fn Tryz.prog 111 ⟨0,[.c (.s d),.c (.i .i32 e)],[],[],0,.O r,[],[]⟩:=by
 refine eFn func111 rfl (fun E F w=>?_)
 unfold z111 at h
 refine wO J 8 h fun f g h=>eCl (z179_ct N d e _ g) [] [] ?_
 exact oi h▸wr J 3 func111 []
theorem z180_ct (N:Nat) (d:ByteArray) (e:ByteArray) (r:Bool) (h:z180 N d e=some r) :
 Fn Tryz.prog 180 ⟨0,[.c (.s d),.c (.s e)],[],[],0,.O r,[],[]⟩:=by
 refine eFn func180 rfl (fun E F w=>?_)
 unfold z180 at h
 refine wB' J 12 h (fun h=>oi h▸wr J 9 func180 []) fun h=>?_
 refine wO J 3 h fun f g h=>eSs J g ?_
 exact oi h▸wr J 5 func180 []
theorem z112_ct (N:Nat) (d:ByteArray) (e:ByteArray) (r:Bool) (h:z112 N d e=some r) :
 Fn Tryz.prog 112 ⟨0,[.c (.s d),.c (.s e)],[],[],0,.O r,[],[]⟩:=by
 refine eFn func112 rfl (fun E F w=>?_)
 unfold z112 at h
 refine wO J 8 h fun f g h=>eCl (z180_ct N d e _ g) [] [] ?_
 exact oi h▸wr J 2 func112 []
theorem z54_ct (N:Nat) (c:T15) (r:T15) (h:z54 N c=some r) :
 Fn Tryz.prog 54 ⟨1,[.B 0 0],[],[(0,.box (cC15 c) 133)],1,.t [],[],[(0,.box (cC15 r) 133)]⟩:=by
 refine eFn func54 rfl (fun E F w=>?_)
 unfold z54 at h
 refine eCut (σ:=Int) (fun st=>(zz8 c.s' st [])) (fun st=>z54_k1 c st=some r) ?_ (fun j1=>?_)
 ·intro vbk0_0_1_1 h
  unfold z54_k1 at h
  cases h
  exact eRet J func54 []
 refine wa J 1 (eLoop (σ:=Int) (fun st=>(zz8 c.s' st [(0,.B 0 0)])) (fun n st=>z54_l2 N c n st) (r:=r) (fun _=>rfl) ?_ (fun ih=>?_))
 ·intro n2 ih3
  intro vbk0_0_1_3 h
  unfold z54_l2 at h
  refine wa J 13 (eEnd ?_)
  refine eB' h (fun h=>wa J 2 (eSub [] (j1 vbk0_0_1_3 h))) fun h=>?_
  refine wO J 13 h fun d e h=>eSs J e (wa J 1 (eEnd ?_))
  refine wO J 4 h fun f g h=>eSx J g ?_
  refine wO J 1 h fun i j h=>eCl (z111_ct N (str [32,9,10,13]) (wk .i32 (f)) _ j) [] [] ?_
  refine wB J 2 h (fun h=>wa J 13 (eSub [] (ih3 (w64 (vbk0_0_1_3+1)) h))) fun h=>?_
  refine wO J 4 h fun k l h=>eCl (z112_ct N d (str [47,47]) _ l) [] [] ?_
  refine wB' J 2 h (fun h=>oi h▸wr J 1 func54 []) fun h=>?_
  refine wO J 4 h fun m o h=>eCl (z113_ct N d 10 _ o) [] [] ?_
  exact wB J 8 h (fun h=>wa J 21 (eSub [] (ih3 (w64 (vbk0_0_1_3+(w64 ((w64 ((d.size:Int)-1))+1)))) h))) fun h=>wa J 16 (eSub [] (ih3 (w64 (vbk0_0_1_3+(w64 (m+1)))) h))
 exact eSub [] (ih N c.at' h)
theorem z115_30_ct (N:Nat) (d:T15) (r:ByteArray × T15) (h:z115_30 N d=some r) :
 Fn Tryz.prog 115 ⟨1,[.B 0 0,.c (.cl 116 [] [])],[],[(0,.box (cC15 d) 133)],1,.c (.s r.1),[],[(0,.box (cC15 r.2) 133)]⟩:=by
 refine eFn func115 rfl (fun E F w=>?_)
 unfold z115_30 at h
 refine wa J 13 (eCut (σ:=Int) (fun st=>(zz8 d.s' st [(0,.B 0 0),(5,.I d.at')])) (fun st=>z115_30_k1 d st=some r) ?_ (fun j1=>?_))
 ·intro vbk0_0_1_1 h
  unfold z115_30_k1 at h
  refine wO J 11 h fun e f h=>eSs J f (wa J 1 (eEnd ?_))
  cases h
  exact eRet J func115 []
 refine wa J 1 (eLoop (σ:=Int) (fun st=>(zz8 d.s' st [(0,.B 0 0),(1,.c (.cl 116 [] [])),(5,.I d.at')])) (fun n st=>z115_30_l2 N d n st) (r:=r) (fun _=>rfl) ?_ (fun ih=>?_))
 ·intro n2 ih3
  intro vbk0_0_1_3 h
  unfold z115_30_l2 at h
  refine wB' J 14 h (fun h=>wa J 12 (eEnd (wa J 2 (eSub [] (j1 vbk0_0_1_3 h))))) fun h=>?_
  refine wO J 9 h fun g i h=>eSx J i ?_
  obtain ⟨j,k,h⟩:=ob h
  refine eCl (z116_ct N g _ k) [] [] (wa J 1 (eEnd ?_))
  exact eB h (fun h=>wa J 14 (eSub [] (ih3 (w64 (vbk0_0_1_3+1)) h))) fun h=>wa J 2 (eSub [] (j1 vbk0_0_1_3 h))
 exact eSub [] (ih N d.at' h)
theorem z57_ct (N:Nat) (c:T15) (r:T14 × Int × T15) (h:z57 N c=some r) :
 Fn Tryz.prog 57 ⟨1,[.B 0 0],[],[(0,.box (cC15 c) 133)],1,.t [.inr (cC14 r.1),.inl (.I r.2.1)],[],[(0,.box (cC15 r.2.2) 133)]⟩:=by
 refine eFn func57 rfl (fun E F w=>?_)
 unfold z57 at h
 refine wO J 8 h fun d e h=>eCl (z115_30_ct N c _ e) [] [(0,.bp 0 0)] ?_
 exact wB J 9 h (fun h=>oi h▸wr J 7 func57 []) fun h=>oi h▸wr J 9 func57 []
theorem z115_31_ct (N:Nat) (d:T15) (r:ByteArray × T15) (h:z115_31 N d=some r) :
 Fn Tryz.prog 115 ⟨1,[.B 0 0,.c (.cl 58 [] [])],[],[(0,.box (cC15 d) 133)],1,.c (.s r.1),[],[(0,.box (cC15 r.2) 133)]⟩:=by
 refine eFn func115 rfl (fun E F w=>?_)
 unfold z115_31 at h
 refine wa J 13 (eCut (σ:=Int) (fun st=>(zz8 d.s' st [(0,.B 0 0),(5,.I d.at')])) (fun st=>z115_31_k1 d st=some r) ?_ (fun j1=>?_))
 ·intro vbk0_0_1_1 h
  unfold z115_31_k1 at h
  refine wO J 11 h fun e f h=>eSs J f (wa J 1 (eEnd ?_))
  cases h
  exact eRet J func115 []
 refine wa J 1 (eLoop (σ:=Int) (fun st=>(zz8 d.s' st [(0,.B 0 0),(1,.c (.cl 58 [] [])),(5,.I d.at')])) (fun n st=>z115_31_l2 N d n st) (r:=r) (fun _=>rfl) ?_ (fun ih=>?_))
 ·intro n2 ih3
  intro vbk0_0_1_3 h
  unfold z115_31_l2 at h
  refine wB' J 14 h (fun h=>wa J 12 (eEnd (wa J 2 (eSub [] (j1 vbk0_0_1_3 h))))) fun h=>?_
  refine wO J 9 h fun g i h=>eSx J i ?_
  obtain ⟨j,k,h⟩:=ob h
  refine eCl (z58_ct N g _ k) [] [] (wa J 1 (eEnd ?_))
  exact eB h (fun h=>wa J 14 (eSub [] (ih3 (w64 (vbk0_0_1_3+1)) h))) fun h=>wa J 2 (eSub [] (j1 vbk0_0_1_3 h))
 exact eSub [] (ih N d.at' h)
theorem z59_ct (N:Nat) (d:T15) (r:T14 × Int × T15) (h:z59 N d=some r) :
 Fn Tryz.prog 59 ⟨1,[.B 0 0],[],[(0,.box (cC15 d) 133)],1,.t [.inr (cC14 r.1),.inl (.I r.2.1)],[],[(0,.box (cC15 r.2.2) 133)]⟩:=by
 refine eFn func59 rfl (fun E F w=>?_)
 unfold z59 at h
 refine wO J 8 h fun e f h=>eCl (z115_31_ct N d _ f) [] [(0,.bp 0 0)] ?_
 refine wa J 16 (eCut (σ:=Bool) (fun st=>(zz18 e.2 [(2,.B 1 0),(4,.c (.s e.1)),(30,.O st)])) (fun st=>z59_k4 N e st=some r) ?_ (fun j1=>?_))
 ·intro g h
  unfold z59_k4 at h
  refine eB h (fun h=>oi h▸wr J 7 func59 []) fun h=>?_
  refine wa J 9 (eCut (σ:=Bool) (fun st=>(zz18 e.2 [(2,.B 1 0),(4,.c (.s e.1)),(44,.O st)])) (fun st=>z59_k3 N e st=some r) ?_ (fun j2=>?_))
  ·intro i h
   unfold z59_k3 at h
   refine eB h (fun h=>oi h▸wr J 7 func59 []) fun h=>wa J 15 (eCut (σ:=Int) (fun st=>(zz34 e.2 st [(2,.B 1 0),(5,.B 2 0)])) (fun st=>z59_k1 e st=some r) ?_ (fun j3=>?_))
   ·intro j h
    unfold z59_k1 at h
    exact oi h▸wr J 6 func59 []
   refine wa J 1 (eLoop (σ:=Int × Int) (fun st=>(zz34 e.2 st.1 [(2,.B 1 0),(4,.c (.s e.1)),(5,.B 2 0),(48,.I (e.1.size:Int)),(49,.I st.2)])) (fun n st=>z59_l2 e n st.1 st.2) (r:=r) (fun _=>rfl) ?_ (fun ih=>?_))
   ·intro n2 ih5
    rintro ⟨k,l⟩ h
    unfold z59_l2 at h
    refine wB' J 5 h (fun h=>wa J 2 (eSub [] (j3 k h))) fun h=>?_
    exact wO J 15 h fun m o h=>eSx J o (wa J 5 (eEnd (wa J 5 (eSub [] (ih5 ((w64 ((w64 (10 * k))+(w64 ((wk .u8 (m-48)))))),(w64 (l+1))) h)))))
   exact eSub [] (ih N (0,0) h)
  refine eB h (fun h=>wa J 10 (eSub [] (j2 true h))) fun h=>?_
  refine wB' J 4 h (fun h=>wa J 6 (eSub [] (j2 false h))) fun h=>?_
  exact wO J 1 h fun p q h=>eSx J q (wa J 4 (eSub [] (j2 (p==48) h)))
 refine eB' h (fun h=>wa J 11 (eEnd (eSub [] (j1 false h)))) fun h=>?_
 refine wO J 8 h fun u v h=>eSx J v ?_
 obtain ⟨x,y,h⟩:=ob h
 exact eCl (z116_ct N u _ y) [] [] (wa J 1 (eEnd (eSub [] (j1 x h))))
theorem z60_ct (N:Nat) (d:T15) (r:T14 × Int × T15) (h:z60 N d=some r) :
 Fn Tryz.prog 60 ⟨1,[.B 0 0],[],[(0,.box (cC15 d) 133)],1,.t [.inr (cC14 r.1),.inl (.I r.2.1)],[],[(0,.box (cC15 r.2.2) 133)]⟩:=by
 refine eFn func60 rfl (fun E F w=>?_)
 unfold z60 at h
 refine wa J 21 (eCut (σ:=Int) (fun st=>⟨[(2,.B 1 0)],[(0,.box [.s d.s',.I st] 133),(1,.box [.I 0,.s (str []),.I 0,.I 0] 137)],[],2⟩) (fun st=>z60_k1 d st=some r) ?_ (fun j1=>?_))
 ·intro vbk0_0_1_1 h
  unfold z60_k1 at h
  exact oi h▸wr J 6 func60 []
 refine wa J 1 (eLoop (σ:=Int × (List Int)) (fun st=>(zz35 d.s' st.1 st.2 [(0,.B 0 0),(2,.B 1 0),(4,.S 2)])) (fun n st=>z60_l2 d n st.1 st.2) (r:=r) (fun _=>rfl) ?_ (fun ih=>?_))
 ·intro n2 ih6
  rintro ⟨vbk0_0_1_6,e⟩ h
  unfold z60_l2 at h
  refine wa J 13 (eEnd ?_)
  refine eB' h (fun h=>wa J 2 (eSub [] (j1 vbk0_0_1_6 h))) fun h=>?_
  refine wO J 14 h fun f g h=>eSx J g (wa J 1 (eEnd ?_))
  refine wB J 6 h (fun h=>?_) fun h=>wa J 8 (eCut (σ:=Int × Int) (fun st=>(zz35 d.s' st.1 e [(0,.B 0 0),(2,.B 1 0),(4,.S 2),(5,.c (.i .u8 st.2))])) (fun st=>z60_k3 d e (z60_l2 d n2) st.1 st.2=some r) ?_ (fun j9=>?_))
  ·exact wB J 19 h (fun h=>oi h▸wr J 7 func60 []) fun h=>wa J 5 (eCs e (oi h▸wr J 4 func60 []))
  ·rintro ⟨vbk0_0_1_9,j⟩ h
   unfold z60_k3 at h
   refine wB J 6 h (fun h=>oi h▸wr J 11 func60 []) fun h=>?_
   refine wB J 4 h (fun h=>oi h▸wr J 7 func60 []) fun h=>wa J 5 (eBs J [] (oI .u8) ([j]:List Int) ?_)
   obtain ⟨k,l,h⟩:=ob h
   exact eAp J (rI .u8) l (wa J 13 (eSub [(2,.sl 4)] (ih6 ((w64 (vbk0_0_1_9+1)),k) h)))
  refine eB' h (fun h=>wa J 2 (eSub [] (j9 (vbk0_0_1_6,f) h))) fun h=>?_
  refine wB J 26 h (fun h=>wa J 23 (eEnd (oi h▸wr J 7 func60 []))) fun h=>?_
  refine wO J 8 h fun m o h=>eSx J o ?_
  refine wB' J 2 h (fun h=>wa J 12 (eEnd ?_)) fun h=>?_
  ·exact wO J 11 h fun p q h=>eSx J q (wa J 1 (eEnd (eSub [] (j9 ((w64 (vbk0_0_1_6+1)),p) h))))
  refine wO J 8 h fun u v h=>eSx J v (wa J 3 (eEnd ?_))
  refine eB h (fun h=>oi h▸wr J 7 func60 []) fun h=>?_
  exact wO J 11 h fun x y h=>eSx J y (wa J 1 (eEnd (eSub [] (j9 ((w64 (vbk0_0_1_6+1)),x) h))))
 exact eSub [(2,.nil)] (ih N ((w64 (d.at'+1)),([]:List Int)) h)
theorem z114_ct (N:Nat) (d:ByteArray) (e:ByteArray) (r:Bool) (h:z114 N d e=some r) :
 Fn Tryz.prog 114 ⟨0,[.c (.s d),.c (.s e)],[],[],0,.O r,[],[]⟩:=by
 refine eFn func114 rfl (fun E F w=>?_)
 unfold z114 at h
 refine wO J 8 h fun f g h=>eCl (z182_ct N d e _ g) [] [] ?_
 exact oi h▸wr J 3 func114 []
theorem z55_ct (N:Nat) (c:T15) (r:T14 × Int × T15) (h:z55 N c=some r) :
 Fn Tryz.prog 55 ⟨1,[.B 0 0],[],[(0,.box (cC15 c) 133)],1,.t [.inr (cC14 r.1),.inl (.I r.2.1)],[],[(0,.box (cC15 r.2.2) 133)]⟩:=by
 refine eFn func55 rfl (fun E F w=>?_)
 unfold z55 at h
 refine wa J 11 (eCut (σ:=Unit) (fun st=>(zz18 c [(0,.B 0 0),(2,.B 1 0)])) (fun st=>z55_k1 N c=some r) ?_ (fun j1=>?_))
 ·intro _ h
  unfold z55_k1 at h
  refine wO J 15 h fun d e h=>eSs J e (wa J 1 (eEnd ?_))
  refine wO J 4 h fun f g h=>eCl (z114_ct N (str [40,41,123,125,44,59,58,46,43,45,42,47,37,60,62,61,33]) d _ g) [] [] ?_
  exact wB J 2 h (fun h=>oi h▸wr J 7 func55 []) fun h=>oi h▸wr J 20 func55 []
 refine wa J 1 (eLoop (σ:=Int) (fun st=>(zz18 c [(0,.B 0 0),(2,.B 1 0),(7,.a [.s (str [45,62]),.s (str [46,46]),.s (str [60,61]),.s (str [62,61]),.s (str [61,61]),.s (str [33,61]),.s (str [38,38]),.s (str [124,124])]),(8,.I st)])) (fun n st=>z55_l2 N c n st) (r:=r) (fun _=>rfl) ?_ (fun ih=>?_))
 ·intro n2 ih3
  intro i h
  unfold z55_l2 at h
  refine wB' J 5 h (fun h=>wa J 2 (eSub [] (j1 () h))) fun h=>?_
  refine wO J 6 h fun j k h=>eAx SC.s ([(str [45,62]),(str [46,46]),(str [60,61]),(str [62,61]),(str [61,61]),(str [33,61]),(str [38,38]),(str [124,124])]:List ByteArray) k ?_
  refine wO J 12 h fun l m h=>eSs J m ?_
  refine wO J 1 h fun o p h=>eCl (z112_ct N l j _ p) [] [] (eEnd ?_)
  exact eB h (fun h=>oi h▸wr J 19 func55 []) fun h=>wa J 7 (eSub [] (ih3 (w64 (i+1)) h))
 exact eSub [] (ih N 0 h)
theorem z26_ct (N:Nat) (d:ByteArray) (r:(List T14) × Int × Int) (h:z26 N d=some r) :
 Fn Tryz.prog 26 ⟨0,[.c (.s d)],[],[],1,.t [.inl (.sl 0),.inl (.I r.2.1),.inl (.I r.2.2)],[],[(0,.own rR14 r.1 true)]⟩:=by
 refine eFn func26 rfl (fun E F w=>?_)
 unfold z26 at h
 refine wB J 13 h (fun h=>oi h▸wr J 7 func26 [(0,.nil)]) fun h=>?_
 refine wO J 13 h fun e f h=>eCl (z54_ct N (⟨d,0⟩:T15) _ f) [] [(0,.bp 0 0)] (wa J 1 (eCut (σ:=(List T14)) (fun st=>⟨[(2,.S 1)],[(1,.own rR14 st true)],[],2⟩) (fun st=>z26_k1 st=some r) ?_ (fun j1=>?_)))
 ·intro g h
  unfold z26_k1 at h
  exact oi h▸wr J 7 func26 [(0,.sl 1)]
 refine wa J 1 (eLoop (σ:=(List T14) × ByteArray × Int) (fun st=>⟨[(0,.c (.s d)),(2,.S 1),(5,.B 0 0)],[(0,.box [.s st.2.1,.I st.2.2] 133),(1,.own rR14 st.1 true)],[],2⟩) (fun n st=>z26_l2 N d n st.1 st.2.1 st.2.2) (r:=r) (fun _=>rfl) ?_ (fun ih=>?_))
 ·intro n2 ih12
  rintro ⟨i,j,k⟩ h
  unfold z26_l2 at h
  refine wB' J 11 h (fun h=>wa J 2 (eSub [] (j1 i h))) fun h=>?_
  refine wO J 18 h fun l m h=>eSx J m ?_
  refine wO J 6 h fun o p h=>eCl (z56_ct N l _ p) [] [] ?_
  refine wB J 2 h (fun h=>?_) fun h=>?_
  ·refine wO J 18 h fun q u h=>eCl (z57_ct N (⟨j,k⟩:T15) _ u) [] [(0,.bp 0 0)] ?_
   refine wB J 13 h (fun h=>oi h▸wr J 9 func26 [(0,.nil)]) fun h=>wa J 11 (eBs J [] oO14 ([(⟨q.1.Kind,q.1.Text,q.1.Value,k⟩:T14)]:List T14) ?_)
   obtain ⟨v,x,h⟩:=ob h
   refine eAp J rR14 x ?_
   exact wO J 5 h fun y z h=>eCl (z54_ct N q.2.2 _ z) [] [(0,.bp 0 0)] (wa J 1 (eSub [(1,.sl 4)] (ih12 (v,y.s',y.at') h)))
  refine wO J 4 h fun A C h=>eCl (z58_ct N l _ C) [] [] ?_
  refine wB J 2 h (fun h=>?_) fun h=>?_
  ·refine wO J 18 h fun D G h=>eCl (z59_ct N (⟨j,k⟩:T15) _ G) [] [(0,.bp 0 0)] ?_
   refine wB J 13 h (fun h=>oi h▸wr J 9 func26 [(0,.nil)]) fun h=>wa J 11 (eBs J [] oO14 ([(⟨D.1.Kind,D.1.Text,D.1.Value,k⟩:T14)]:List T14) ?_)
   obtain ⟨H,R,h⟩:=ob h
   refine eAp J rR14 R ?_
   exact wO J 5 h fun T U h=>eCl (z54_ct N D.2.2 _ U) [] [(0,.bp 0 0)] (wa J 1 (eSub [(1,.sl 4)] (ih12 (H,T.s',T.at') h)))
  refine wB J 7 h (fun h=>?_) fun h=>?_
  ·refine wO J 18 h fun X Y h=>eCl (z60_ct N (⟨j,k⟩:T15) _ Y) [] [(0,.bp 0 0)] ?_
   refine wB J 13 h (fun h=>oi h▸wr J 9 func26 [(0,.nil)]) fun h=>wa J 11 (eBs J [] oO14 ([(⟨X.1.Kind,X.1.Text,X.1.Value,k⟩:T14)]:List T14) ?_)
   obtain ⟨Z,a0,h⟩:=ob h
   refine eAp J rR14 a0 ?_
   exact wO J 5 h fun b0 c0 h=>eCl (z54_ct N X.2.2 _ c0) [] [(0,.bp 0 0)] (wa J 1 (eSub [(1,.sl 4)] (ih12 (Z,b0.s',b0.at') h)))
  refine wO J 14 h fun d0 e0 h=>eCl (z55_ct N (⟨j,k⟩:T15) _ e0) [] [(0,.bp 0 0)] ?_
  refine wB J 13 h (fun h=>oi h▸wr J 9 func26 [(0,.nil)]) fun h=>wa J 11 (eBs J [] oO14 ([(⟨d0.1.Kind,d0.1.Text,d0.1.Value,k⟩:T14)]:List T14) ?_)
  obtain ⟨f0,g0,h⟩:=ob h
  refine eAp J rR14 g0 ?_
  exact wO J 5 h fun i0 j0 h=>eCl (z54_ct N d0.2.2 _ j0) [] [(0,.bp 0 0)] (wa J 1 (eSub [(1,.sl 4)] (ih12 (f0,i0.s',i0.at') h)))
 exact eSub [(1,.nil)] (ih N (([]:List T14),e.s',e.at') h)
theorem z118_ct (N:Nat) (c:T24) (r:T14) (h:z118 N c=some r) :
 Fn Tryz.prog 118 ⟨2,[.B 0 0],[(1,.sl rR14 c.l')],[(0,.box (cC24 1 c) 96)],2,.a (cC14 r),[],[(0,.box (cC24 1 c) 96)]⟩:=by
 refine eFn func118 rfl (fun E F w=>?_)
 unfold z118 at h
 refine wB J 13 h (fun h=>wa J 11 (eEnd (oi h▸wr J 6 func118 []))) fun h=>wa J 11 (eEnd ?_)
 refine eB h (fun h=>oi h▸wr J 6 func118 []) fun h=>?_
 refine wO J 12 h fun d e h=>eIx J oO14 e (wa J 2 (eEnd ?_))
 cases h
 exact eRet J func118 []
theorem z119_ct (N:Nat) (d:T24) (e:ByteArray) (r:Bool) (h:z119 N d e=some r) :
 Fn Tryz.prog 119 ⟨2,[.B 0 0,.c (.s e)],[(1,.sl rR14 d.l')],[(0,.box (cC24 1 d) 96)],2,.O r,[],[(0,.box (cC24 1 d) 96)]⟩:=by
 refine eFn func119 rfl (fun E F w=>?_)
 unfold z119 at h
 refine wO J 7 h fun f g h=>eCl (z118_ct N d _ g) [] [(0,.bp 0 0),(1,.sl 1)] ?_
 refine wB J 9 h (fun h=>oi h▸wr J 12 func119 []) fun h=>?_
 exact wB J 5 h (fun h=>oi h▸wr J 7 func119 []) fun h=>oi h▸wr J 7 func119 []
theorem z64_ct (N:Nat) (d:T24) (e:ByteArray) (r:Bool × T24) (h:z64 N d e=some r) :
 Fn Tryz.prog 64 ⟨2,[.B 0 0,.c (.s e)],[(1,.sl rR14 d.l')],[(0,.box (cC24 1 d) 96)],3,.O r.1,[(2,.sl rR14 r.2.l')],[(0,.box (cC24 2 r.2) 96)]⟩:=by
 refine eFn func64 rfl (fun E F w=>?_)
 unfold z64 at h
 refine wO J 9 h fun f g h=>eCl (z119_ct N d e _ g) [] [(0,.bp 0 0),(1,.sl 1)] ?_
 exact wB J 2 h (fun h=>oi h▸wr J 5 func64 [(2,.sl 1)]) fun h=>oi h▸wr J 17 func64 [(2,.sl 1)]
theorem z117_ct (N:Nat) (c:T24) (d:Int) (r:T24) (h:z117 N c d=some r) :
 Fn Tryz.prog 117 ⟨2,[.B 0 0,.I d],[(1,.sl rR14 c.l')],[(0,.box (cC24 1 c) 96)],3,.t [],[(2,.sl rR14 r.l')],[(0,.box (cC24 2 r) 96)]⟩:=by
 refine eFn func117 rfl (fun E F w=>?_)
 unfold z117 at h
 refine wB J 9 h (fun h=>oi h▸wr J 1 func117 [(2,.sl 1)]) fun h=>wa J 30 (eEnd ?_)
 refine eB' h (fun h=>oi h▸wr J 2 func117 [(2,.sl 1)]) fun h=>?_
 refine wO J 11 h fun e f h=>eIx J oO14 f (wa J 5 (eEnd ?_))
 cases h
 exact eRet J func117 [(2,.sl 1)]
theorem z61_ct (N:Nat) (d:T24) (e:ByteArray) (r:T24) (h:z61 N d e=some r) :
 Fn Tryz.prog 61 ⟨2,[.B 0 0,.c (.s e)],[(1,.sl rR14 d.l')],[(0,.box (cC24 1 d) 96)],3,.t [],[(2,.sl rR14 r.l')],[(0,.box (cC24 2 r) 96)]⟩:=by
 refine eFn func61 rfl (fun E F w=>?_)
 unfold z61 at h
 refine wO J 4 h fun f g h=>eCl (z64_ct N d e _ g) [] [(0,.bp 0 0),(1,.sl 1)] ?_
 refine wB' J 2 h (fun h=>oi h▸wr J 2 func61 [(2,.sl 2)]) fun h=>?_
 refine wO J 3 h fun i j h=>eCl (z117_ct N f.2 3 _ j) [] [(0,.bp 0 0),(1,.sl 2)] ?_
 exact oi h▸wr J 1 func61 [(2,.sl 3)]
theorem z62_ct (N:Nat) (d:T24) (r:ByteArray × T24) (h:z62 N d=some r) :
 Fn Tryz.prog 62 ⟨2,[.B 0 0],[(1,.sl rR14 d.l')],[(0,.box (cC24 1 d) 96)],3,.c (.s r.1),[(2,.sl rR14 r.2.l')],[(0,.box (cC24 2 r.2) 96)]⟩:=by
 refine eFn func62 rfl (fun E F w=>?_)
 unfold z62 at h
 refine wO J 7 h fun e f h=>eCl (z118_ct N d _ f) [] [(0,.bp 0 0),(1,.sl 1)] ?_
 refine wB J 10 h (fun h=>?_) fun h=>?_
 ·refine wO J 10 h fun g i h=>eCl (z117_ct N d 3 _ i) [] [(0,.bp 0 0),(1,.sl 1)] ?_
  exact oi h▸wr J 5 func62 [(2,.sl 3)]
 refine wO J 2 h fun j k h=>eCl (z67_ct N e.Text _ k) [] [] ?_
 refine wB' J 3 h (fun h=>oi h▸wr J 19 func62 [(2,.sl 1)]) fun h=>?_
 refine wO J 4 h fun l m h=>eCl (z117_ct N d 3 _ m) [] [(0,.bp 0 0),(1,.sl 1)] ?_
 exact oi h▸wr J 5 func62 [(2,.sl 3)]
theorem z63_ct (N:Nat) (c:T24) (r:(List ByteArray) × T24) (h:z63 N c=some r) :
 Fn Tryz.prog 63 ⟨2,[.B 0 0],[(1,.sl rR14 c.l')],[(0,.box (cC24 1 c) 96)],4,.S 2,[(3,.sl rR14 r.2.l')],[(2,.own rS r.1 true),(0,.box (cC24 3 r.2) 96)]⟩:=by
 refine eFn func63 rfl (fun E F w=>?_)
 unfold z63 at h
 refine wO J 7 h fun d e h=>eCl (z62_ct N c _ e) [] [(0,.bp 0 0),(1,.sl 1)] (eBs J [] oS ([d.1]:List ByteArray) (wa J 3 (eCut (σ:=(List T14) × Int × Int × Int × Int × (List ByteArray)) (fun st=>⟨[(3,.S 5)],[(0,.box [.sl 4,.I st.2.1,.I st.2.2.1,.I st.2.2.2.1,.I st.2.2.2.2.1] 96),(5,.own rS st.2.2.2.2.2 true)],[(1,.sl rR14 c.l'),(4,.sl rR14 st.1)],6⟩) (fun st=>z63_k1 st.1 st.2.1 st.2.2.1 st.2.2.2.1 st.2.2.2.2.1 st.2.2.2.2.2=some r) ?_ (fun j1=>?_))))
 ·rintro ⟨vbk0_0_0_1,vbk0_0_1_1,vbk0_0_2_1,vbk0_0_3_1,vbk0_0_4_1,f⟩ h
  unfold z63_k1 at h
  exact oi h▸wr J 5 func63 [(2,.sl 5),(3,.sl 4)]
 refine wa J 1 (eLoop (σ:=(List T14) × Int × Int × Int × Int × (List ByteArray)) (fun st=>⟨[(0,.B 0 0),(3,.S 5)],[(0,.box [.sl 4,.I st.2.1,.I st.2.2.1,.I st.2.2.2.1,.I st.2.2.2.2.1] 96),(5,.own rS st.2.2.2.2.2 true)],[(1,.sl rR14 c.l'),(4,.sl rR14 st.1)],6⟩) (fun n st=>z63_l2 N n st.1 st.2.1 st.2.2.1 st.2.2.2.1 st.2.2.2.2.1 st.2.2.2.2.2) (r:=r) (fun _=>rfl) ?_ (fun ih=>?_))
 ·intro n2 ih3
  rintro ⟨vbk0_0_0_3,vbk0_0_1_3,vbk0_0_2_3,vbk0_0_3_3,vbk0_0_4_3,g⟩ h
  unfold z63_l2 at h
  refine wO J 4 h fun i j h=>eCl (z64_ct N (⟨vbk0_0_0_3,vbk0_0_1_3,vbk0_0_2_3,vbk0_0_3_3,vbk0_0_4_3⟩:T24) (str [44]) _ j) [] [(0,.bp 0 0),(1,.sl 4)] ?_
  refine wB' J 1 h (fun h=>wa J 2 (eSub [(4,.sl 6)] (j1 (i.2.l',i.2.n',i.2.end',i.2.at',i.2.err',g) h))) fun h=>?_
  refine wO J 6 h fun k l h=>eCl (z62_ct N i.2 _ l) [] [(0,.bp 0 0),(1,.sl 6)] (eBs J [] oS ([k.1]:List ByteArray) ?_)
  obtain ⟨m,o,h⟩:=ob h
  exact eAp J rS o (wa J 3 (eSub [(4,.sl 7),(5,.sl 9)] (ih3 (k.2.l',k.2.n',k.2.end',k.2.at',k.2.err',m) h)))
 exact eSub [(4,.sl 2),(5,.sl 3)] (ih N (d.2.l',d.2.n',d.2.end',d.2.at',d.2.err',([d.1]:List ByteArray)) h)
theorem z120_ct (N:Nat) (d:T24) (r:ByteArray × T24) (h:z120 N d=some r) :
 Fn Tryz.prog 120 ⟨2,[.B 0 0],[(1,.sl rR14 d.l')],[(0,.box (cC24 1 d) 96)],3,.c (.s r.1),[(2,.sl rR14 r.2.l')],[(0,.box (cC24 2 r.2) 96)]⟩:=by
 refine eFn func120 rfl (fun E F w=>?_)
 unfold z120 at h
 refine wO J 7 h fun e f h=>eCl (z62_ct N d _ f) [] [(0,.bp 0 0),(1,.sl 1)] (wa J 3 (eCut (σ:=(List T14) × Int × Int × Int × Int × ByteArray) (fun st=>⟨[(3,.c (.s st.2.2.2.2.2))],[(0,.box [.sl 3,.I st.2.1,.I st.2.2.1,.I st.2.2.2.1,.I st.2.2.2.2.1] 96)],[(1,.sl rR14 d.l'),(3,.sl rR14 st.1)],4⟩) (fun st=>z120_k1 st.1 st.2.1 st.2.2.1 st.2.2.2.1 st.2.2.2.2.1 st.2.2.2.2.2=some r) ?_ (fun j1=>?_)))
 ·rintro ⟨vbk0_0_0_1,vbk0_0_1_1,vbk0_0_2_1,vbk0_0_3_1,vbk0_0_4_1,g⟩ h
  unfold z120_k1 at h
  exact oi h▸wr J 5 func120 [(2,.sl 3)]
 refine wa J 1 (eLoop (σ:=(List T14) × Int × Int × Int × Int × ByteArray) (fun st=>⟨[(0,.B 0 0),(3,.c (.s st.2.2.2.2.2))],[(0,.box [.sl 3,.I st.2.1,.I st.2.2.1,.I st.2.2.2.1,.I st.2.2.2.2.1] 96)],[(1,.sl rR14 d.l'),(3,.sl rR14 st.1)],4⟩) (fun n st=>z120_l2 N n st.1 st.2.1 st.2.2.1 st.2.2.2.1 st.2.2.2.2.1 st.2.2.2.2.2) (r:=r) (fun _=>rfl) ?_ (fun ih=>?_))
 ·intro n2 ih3
  rintro ⟨vbk0_0_0_3,vbk0_0_1_3,vbk0_0_2_3,vbk0_0_3_3,vbk0_0_4_3,i⟩ h
  unfold z120_l2 at h
  refine wO J 4 h fun j k h=>eCl (z64_ct N (⟨vbk0_0_0_3,vbk0_0_1_3,vbk0_0_2_3,vbk0_0_3_3,vbk0_0_4_3⟩:T24) (str [46]) _ k) [] [(0,.bp 0 0),(1,.sl 3)] ?_
  refine wB' J 1 h (fun h=>wa J 2 (eSub [(3,.sl 4)] (j1 (j.2.l',j.2.n',j.2.end',j.2.at',j.2.err',i) h))) fun h=>?_
  refine wO J 6 h fun l m h=>eCl (z62_ct N j.2 _ m) [] [(0,.bp 0 0),(1,.sl 4)] ?_
  obtain ⟨o,p,h⟩:=ob h
  refine eCa p ?_
  obtain ⟨q,t,h⟩:=ob h
  exact eCa t (wa J 3 (eSub [(3,.sl 5)] (ih3 (l.2.l',l.2.n',l.2.end',l.2.at',l.2.err',q) h)))
 exact eSub [(3,.sl 2)] (ih N (e.2.l',e.2.n',e.2.end',e.2.at',e.2.err',e.1) h)
theorem z184_ct (N:Nat) (c:T24) (r:Int × T24) (h:z184 N c=some r) :
 Fn Tryz.prog 184 ⟨2,[.B 0 0],[(1,.sl rR14 c.l')],[(0,.box (cC24 1 c) 96)],3,.I r.1,[(2,.sl rR14 r.2.l')],[(0,.box (cC24 2 r.2) 96)]⟩:=by
 refine eFn func184 rfl (fun E F w=>?_)
 unfold z184 at h
 refine wO J 7 h fun d e h=>eCl (z118_ct N c _ e) [] [(0,.bp 0 0),(1,.sl 1)] ?_
 refine wB' J 10 h (fun h=>oi h▸wr J 19 func184 [(2,.sl 1)]) fun h=>?_
 refine wO J 4 h fun f g h=>eCl (z117_ct N c 3 _ g) [] [(0,.bp 0 0),(1,.sl 1)] ?_
 exact oi h▸wr J 5 func184 [(2,.sl 3)]
theorem z183_ct (N:Nat) (c:T24) (r:Int × T24) (h:z183 N c=some r) :
 Fn Tryz.prog 183 ⟨2,[.B 0 0],[(1,.sl rR14 c.l')],[(0,.box (cC24 1 c) 96)],3,.I r.1,[(2,.sl rR14 r.2.l')],[(0,.box (cC24 2 r.2) 96)]⟩:=by
 refine eFn func183 rfl (fun E F w=>?_)
 unfold z183 at h
 refine wO J 8 h fun d e h=>eCl (z64_ct N c (str [45]) _ e) [] [(0,.bp 0 0),(1,.sl 1)] ?_
 refine wB J 1 h (fun h=>?_) fun h=>?_
 ·refine wO J 4 h fun f g h=>eCl (z184_ct N d.2 _ g) [] [(0,.bp 0 0),(1,.sl 2)] ?_
  exact oi h▸wr J 3 func183 [(2,.sl 3)]
 refine wO J 5 h fun i j h=>eCl (z184_ct N d.2 _ j) [] [(0,.bp 0 0),(1,.sl 2)] ?_
 exact oi h▸wr J 2 func183 [(2,.sl 3)]
theorem z121_ct (N:Nat) (c:T24) (r:T4 × T24) (h:z121 N c=some r) :
 Fn Tryz.prog 121 ⟨2,[.B 0 0],[(1,.sl rR14 c.l')],[(0,.box (cC24 1 c) 96)],3,.a (cC4 r.1),[(2,.sl rR14 r.2.l')],[(0,.box (cC24 2 r.2) 96)]⟩:=by
 refine eFn func121 rfl (fun E F w=>?_)
 unfold z121 at h
 refine wO J 7 h fun d e h=>eCl (z62_ct N c _ e) [] [(0,.bp 0 0),(1,.sl 1)] ?_
 refine wO J 7 h fun f g h=>eCl (z61_ct N d.2 (str [58]) _ g) [] [(0,.bp 0 0),(1,.sl 3)] ?_
 refine wO J 17 h fun i j h=>eCl (z64_ct N f (str [105,110,116]) _ j) [] [(0,.bp 0 0),(1,.sl 5)] ?_
 refine wB' J 2 h (fun h=>?_) fun h=>?_
 ·refine wO J 5 h fun k l h=>eCl (z183_ct N i.2 _ l) [] [(0,.bp 0 0),(1,.sl 6)] ?_
  refine wO J 7 h fun m o h=>eCl (z61_ct N k.2 (str [46,46]) _ o) [] [(0,.bp 0 0),(1,.sl 7)] ?_
  refine wO J 4 h fun p q h=>eCl (z183_ct N m _ q) [] [(0,.bp 0 0),(1,.sl 8)] ?_
  exact oi h▸wr J 9 func121 [(2,.sl 9)]
 refine wO J 4 h fun s t h=>eCl (z61_ct N i.2 (str [116,101,120,116]) _ t) [] [(0,.bp 0 0),(1,.sl 6)] ?_
 refine wO J 15 h fun u v h=>eCl (z184_ct N s _ v) [] [(0,.bp 0 0),(1,.sl 7)] ?_
 refine wO J 7 h fun x y h=>eCl (z61_ct N u.2 (str [46,46]) _ y) [] [(0,.bp 0 0),(1,.sl 8)] ?_
 refine wO J 4 h fun z A h=>eCl (z184_ct N x _ A) [] [(0,.bp 0 0),(1,.sl 9)] ?_
 exact oi h▸wr J 9 func121 [(2,.sl 10)]
theorem z243_ct (N:Nat) (d:ByteArray) (e:Int) (r:Int) (h:z243 N d e=some r) :
 Fn Tryz.prog 243 ⟨0,[.c (.s d),.c (.i .u8 e)],[],[],0,.I r,[],[]⟩:=by
 refine eFn func243 rfl (fun E F w=>?_)
 unfold z243 at h
 refine wa J 12 (eCut (σ:=Unit) (fun st=>(zz0 [])) (fun st=>z243_k1=some r) ?_ (fun j1=>?_))
 ·intro _ h
  unfold z243_k1 at h
  exact oi h▸wr J 4 func243 []
 refine wa J 1 (eLoop (σ:=Int) (fun st=>(zz0 [(0,.c (.s d)),(1,.c (.i .u8 e)),(5,.I st)])) (fun n st=>z243_l2 d e n st) (r:=r) (fun _=>rfl) ?_ (fun ih=>?_))
 ·intro n2 ih3
  intro f h
  unfold z243_l2 at h
  refine wB' J 6 h (fun h=>wa J 2 (eSub [] (j1 () h))) fun h=>?_
  refine wO J 8 h fun g j h=>eSx J j ?_
  exact wB J 3 h (fun h=>oi h▸wr J 6 func243 []) fun h=>wa J 8 (eSub [] (ih3 (w64 (f-1)) h))
 exact eSub [] (ih N (w64 ((d.size:Int)-1)) h)
theorem z226_ct (N:Nat) (d:ByteArray) (e:Int) (r:Int) (h:z226 N d e=some r) :
 Fn Tryz.prog 226 ⟨0,[.c (.s d),.c (.i .u8 e)],[],[],0,.I r,[],[]⟩:=by
 refine eFn func226 rfl (fun E F w=>?_)
 unfold z226 at h
 refine wO J 8 h fun f g h=>eCl (z243_ct N d e _ g) [] [] ?_
 exact oi h▸wr J 2 func226 []
theorem z185_ct (N:Nat) (d:T24) (r:T23 × T24) (h:z185 N d=some r) :
 Fn Tryz.prog 185 ⟨2,[.B 0 0],[(1,.sl rR14 d.l')],[(0,.box (cC24 1 d) 96)],3,.a (cC23 r.1),[(2,.sl rR14 r.2.l')],[(0,.box (cC24 2 r.2) 96)]⟩:=by
 refine eFn func185 rfl (fun E F w=>?_)
 unfold z185 at h
 refine wO J 8 h fun e f h=>eCl (z119_ct N d (str [45]) _ f) [] [(0,.bp 0 0),(1,.sl 1)] ?_
 refine wB J 1 h (fun h=>?_) fun h=>?_
 ·refine wO J 10 h fun g i h=>eCl (z183_ct N d _ i) [] [(0,.bp 0 0),(1,.sl 1)] ?_
  exact oi h▸wr J 3 func185 [(2,.sl 3)]
 refine wO J 1 h fun j k h=>eCl (z118_ct N d _ k) [] [(0,.bp 0 0),(1,.sl 1)] ?_
 refine wB J 4 h (fun h=>?_) fun h=>?_
 ·refine wO J 4 h fun l m h=>eCl (z183_ct N d _ m) [] [(0,.bp 0 0),(1,.sl 1)] ?_
  exact oi h▸wr J 3 func185 [(2,.sl 3)]
 refine wO J 16 h fun o p h=>eCl (z64_ct N d (str [108,101,110]) _ p) [] [(0,.bp 0 0),(1,.sl 1)] (wa J 1 (eCut (σ:=(List T14) × Int × Int × Int × Int × Int × ByteArray) (fun st=>⟨[(0,.B 0 0),(2,.B 2 0),(3,.B 3 0),(4,.c (.s st.2.2.2.2.2.2))],[(0,.box [.sl 5,.I st.2.1,.I st.2.2.1,.I st.2.2.2.1,.I st.2.2.2.2.1] 96),(2,.box [.I 0,.s (str []),.s (str []),.I 0] 204),(3,.box [.I st.2.2.2.2.2.1,.s (str []),.s (str []),.I 0] 204)],[(1,.sl rR14 d.l'),(5,.sl rR14 st.1)],6⟩) (fun st=>z185_k2 N st.1 st.2.1 st.2.2.1 st.2.2.2.1 st.2.2.2.2.1 st.2.2.2.2.2.1 st.2.2.2.2.2.2=some r) ?_ (fun j1=>?_)))
 ·rintro ⟨vbk0_0_0_1,vbk0_0_1_1,vbk0_0_2_1,vbk0_0_3_1,vbk0_0_4_1,q,t⟩ h
  unfold z185_k2 at h
  refine wO J 10 h fun u v h=>eCl (z226_ct N t 46 _ v) [] [] (wa J 7 (eCut (σ:=ByteArray × ByteArray) (fun st=>⟨[(0,.B 0 0),(2,.B 2 0),(3,.B 3 0)],[(0,.box [.sl 5,.I vbk0_0_1_1,.I vbk0_0_2_1,.I vbk0_0_3_1,.I vbk0_0_4_1] 96),(2,.box [.I 0,.s (str []),.s (str []),.I 0] 204),(3,.box [.I q,.s st.1,.s st.2,.I 0] 204)],[(1,.sl rR14 d.l'),(5,.sl rR14 vbk0_0_0_1)],6⟩) (fun st=>z185_k1 N vbk0_0_0_1 vbk0_0_1_1 vbk0_0_2_1 vbk0_0_3_1 vbk0_0_4_1 q st.1 st.2=some r) ?_ (fun j2=>?_)))
  ·rintro ⟨x,y⟩ h
   unfold z185_k1 at h
   refine wO J 4 h fun z A h=>eCl (z64_ct N (⟨vbk0_0_0_1,vbk0_0_1_1,vbk0_0_2_1,vbk0_0_3_1,vbk0_0_4_1⟩:T24) (str [43]) _ A) [] [(0,.bp 0 0),(1,.sl 5)] ?_
   refine wB J 1 h (fun h=>?_) fun h=>?_
   ·refine wO J 3 h fun C D h=>eCl (z184_ct N z.2 _ D) [] [(0,.bp 0 0),(1,.sl 6)] ?_
    exact oi h▸wr J 8 func185 [(2,.sl 7)]
   refine wO J 4 h fun G H h=>eCl (z64_ct N z.2 (str [45]) _ H) [] [(0,.bp 0 0),(1,.sl 6)] ?_
   refine wB' J 1 h (fun h=>oi h▸wr J 7 func185 [(2,.sl 7)]) fun h=>?_
   refine wO J 3 h fun R T h=>eCl (z184_ct N G.2 _ T) [] [(0,.bp 0 0),(1,.sl 7)] ?_
   exact oi h▸wr J 9 func185 [(2,.sl 8)]
  refine eB' h (fun h=>wa J 2 (eSub [] (j2 ((str []),t) h))) fun h=>?_
  refine wO J 4 h fun U X h=>eSs J X ?_
  exact wO J 3 h fun Y Z h=>eSs J Z (wa J 4 (eEnd (eSub [] (j2 (U,Y) h))))
 refine eB' h (fun h=>?_) fun h=>?_
 ·exact wO J 3 h fun a0 b0 h=>eCl (z120_ct N o.2 _ b0) [] [(0,.bp 0 0),(1,.sl 4)] (wa J 2 (eSub [] (j1 (a0.2.l',a0.2.n',a0.2.end',a0.2.at',a0.2.err',2,a0.1) h)))
 refine wO J 9 h fun c0 d0 h=>eCl (z61_ct N o.2 (str [40]) _ d0) [] [(0,.bp 0 0),(1,.sl 4)] ?_
 refine wO J 4 h fun e0 f0 h=>eCl (z120_ct N c0 _ f0) [] [(0,.bp 0 0),(1,.sl 5)] ?_
 exact wO J 4 h fun g0 i0 h=>eCl (z61_ct N e0.2 (str [41]) _ i0) [] [(0,.bp 0 0),(1,.sl 6)] (wa J 1 (eSub [(5,.sl 7)] (j1 (g0.l',g0.n',g0.end',g0.at',g0.err',3,e0.1) h)))
theorem z130_ct (N:Nat) (r:(List ByteArray)) (h:z130 N=some r) :
 Fn Tryz.prog 130 ⟨0,[],[],[],1,.S 0,[],[(0,.own rS r true)]⟩:=by
 refine eFn func130 rfl (fun E F w=>?_)
 unfold z130 at h
 refine wa J 6 (eBs J [] oS ([(str [60]),(str [60,61]),(str [61,61]),(str [62,61]),(str [62])]:List ByteArray) ?_)
 exact oi h▸wr J 2 func130 [(0,.sl 0)]
theorem z122_ct (N:Nat) (c:T24) (r:T19 × T24) (h:z122 N c=some r) :
 Fn Tryz.prog 122 ⟨2,[.B 0 0],[(1,.sl rR14 c.l')],[(0,.box (cC24 1 c) 96)],3,.a (cC19 r.1),[(2,.sl rR14 r.2.l')],[(0,.box (cC24 2 r.2) 96)]⟩:=by
 refine eFn func122 rfl (fun E F w=>?_)
 unfold z122 at h
 refine wO J 7 h fun d e h=>eCl (z185_ct N c _ e) [] [(0,.bp 0 0),(1,.sl 1)] ?_
 refine wO J 8 h fun f g h=>eCl (z118_ct N d.2 _ g) [] [(0,.bp 0 0),(1,.sl 3)] ?_
 refine wB' J 9 h (fun h=>wa J 5 (eEnd ?_)) fun h=>?_
 ·refine wO J 3 h fun i j h=>eCl (z117_ct N d.2 3 _ j) [] [(0,.bp 0 0),(1,.sl 3)] ?_
  refine wO J 4 h fun k l h=>eCl (z185_ct N i _ l) [] [(0,.bp 0 0),(1,.sl 6)] ?_
  exact oi h▸wr J 8 func122 [(2,.sl 7)]
 obtain ⟨m,o,h⟩:=ob h
 refine eCl (z130_ct N _ o) [] [] ?_
 refine wO J 2 h fun p q h=>eCb (z123_ct N m f.Text _ q) [] [(0,.sl 6)] [6] (.inr ⟨rfl,trivial⟩) (wa J 1 (eEnd ?_))
 refine eB h (fun h=>?_) fun h=>?_
 ·refine wO J 21 h fun s t h=>eCl (z185_ct N (⟨d.2.l',(w64 (d.2.n'+1)),d.2.end',d.2.at',d.2.err'⟩:T24) _ t) [] [(0,.bp 0 0),(1,.sl 3)] ?_
  exact oi h▸wr J 8 func122 [(2,.sl 7)]
 refine wO J 3 h fun u v h=>eCl (z117_ct N d.2 3 _ v) [] [(0,.bp 0 0),(1,.sl 3)] ?_
 refine wO J 4 h fun x y h=>eCl (z185_ct N u _ y) [] [(0,.bp 0 0),(1,.sl 7)] ?_
 exact oi h▸wr J 8 func122 [(2,.sl 8)]
theorem z65_ct (N:Nat) (c:T24) (r:T21 × T24) (h:z65 N c=some r) :
 Fn Tryz.prog 65 ⟨2,[.B 0 0],[(1,.sl rR14 c.l')],[(0,.box (cC24 1 c) 96)],5,.a (cC21 2 3 r.1),(vV21 2 3 r.1 [(4,.sl rR14 r.2.l')]),[(0,.box (cC24 4 r.2) 96)]⟩:=by
 refine eFn func65 rfl (fun E F w=>?_)
 unfold z65 at h
 refine wO J 7 h fun d e h=>eCl (z120_ct N c _ e) [] [(0,.bp 0 0),(1,.sl 1)] ?_
 refine wO J 7 h fun f g h=>eCl (z61_ct N d.2 (str [40]) _ g) [] [(0,.bp 0 0),(1,.sl 3)] ?_
 refine wO J 5 h fun i j h=>eCl (z64_ct N f (str [41]) _ j) [] [(0,.bp 0 0),(1,.sl 5)] (wa J 2 (eCut (σ:=(List T14) × Int × Int × Int × Int × (List T4)) (fun st=>⟨[(0,.B 0 0),(2,.B 2 0),(3,.B 4 0)],[(0,.box [.sl 7,.I st.2.1,.I st.2.2.1,.I st.2.2.2.1,.I st.2.2.2.2.1] 96),(2,.box [.s (str []),.nil,.nil] 45),(4,.box [.s d.1,.sl 8,.nil] 45),(8,.own rR4 st.2.2.2.2.2 true)],[(1,.sl rR14 c.l'),(7,.sl rR14 st.1)],9⟩) (fun st=>z65_k3 N d st.1 st.2.1 st.2.2.1 st.2.2.2.1 st.2.2.2.2.1 st.2.2.2.2.2=some r) ?_ (fun j1=>?_)))
 ·rintro ⟨vbk0_0_0_1,vbk0_0_1_1,vbk0_0_2_1,vbk0_0_3_1,vbk0_0_4_1,k⟩ h
  unfold z65_k3 at h
  refine wO J 4 h fun l m h=>eCl (z64_ct N (⟨vbk0_0_0_1,vbk0_0_1_1,vbk0_0_2_1,vbk0_0_3_1,vbk0_0_4_1⟩:T24) (str [119,104,101,114,101]) _ m) [] [(0,.bp 0 0),(1,.sl 7)] ?_
  refine wB' J 1 h (fun h=>?_) fun h=>?_
  ·refine wO J 5 h fun o p h=>eCl (z61_ct N l.2 (str [59]) _ p) [] [(0,.bp 0 0),(1,.sl 9)] (wa J 6 (eFr [8] ?_))
   cases h
   exact eRet J func65 [(2,.sl 8),(3,.nil),(4,.sl 10)]
  refine wO J 6 h fun q t h=>eCl (z122_ct N l.2 _ t) [] [(0,.bp 0 0),(1,.sl 9)] (eBs J [] oO19 ([q.1]:List T19) ?_)
  obtain ⟨u,v,h⟩:=ob h
  refine eAn J rR19 v (wa J 2 (eEnd (eCut (σ:=(List T14) × Int × Int × Int × Int × (List T19)) (fun st=>(zz36 st.2.1 st.2.2.1 st.2.2.2.1 st.2.2.2.2.1 d.1 k st.2.2.2.2.2 c.l' st.1 [(0,.B 0 0),(2,.B 2 0),(3,.B 4 0)])) (fun st=>z65_k1 N d k st.1 st.2.1 st.2.2.1 st.2.2.2.1 st.2.2.2.2.1 st.2.2.2.2.2=some r) ?_ (fun j5=>?_))))
  ·rintro ⟨vbk0_0_0_5,vbk0_0_1_5,vbk0_0_2_5,vbk0_0_3_5,vbk0_0_4_5,x⟩ h
   unfold z65_k1 at h
   refine wO J 3 h fun y z h=>eCl (z61_ct N (⟨vbk0_0_0_5,vbk0_0_1_5,vbk0_0_2_5,vbk0_0_3_5,vbk0_0_4_5⟩:T24) (str [59]) _ z) [] [(0,.bp 0 0),(1,.sl 13)] (wa J 6 (eFr [8] (eFr [14] ?_)))
   cases h
   exact eRet J func65 [(2,.sl 8),(3,.sl 14),(4,.sl 15)]
  refine wa J 1 (eLoop (σ:=(List T14) × Int × Int × Int × Int × (List T19)) (fun st=>(zz36 st.2.1 st.2.2.1 st.2.2.2.1 st.2.2.2.2.1 d.1 k st.2.2.2.2.2 c.l' st.1 [(0,.B 0 0),(2,.B 2 0),(3,.B 4 0)])) (fun n st=>z65_l2 N d k n st.1 st.2.1 st.2.2.1 st.2.2.2.1 st.2.2.2.2.1 st.2.2.2.2.2) (r:=r) (fun _=>rfl) ?_ (fun ih=>?_))
  ·intro n4 ih7
   rintro ⟨vbk0_0_0_7,vbk0_0_1_7,vbk0_0_2_7,vbk0_0_3_7,vbk0_0_4_7,A⟩ h
   unfold z65_l2 at h
   refine wO J 4 h fun C D h=>eCl (z64_ct N (⟨vbk0_0_0_7,vbk0_0_1_7,vbk0_0_2_7,vbk0_0_3_7,vbk0_0_4_7⟩:T24) (str [97,110,100]) _ D) [] [(0,.bp 0 0),(1,.sl 13)] ?_
   refine wB' J 1 h (fun h=>wa J 2 (eSub [(13,.sl 15)] (j5 (C.2.l',C.2.n',C.2.end',C.2.at',C.2.err',A) h))) fun h=>?_
   refine wO J 7 h fun G H h=>eCl (z122_ct N C.2 _ H) [] [(0,.bp 0 0),(1,.sl 15)] (eBs J [] oO19 ([G.1]:List T19) ?_)
   obtain ⟨R,T,h⟩:=ob h
   exact eAp J rR19 T (wa J 2 (eEnd (wa J 1 (eSub [(13,.sl 16),(14,.sl 18)] (ih7 (G.2.l',G.2.n',G.2.end',G.2.at',G.2.err',R) h)))))
  exact eSub [(13,.sl 10),(14,.sl 12)] (ih N (q.2.l',q.2.n',q.2.end',q.2.at',q.2.err',u) h)
 refine eB' h (fun h=>wa J 2 (eSub [(7,.sl 6),(8,.nil)] (j1 (i.2.l',i.2.n',i.2.end',i.2.at',i.2.err',([]:List T4)) h))) fun h=>?_
 refine wO J 6 h fun U X h=>eCl (z121_ct N i.2 _ X) [] [(0,.bp 0 0),(1,.sl 6)] (eBs J [] oO4 ([U.1]:List T4) ?_)
 obtain ⟨Y,Z,h⟩:=ob h
 refine eAn J rR4 Z (wa J 2 (eEnd (wa J 1 (eCut (σ:=(List T14) × Int × Int × Int × Int × (List T4)) (fun st=>(zz37 st.2.1 st.2.2.1 st.2.2.2.1 st.2.2.2.2.1 d.1 st.2.2.2.2.2 c.l' st.1 [(0,.B 0 0),(2,.B 2 0),(3,.B 4 0)])) (fun st=>z65_k4 N d st.1 st.2.1 st.2.2.1 st.2.2.2.1 st.2.2.2.2.1 st.2.2.2.2.2=some r) ?_ (fun j8=>?_)))))
 ·rintro ⟨vbk0_0_0_8,vbk0_0_1_8,vbk0_0_2_8,vbk0_0_3_8,vbk0_0_4_8,a0⟩ h
  unfold z65_k4 at h
  exact wO J 2 h fun b0 c0 h=>eCl (z61_ct N (⟨vbk0_0_0_8,vbk0_0_1_8,vbk0_0_2_8,vbk0_0_3_8,vbk0_0_4_8⟩:T24) (str [41]) _ c0) [] [(0,.bp 0 0),(1,.sl 10)] (wa J 1 (eSub [(7,.sl 12),(8,.sl 11)] (j1 (b0.l',b0.n',b0.end',b0.at',b0.err',a0) h)))
 refine wa J 1 (eLoop (σ:=(List T14) × Int × Int × Int × Int × (List T4)) (fun st=>(zz37 st.2.1 st.2.2.1 st.2.2.2.1 st.2.2.2.2.1 d.1 st.2.2.2.2.2 c.l' st.1 [(0,.B 0 0),(2,.B 2 0),(3,.B 4 0)])) (fun n st=>z65_l5 N d n st.1 st.2.1 st.2.2.1 st.2.2.2.1 st.2.2.2.2.1 st.2.2.2.2.2) (r:=r) (fun _=>rfl) ?_ (fun ih=>?_))
 ·intro n6 ih10
  rintro ⟨vbk0_0_0_10,vbk0_0_1_10,vbk0_0_2_10,vbk0_0_3_10,vbk0_0_4_10,d0⟩ h
  unfold z65_l5 at h
  refine wO J 4 h fun e0 f0 h=>eCl (z64_ct N (⟨vbk0_0_0_10,vbk0_0_1_10,vbk0_0_2_10,vbk0_0_3_10,vbk0_0_4_10⟩:T24) (str [44]) _ f0) [] [(0,.bp 0 0),(1,.sl 10)] ?_
  refine wB' J 1 h (fun h=>wa J 2 (eSub [(10,.sl 12)] (j8 (e0.2.l',e0.2.n',e0.2.end',e0.2.at',e0.2.err',d0) h))) fun h=>?_
  refine wO J 7 h fun g0 i0 h=>eCl (z121_ct N e0.2 _ i0) [] [(0,.bp 0 0),(1,.sl 12)] (eBs J [] oO4 ([g0.1]:List T4) ?_)
  obtain ⟨j0,k0,h⟩:=ob h
  exact eAp J rR4 k0 (wa J 2 (eEnd (wa J 1 (eSub [(10,.sl 13),(11,.sl 15)] (ih10 (g0.2.l',g0.2.n',g0.2.end',g0.2.at',g0.2.err',j0) h)))))
 exact eSub [(10,.sl 7),(11,.sl 9)] (ih N (U.2.l',U.2.n',U.2.end',U.2.at',U.2.err',Y) h)
theorem z188_ct (N:Nat) (rc:T24→Option ((List T20) × T24)) (rc_Psyntax_parser_items_ct:(∀ (c:T24) (r:(List T20) × T24),rc c=some r→Fn Tryz.prog 66 ⟨2,[.B 0 0],[(1,.sl rR14 c.l')],[(0,.box (cC24 1 c) 96)],4,.S 2,[(3,.sl rR14 r.2.l')],[(2,.own rR20 r.1 true),(0,.box (cC24 3 r.2) 96)]⟩)) (c:T24) (r:(List T20) × T24) (h:z188 N rc c=some r) :
 Fn Tryz.prog 188 ⟨2,[.B 0 0],[(1,.sl rR14 c.l')],[(0,.box (cC24 1 c) 96)],4,.S 2,[(3,.sl rR14 r.2.l')],[(2,.own rR20 r.1 true),(0,.box (cC24 3 r.2) 96)]⟩:=by
 refine eFn func188 rfl (fun E F w=>?_)
 unfold z188 at h
 refine wO J 7 h fun d e h=>eCl (z61_ct N c (str [123]) _ e) [] [(0,.bp 0 0),(1,.sl 1)] ?_
 refine wO J 4 h fun f g h=>eCl (rc_Psyntax_parser_items_ct d _ g) [] [(0,.bp 0 0),(1,.sl 2)] ?_
 refine wO J 5 h fun i j h=>eCl (z61_ct N f.2 (str [125]) _ j) [] [(0,.bp 0 0),(1,.sl 4)] ?_
 exact oi h▸wr J 6 func188 [(2,.sl 3),(3,.sl 5)]
theorem z187_ct (N:Nat) (rc:T24→Option ((List T20) × T24)) (rc_Psyntax_parser_items_ct:(∀ (c:T24) (r:(List T20) × T24),rc c=some r→Fn Tryz.prog 66 ⟨2,[.B 0 0],[(1,.sl rR14 c.l')],[(0,.box (cC24 1 c) 96)],4,.S 2,[(3,.sl rR14 r.2.l')],[(2,.own rR20 r.1 true),(0,.box (cC24 3 r.2) 96)]⟩)) (c:T24) (r:T20 × T24) (h:z187 N rc c=some r) :
 Fn Tryz.prog 187 ⟨2,[.B 0 0],[(1,.sl rR14 c.l')],[(0,.box (cC24 1 c) 96)],5,.a [.I r.1.Kind,.s r.1.From,.sl 2,.s r.1.Name,.s r.1.As,.I r.1.Ticks,.sl 3],[(2,.sl rS r.1.To),(3,.sl (rSl rR20) r.1.Blocks),(4,.sl rR14 r.2.l')],[(0,.box (cC24 4 r.2) 96)]⟩:=by
 refine eFn func187 rfl (fun E F w=>?_)
 unfold z187 at h
 refine wO J 7 h fun d e h=>eCl (z61_ct N c (str [97,116]) _ e) [] [(0,.bp 0 0),(1,.sl 1)] ?_
 refine wO J 4 h fun f g h=>eCl (z62_ct N d _ g) [] [(0,.bp 0 0),(1,.sl 3)] ?_
 refine wO J 8 h fun i j h=>eCl (z64_ct N f.2 (str [119,105,116,104,105,110]) _ j) [] [(0,.bp 0 0),(1,.sl 4)] (wa J 1 (eCut (σ:=(List T14) × Int × Int × Int × Int × Int) (fun st=>⟨[(0,.B 0 0),(2,.B 2 0),(3,.B 5 0)],[(0,.box [.sl 7,.I st.2.1,.I st.2.2.1,.I st.2.2.2.1,.I st.2.2.2.2.1] 96),(2,.box [.I 0,.s (str []),.nil,.s (str []),.s (str []),.I 0,.nil] 210),(5,.box [.I 2,.s f.1,.nil,.s (str []),.s (str []),.I st.2.2.2.2.2,.nil] 210)],[(1,.sl rR14 c.l'),(7,.sl rR14 st.1)],8⟩) (fun st=>z187_k3 N rc f st.1 st.2.1 st.2.2.1 st.2.2.2.1 st.2.2.2.2.1 st.2.2.2.2.2=some r) ?_ (fun j1=>?_)))
 ·rintro ⟨vbk0_0_0_1,vbk0_0_1_1,vbk0_0_2_1,vbk0_0_3_1,vbk0_0_4_1,k⟩ h
  unfold z187_k3 at h
  refine wO J 3 h fun l m h=>eCl (z188_ct N rc rc_Psyntax_parser_items_ct (⟨vbk0_0_0_1,vbk0_0_1_1,vbk0_0_2_1,vbk0_0_3_1,vbk0_0_4_1⟩:T24) _ m) [] [(0,.bp 0 0),(1,.sl 7)] (eBs J [8] (oSl rR20) ([l.1]:List (List T20)) (wa J 4 (eCut (σ:=(List T14) × Int × Int × Int × Int × (List (List T20))) (fun st=>(zz38 st.2.1 st.2.2.1 st.2.2.2.1 st.2.2.2.2.1 f.1 k st.2.2.2.2.2 c.l' st.1 [(0,.B 0 0),(2,.B 2 0),(3,.B 5 0)])) (fun st=>z187_k1 N rc f k st.1 st.2.1 st.2.2.1 st.2.2.2.1 st.2.2.2.2.1 st.2.2.2.2.2=some r) ?_ (fun j2=>?_))))
  ·rintro ⟨vbk0_0_0_2,vbk0_0_1_2,vbk0_0_2_2,vbk0_0_3_2,vbk0_0_4_2,o⟩ h
   unfold z187_k1 at h
   refine wB' J 7 h (fun h=>wa J 7 (eFr [12] ?_)) fun h=>?_
   ·cases h
    exact eRet J func187 [(2,.nil),(3,.sl 12),(4,.sl 11)]
   refine wO J 4 h fun p q h=>eCl (z61_ct N (⟨vbk0_0_0_2,vbk0_0_1_2,vbk0_0_2_2,vbk0_0_3_2,vbk0_0_4_2⟩:T24) (str [101,108,115,101]) _ q) [] [(0,.bp 0 0),(1,.sl 11)] ?_
   refine wO J 5 h fun t u h=>eCl (z188_ct N rc rc_Psyntax_parser_items_ct p _ u) [] [(0,.bp 0 0),(1,.sl 13)] (eBs J [14] (oSl rR20) ([t.1]:List (List T20)) ?_)
   obtain ⟨v,x,h⟩:=ob h
   refine eAp J (rSl rR20) x (wa J 2 (eEnd (wa J 5 (eFr [17] ?_))))
   cases h
   exact eRet J func187 [(2,.nil),(3,.sl 17),(4,.sl 15)]
  refine wa J 1 (eLoop (σ:=(List T14) × Int × Int × Int × Int × (List (List T20))) (fun st=>(zz38 st.2.1 st.2.2.1 st.2.2.2.1 st.2.2.2.2.1 f.1 k st.2.2.2.2.2 c.l' st.1 [(0,.B 0 0),(2,.B 2 0),(3,.B 5 0)])) (fun n st=>z187_l2 N rc f k n st.1 st.2.1 st.2.2.1 st.2.2.2.1 st.2.2.2.2.1 st.2.2.2.2.2) (r:=r) (fun _=>rfl) ?_ (fun ih=>?_))
  ·intro n2 ih4
   rintro ⟨vbk0_0_0_4,vbk0_0_1_4,vbk0_0_2_4,vbk0_0_3_4,vbk0_0_4_4,y⟩ h
   unfold z187_l2 at h
   refine wO J 4 h fun z A h=>eCl (z64_ct N (⟨vbk0_0_0_4,vbk0_0_1_4,vbk0_0_2_4,vbk0_0_3_4,vbk0_0_4_4⟩:T24) (str [111,114]) _ A) [] [(0,.bp 0 0),(1,.sl 11)] ?_
   refine wB' J 1 h (fun h=>wa J 2 (eSub [(11,.sl 13)] (j2 (z.2.l',z.2.n',z.2.end',z.2.at',z.2.err',y) h))) fun h=>?_
   refine wO J 7 h fun C D h=>eCl (z188_ct N rc rc_Psyntax_parser_items_ct z.2 _ D) [] [(0,.bp 0 0),(1,.sl 13)] (eBs J [14] (oSl rR20) ([C.1]:List (List T20)) ?_)
   obtain ⟨G,H,h⟩:=ob h
   exact eAp J (rSl rR20) H (wa J 2 (eEnd (wa J 1 (eSub [(11,.sl 15),(12,.sl 17)] (ih4 (C.2.l',C.2.n',C.2.end',C.2.at',C.2.err',G) h)))))
  exact eSub [(11,.sl 9),(12,.sl 10)] (ih N (l.2.l',l.2.n',l.2.end',l.2.at',l.2.err',([l.1]:List (List T20))) h)
 refine eB' h (fun h=>wa J 2 (eSub [(7,.sl 6)] (j1 (i.2.l',i.2.n',i.2.end',i.2.at',i.2.err',0) h))) fun h=>?_
 refine wO J 5 h fun R T h=>eCl (z118_ct N i.2 _ T) [] [(0,.bp 0 0),(1,.sl 6)] ?_
 refine wB' J 9 h (fun h=>?_) fun h=>?_
 ·exact wO J 14 h fun U X h=>eCl (z184_ct N i.2 _ X) [] [(0,.bp 0 0),(1,.sl 6)] (wa J 3 (eSub [(7,.sl 8)] (j1 (U.2.l',U.2.n',U.2.end',U.2.at',U.2.err',U.1) h)))
 refine wB J 4 h (fun h=>?_) fun h=>?_
 ·refine wO J 9 h fun Y Z h=>eCl (z117_ct N i.2 2 _ Z) [] [(0,.bp 0 0),(1,.sl 6)] ?_
  exact wO J 3 h fun a0 b0 h=>eCl (z184_ct N Y _ b0) [] [(0,.bp 0 0),(1,.sl 8)] (wa J 3 (eSub [(7,.sl 9)] (j1 (a0.2.l',a0.2.n',a0.2.end',a0.2.at',a0.2.err',a0.1) h)))
 refine wB' J 6 h (fun h=>?_) fun h=>?_
 ·exact wO J 4 h fun c0 d0 h=>eCl (z184_ct N i.2 _ d0) [] [(0,.bp 0 0),(1,.sl 6)] (wa J 3 (eSub [(7,.sl 8)] (j1 (c0.2.l',c0.2.n',c0.2.end',c0.2.at',c0.2.err',c0.1) h)))
 refine wO J 3 h fun e0 f0 h=>eCl (z117_ct N i.2 2 _ f0) [] [(0,.bp 0 0),(1,.sl 6)] ?_
 exact wO J 3 h fun g0 i0 h=>eCl (z184_ct N e0 _ i0) [] [(0,.bp 0 0),(1,.sl 8)] (wa J 3 (eSub [(7,.sl 9)] (j1 (g0.2.l',g0.2.n',g0.2.end',g0.2.at',g0.2.err',g0.1) h)))
theorem z124_ct (N:Nat) (rc:T24→Option ((List T20) × T24)) (rc_Psyntax_parser_items_ct:(∀ (c:T24) (r:(List T20) × T24),rc c=some r→Fn Tryz.prog 66 ⟨2,[.B 0 0],[(1,.sl rR14 c.l')],[(0,.box (cC24 1 c) 96)],4,.S 2,[(3,.sl rR14 r.2.l')],[(2,.own rR20 r.1 true),(0,.box (cC24 3 r.2) 96)]⟩)) (c:T24) (r:T20 × T24) (h:z124 N rc c=some r) :
 Fn Tryz.prog 124 ⟨2,[.B 0 0],[(1,.sl rR14 c.l')],[(0,.box (cC24 1 c) 96)],5,.a [.I r.1.Kind,.s r.1.From,.sl 2,.s r.1.Name,.s r.1.As,.I r.1.Ticks,.sl 3],[(2,.sl rS r.1.To),(3,.sl (rSl rR20) r.1.Blocks),(4,.sl rR14 r.2.l')],[(0,.box (cC24 4 r.2) 96)]⟩:=by
 refine eFn func124 rfl (fun E F w=>?_)
 unfold z124 at h
 refine wO J 9 h fun d e h=>eCl (z64_ct N c (str [99,104,111,105,99,101]) _ e) [] [(0,.bp 0 0),(1,.sl 1)] ?_
 refine wB J 2 h (fun h=>?_) fun h=>?_
 ·refine wO J 4 h fun f g h=>eCl (z187_ct N rc rc_Psyntax_parser_items_ct d.2 _ g) [] [(0,.bp 0 0),(1,.sl 3)] ?_
  exact oi h▸wr J 2 func124 [(2,.sl 4),(3,.sl 5),(4,.sl 6)]
 refine wO J 4 h fun i j h=>eCl (z64_ct N d.2 (str [108,111,111,112]) _ j) [] [(0,.bp 0 0),(1,.sl 3)] ?_
 refine wB J 2 h (fun h=>?_) fun h=>?_
 ·refine wO J 4 h fun k l h=>eCl (z120_ct N i.2 _ l) [] [(0,.bp 0 0),(1,.sl 4)] ?_
  refine wO J 7 h fun m o h=>eCl (z188_ct N rc rc_Psyntax_parser_items_ct k.2 _ o) [] [(0,.bp 0 0),(1,.sl 5)] (eBs J [7] (oSl rR20) ([m.1]:List (List T20)) (wa J 8 (eFr [9] ?_)))
  cases h
  exact eRet J func124 [(2,.nil),(3,.sl 9),(4,.sl 8)]
 refine wO J 4 h fun p q h=>eCl (z64_ct N i.2 (str [97,103,97,105,110]) _ q) [] [(0,.bp 0 0),(1,.sl 4)] ?_
 refine wB J 2 h (fun h=>?_) fun h=>?_
 ·refine wO J 4 h fun t u h=>eCl (z120_ct N p.2 _ u) [] [(0,.bp 0 0),(1,.sl 5)] ?_
  refine wO J 7 h fun v x h=>eCl (z61_ct N t.2 (str [59]) _ x) [] [(0,.bp 0 0),(1,.sl 6)] ?_
  exact oi h▸wr J 6 func124 [(2,.nil),(3,.nil),(4,.sl 8)]
 refine wO J 4 h fun y z h=>eCl (z64_ct N p.2 (str [112,97,114]) _ z) [] [(0,.bp 0 0),(1,.sl 5)] ?_
 refine wB' J 2 h (fun h=>?_) fun h=>?_
 ·refine wO J 4 h fun A C h=>eCl (z64_ct N y.2 (str [99,97,108,108]) _ C) [] [(0,.bp 0 0),(1,.sl 6)] ?_
  refine wB' J 2 h (fun h=>?_) fun h=>?_
  ·refine wO J 6 h fun D G h=>eCl (z62_ct N A.2 _ G) [] [(0,.bp 0 0),(1,.sl 7)] ?_
   refine wO J 7 h fun H R h=>eCl (z61_ct N D.2 (str [45,62]) _ R) [] [(0,.bp 0 0),(1,.sl 8)] ?_
   refine wO J 4 h fun T U h=>eCl (z63_ct N H _ U) [] [(0,.bp 0 0),(1,.sl 10)] ?_
   refine wO J 6 h fun X Y h=>eCl (z61_ct N T.2 (str [58]) _ Y) [] [(0,.bp 0 0),(1,.sl 12)] ?_
   refine wO J 4 h fun Z a0 h=>eCl (z120_ct N X _ a0) [] [(0,.bp 0 0),(1,.sl 13)] ?_
   refine wO J 6 h fun b0 c0 h=>eCl (z61_ct N Z.2 (str [59]) _ c0) [] [(0,.bp 0 0),(1,.sl 14)] (wa J 6 (eFr [11] ?_))
   cases h
   exact eRet J func124 [(2,.sl 11),(3,.nil),(4,.sl 15)]
  refine wO J 4 h fun d0 e0 h=>eCl (z62_ct N A.2 _ e0) [] [(0,.bp 0 0),(1,.sl 7)] ?_
  refine wO J 7 h fun f0 g0 h=>eCl (z61_ct N d0.2 (str [40]) _ g0) [] [(0,.bp 0 0),(1,.sl 8)] ?_
  refine wO J 4 h fun i0 j0 h=>eCl (z63_ct N f0 _ j0) [] [(0,.bp 0 0),(1,.sl 10)] ?_
  refine wO J 6 h fun k0 l0 h=>eCl (z61_ct N i0.2 (str [41]) _ l0) [] [(0,.bp 0 0),(1,.sl 12)] ?_
  refine wO J 4 h fun m0 o0 h=>eCl (z61_ct N k0 (str [97,115]) _ o0) [] [(0,.bp 0 0),(1,.sl 13)] ?_
  refine wO J 4 h fun p0 q0 h=>eCl (z62_ct N m0 _ q0) [] [(0,.bp 0 0),(1,.sl 14)] ?_
  refine wO J 6 h fun s0 t0 h=>eCl (z61_ct N p0.2 (str [59]) _ t0) [] [(0,.bp 0 0),(1,.sl 15)] (wa J 6 (eFr [11] ?_))
  cases h
  exact eRet J func124 [(2,.sl 11),(3,.nil),(4,.sl 16)]
 refine wO J 4 h fun u0 v0 h=>eCl (z188_ct N rc rc_Psyntax_parser_items_ct y.2 _ v0) [] [(0,.bp 0 0),(1,.sl 6)] (eBs J [7] (oSl rR20) ([u0.1]:List (List T20)) ?_)
 refine wO J 7 h fun x0 y0 h=>eCl (z61_ct N u0.2 (str [97,110,100]) _ y0) [] [(0,.bp 0 0),(1,.sl 8)] ?_
 refine wO J 6 h fun z0 A0 h=>eCl (z188_ct N rc rc_Psyntax_parser_items_ct x0 _ A0) [] [(0,.bp 0 0),(1,.sl 11)] (eBs J [12] (oSl rR20) ([z0.1]:List (List T20)) ?_)
 obtain ⟨B0,C0,h⟩:=ob h
 refine eAp J (rSl rR20) C0 (wa J 2 (eEnd (wa J 1 (eCut (σ:=(List T14) × Int × Int × Int × Int × (List (List T20))) (fun st=>(zz39 st.2.1 st.2.2.1 st.2.2.2.1 st.2.2.2.2.1 st.2.2.2.2.2 c.l' st.1 [(2,.B 2 0),(5,.B 10 0)])) (fun st=>z124_k1 st.1 st.2.1 st.2.2.1 st.2.2.2.1 st.2.2.2.2.1 st.2.2.2.2.2=some r) ?_ (fun j1=>?_)))))
 ·rintro ⟨vbk0_0_0_1,vbk0_0_1_1,vbk0_0_2_1,vbk0_0_3_1,vbk0_0_4_1,D0⟩ h
  unfold z124_k1 at h
  refine wa J 5 (eFr [17] ?_)
  cases h
  exact eRet J func124 [(2,.nil),(3,.sl 17),(4,.sl 16)]
 refine wa J 1 (eLoop (σ:=(List T14) × Int × Int × Int × Int × (List (List T20))) (fun st=>(zz39 st.2.1 st.2.2.1 st.2.2.2.1 st.2.2.2.2.1 st.2.2.2.2.2 c.l' st.1 [(0,.B 0 0),(2,.B 2 0),(5,.B 10 0)])) (fun n st=>z124_l2 N rc n st.1 st.2.1 st.2.2.1 st.2.2.2.1 st.2.2.2.2.1 st.2.2.2.2.2) (r:=r) (fun _=>rfl) ?_ (fun ih=>?_))
 ·intro n2 ih3
  rintro ⟨vbk0_0_0_3,vbk0_0_1_3,vbk0_0_2_3,vbk0_0_3_3,vbk0_0_4_3,G0⟩ h
  unfold z124_l2 at h
  refine wO J 4 h fun H0 I0 h=>eCl (z64_ct N (⟨vbk0_0_0_3,vbk0_0_1_3,vbk0_0_2_3,vbk0_0_3_3,vbk0_0_4_3⟩:T24) (str [97,110,100]) _ I0) [] [(0,.bp 0 0),(1,.sl 16)] ?_
  refine wB' J 1 h (fun h=>wa J 2 (eSub [(16,.sl 18)] (j1 (H0.2.l',H0.2.n',H0.2.end',H0.2.at',H0.2.err',G0) h))) fun h=>?_
  refine wO J 7 h fun L0 M0 h=>eCl (z188_ct N rc rc_Psyntax_parser_items_ct H0.2 _ M0) [] [(0,.bp 0 0),(1,.sl 18)] (eBs J [19] (oSl rR20) ([L0.1]:List (List T20)) ?_)
  obtain ⟨O0,R0,h⟩:=ob h
  exact eAp J (rSl rR20) R0 (wa J 2 (eEnd (wa J 1 (eSub [(16,.sl 20),(17,.sl 22)] (ih3 (L0.2.l',L0.2.n',L0.2.end',L0.2.at',L0.2.err',O0) h)))))
 exact eSub [(16,.sl 13),(17,.sl 15)] (ih N (z0.2.l',z0.2.n',z0.2.end',z0.2.at',z0.2.err',B0) h)
theorem z66_b_ct (N:Nat) (rc:T24→Option ((List T20) × T24)) (rc_Psyntax_parser_items_ct:(∀ (c:T24) (r:(List T20) × T24),rc c=some r→Fn Tryz.prog 66 ⟨2,[.B 0 0],[(1,.sl rR14 c.l')],[(0,.box (cC24 1 c) 96)],4,.S 2,[(3,.sl rR14 r.2.l')],[(2,.own rR20 r.1 true),(0,.box (cC24 3 r.2) 96)]⟩)) (c:T24) (r:(List T20) × T24) (h:z66_b N rc c=some r) :
 Fn Tryz.prog 66 ⟨2,[.B 0 0],[(1,.sl rR14 c.l')],[(0,.box (cC24 1 c) 96)],4,.S 2,[(3,.sl rR14 r.2.l')],[(2,.own rR20 r.1 true),(0,.box (cC24 3 r.2) 96)]⟩:=by
 refine eFn func66 rfl (fun E F w=>?_)
 unfold z66_b at h
 refine wa J 9 (eLoop (σ:=(List T14) × Int × Int × Int × Int × (List T20)) (fun st=>⟨[(0,.B 0 0),(3,.S 3)],[(0,.box [.sl 2,.I st.2.1,.I st.2.2.1,.I st.2.2.2.1,.I st.2.2.2.2.1] 96),(3,.own rR20 st.2.2.2.2.2 true)],[(1,.sl rR14 c.l'),(2,.sl rR14 st.1)],4⟩) (fun n st=>z66_l1 N rc n st.1 st.2.1 st.2.2.1 st.2.2.2.1 st.2.2.2.2.1 st.2.2.2.2.2) (r:=r) (fun _=>rfl) ?_ (fun ih=>?_))
 ·intro n1 ih1
  rintro ⟨vbk0_0_0_1,vbk0_0_1_1,vbk0_0_2_1,vbk0_0_3_1,vbk0_0_4_1,d⟩ h
  unfold z66_l1 at h
  refine wO J 4 h fun e f h=>eCl (z118_ct N (⟨vbk0_0_0_1,vbk0_0_1_1,vbk0_0_2_1,vbk0_0_3_1,vbk0_0_4_1⟩:T24) _ f) [] [(0,.bp 0 0),(1,.sl 2)] ?_
  refine wB J 10 h (fun h=>oi h▸wr J 19 func66 [(2,.sl 3),(3,.sl 2)]) fun h=>?_
  refine wO J 2 h fun g i h=>eCl (z67_ct N e.Text _ i) [] [] ?_
  refine wB' J 2 h (fun h=>?_) fun h=>eBs J [] oS ([(str [99,104,111,105,99,101]),(str [108,111,111,112]),(str [97,103,97,105,110]),(str [112,97,114]),(str [99,97,108,108])]:List ByteArray) ?_
  ·refine wO J 13 h fun j k h=>eCl (z124_ct N rc rc_Psyntax_parser_items_ct (⟨vbk0_0_0_1,vbk0_0_1_1,vbk0_0_2_1,vbk0_0_3_1,vbk0_0_4_1⟩:T24) _ k) [] [(0,.bp 0 0),(1,.sl 2)] (eBs J [] oO20 ([j.1]:List T20) ?_)
   obtain ⟨l,m,h⟩:=ob h
   exact eAp J rR20 m (wa J 3 (eSub [(2,.sl 7),(3,.sl 9)] (ih1 (j.2.l',j.2.n',j.2.end',j.2.at',j.2.err',l) h)))
  refine wO J 2 h fun o p h=>eCb (z123_ct N ([(str [99,104,111,105,99,101]),(str [108,111,111,112]),(str [97,103,97,105,110]),(str [112,97,114]),(str [99,97,108,108])]:List ByteArray) e.Text _ p) [] [(0,.sl 5)] [5] (.inr ⟨rfl,trivial⟩) ?_
  refine wB J 4 h (fun h=>oi h▸wr J 6 func66 [(2,.sl 3),(3,.sl 2)]) fun h=>?_
  refine wO J 5 h fun q s h=>eCl (z124_ct N rc rc_Psyntax_parser_items_ct (⟨vbk0_0_0_1,vbk0_0_1_1,vbk0_0_2_1,vbk0_0_3_1,vbk0_0_4_1⟩:T24) _ s) [] [(0,.bp 0 0),(1,.sl 2)] (eBs J [] oO20 ([q.1]:List T20) ?_)
  obtain ⟨t,u,h⟩:=ob h
  exact eAp J rR20 u (wa J 3 (eSub [(2,.sl 8),(3,.sl 10)] (ih1 (q.2.l',q.2.n',q.2.end',q.2.at',q.2.err',t) h)))
 exact eSub [(2,.sl 1),(3,.nil)] (ih N (c.l',c.n',c.end',c.at',c.err',([]:List T20)) h)
theorem z66_rct:∀ (N:Nat) (c:T24) (r:(List T20) × T24) (h:z66_r N c=some r),Fn Tryz.prog 66 ⟨2,[.B 0 0],[(1,.sl rR14 c.l')],[(0,.box (cC24 1 c) 96)],4,.S 2,[(3,.sl rR14 r.2.l')],[(2,.own rR20 r.1 true),(0,.box (cC24 3 r.2) 96)]⟩:=by
 intro N
 induction N with
 | zero=>intros;rename_i h;cases h
 | succ N ih=>intro c r h;exact z66_b_ct N (z66_r N) ih c r h
theorem z66_ct (N:Nat) (c:T24) (r:(List T20) × T24) (h:z66 N c=some r):Fn Tryz.prog 66 ⟨2,[.B 0 0],[(1,.sl rR14 c.l')],[(0,.box (cC24 1 c) 96)],4,.S 2,[(3,.sl rR14 r.2.l')],[(2,.own rR20 r.1 true),(0,.box (cC24 3 r.2) 96)]⟩:=z66_rct N c r h
theorem z27_ct (N:Nat) (c:T24) (r:T22 × T24) (h:z27 N c=some r) :
 Fn Tryz.prog 27 ⟨2,[.B 0 0],[(1,.sl rR14 c.l')],[(0,.box (cC24 1 c) 96)],6,.a (cC22 2 3 4 r.1),(vV22 2 3 4 r.1 [(5,.sl rR14 r.2.l')]),[(0,.box (cC24 5 r.2) 96)]⟩:=by
 refine eFn func27 rfl (fun E F w=>?_)
 unfold z27 at h
 refine wO J 7 h fun d e h=>eCl (z61_ct N c (str [112,114,111,116,111,99,111,108]) _ e) [] [(0,.bp 0 0),(1,.sl 1)] ?_
 refine wO J 4 h fun f g h=>eCl (z62_ct N d _ g) [] [(0,.bp 0 0),(1,.sl 3)] ?_
 refine wO J 7 h fun i j h=>eCl (z61_ct N f.2 (str [40]) _ j) [] [(0,.bp 0 0),(1,.sl 4)] ?_
 refine wO J 4 h fun k l h=>eCl (z63_ct N i _ l) [] [(0,.bp 0 0),(1,.sl 6)] ?_
 refine wO J 6 h fun m o h=>eCl (z61_ct N k.2 (str [41]) _ o) [] [(0,.bp 0 0),(1,.sl 8)] ?_
 refine wO J 4 h fun p q h=>eCl (z61_ct N m (str [123]) _ q) [] [(0,.bp 0 0),(1,.sl 9)] (wa J 2 (eCut (σ:=(List T14) × Int × Int × Int × Int × (List T21)) (fun st=>(zz40 st.2.1 st.2.2.1 st.2.2.2.1 st.2.2.2.2.1 f.1 k.1 st.2.2.2.2.2 c.l' st.1 [(0,.B 0 0),(2,.B 2 0),(3,.B 5 0)])) (fun st=>z27_k1 N f k st.1 st.2.1 st.2.2.1 st.2.2.2.1 st.2.2.2.2.1 st.2.2.2.2.2=some r) ?_ (fun j1=>?_)))
 ·rintro ⟨vbk0_0_0_1,vbk0_0_1_1,vbk0_0_2_1,vbk0_0_3_1,vbk0_0_4_1,t⟩ h
  unfold z27_k1 at h
  refine wO J 3 h fun u v h=>eCl (z66_ct N (⟨vbk0_0_0_1,vbk0_0_1_1,vbk0_0_2_1,vbk0_0_3_1,vbk0_0_4_1⟩:T24) _ v) [] [(0,.bp 0 0),(1,.sl 11)] ?_
  refine wO J 6 h fun x y h=>eCl (z61_ct N u.2 (str [125]) _ y) [] [(0,.bp 0 0),(1,.sl 14)] (wa J 6 (eFr [7] (eFr [12] (eFr [13] ?_))))
  cases h
  exact eRet J func27 [(2,.sl 7),(3,.sl 12),(4,.sl 13),(5,.sl 15)]
 refine wa J 1 (eLoop (σ:=(List T14) × Int × Int × Int × Int × (List T21)) (fun st=>(zz40 st.2.1 st.2.2.1 st.2.2.2.1 st.2.2.2.2.1 f.1 k.1 st.2.2.2.2.2 c.l' st.1 [(0,.B 0 0),(2,.B 2 0),(3,.B 5 0)])) (fun n st=>z27_l2 N f k n st.1 st.2.1 st.2.2.1 st.2.2.2.1 st.2.2.2.2.1 st.2.2.2.2.2) (r:=r) (fun _=>rfl) ?_ (fun ih=>?_))
 ·intro n2 ih3
  rintro ⟨vbk0_0_0_3,vbk0_0_1_3,vbk0_0_2_3,vbk0_0_3_3,vbk0_0_4_3,z⟩ h
  unfold z27_l2 at h
  refine wO J 4 h fun A C h=>eCl (z64_ct N (⟨vbk0_0_0_3,vbk0_0_1_3,vbk0_0_2_3,vbk0_0_3_3,vbk0_0_4_3⟩:T24) (str [109,101,115,115,97,103,101]) _ C) [] [(0,.bp 0 0),(1,.sl 11)] ?_
  refine wB' J 1 h (fun h=>wa J 2 (eSub [(11,.sl 13)] (j1 (A.2.l',A.2.n',A.2.end',A.2.at',A.2.err',z) h))) fun h=>?_
  refine wO J 7 h fun D G h=>eCl (z65_ct N A.2 _ G) [] [(0,.bp 0 0),(1,.sl 13)] (eBs J [] oO21 ([D.1]:List T21) ?_)
  obtain ⟨H,R,h⟩:=ob h
  exact eAp J rR21 R (wa J 2 (eEnd (wa J 1 (eSub [(11,.sl 16),(12,.sl 18)] (ih3 (D.2.l',D.2.n',D.2.end',D.2.at',D.2.err',H) h)))))
 exact eSub [(11,.sl 10),(12,.nil)] (ih N (p.l',p.n',p.end',p.at',p.err',([]:List T21)) h)
theorem z127_ct (N:Nat) (d:ByteArray) (r:Bool) (h:z127 N d=some r) :
 Fn Tryz.prog 127 ⟨0,[.c (.s d)],[],[],0,.O r,[],[]⟩:=by
 refine eFn func127 rfl (fun E F w=>?_)
 unfold z127 at h
 refine wO J 7 h fun e f h=>eCl (z67_ct N d _ f) [] [] ?_
 exact oi h▸wr J 3 func127 []
theorem z189_32_ct (N:Nat) (d:(List ByteArray)) (r:Int) (h:z189_32 N d=some r) :
 Fn Tryz.prog 189 ⟨1,[.S 0,.c (.cl 127 [] [])],[(0,.sl rS d)],[],1,.I r,[],[]⟩:=by
 refine eFn func189 rfl (fun E F w=>?_)
 unfold z189_32 at h
 refine wa J 11 (eCut (σ:=Unit) (fun st=>(zz2 d [])) (fun st=>z189_32_k1=some r) ?_ (fun j1=>?_))
 ·intro _ h
  unfold z189_32_k1 at h
  exact oi h▸wr J 4 func189 []
 refine wa J 1 (eLoop (σ:=Int) (fun st=>(zz2 d [(0,.S 0),(1,.c (.cl 127 [] [])),(7,.I (d.length:Int)),(8,.I st)])) (fun n st=>z189_32_l2 N d n st) (r:=r) (fun _=>rfl) ?_ (fun ih=>?_))
 ·intro n2 ih3
  intro e h
  unfold z189_32_l2 at h
  refine wB' J 5 h (fun h=>wa J 2 (eSub [] (j1 () h))) fun h=>?_
  refine wO J 14 h fun f g h=>eIx J oS g ?_
  refine wO J 1 h fun i j h=>eCl (z127_ct N f _ j) [] [] ?_
  exact wB J 1 h (fun h=>oi h▸wr J 6 func189 []) fun h=>wa J 7 (eSub [] (ih3 (w64 (e+1)) h))
 exact eSub [] (ih N 0 h)
theorem z126_33_ct (N:Nat) (d:(List ByteArray)) (r:Bool) (h:z126_33 N d=some r) :
 Fn Tryz.prog 126 ⟨1,[.S 0,.c (.cl 127 [] [])],[(0,.sl rS d)],[],1,.O r,[],[]⟩:=by
 refine eFn func126 rfl (fun E F w=>?_)
 unfold z126_33 at h
 refine wO J 8 h fun e f h=>eCl (z189_32_ct N d _ f) [] [(0,.sl 0)] ?_
 exact oi h▸wr J 3 func126 []
theorem z68_ct (N:Nat) (c:(List ByteArray)) (d:Int) (r:Bool) (h:z68 N c d=some r) :
 Fn Tryz.prog 68 ⟨1,[.S 0,.I d],[(0,.sl rS c)],[],1,.O r,[],[]⟩:=by
 refine eFn func68 rfl (fun E F w=>?_)
 unfold z68 at h
 refine wB' J 10 h (fun h=>oi h▸wr J 12 func68 []) fun h=>?_
 refine wB' J 6 h (fun h=>oi h▸wr J 6 func68 []) fun h=>?_
 refine wO J 1 h fun e f h=>eCl (z126_33_ct N c _ f) [] [(0,.sl 0)] ?_
 exact oi h▸wr J 4 func68 []
theorem z128_ct (N:Nat) (c:T20) (r:Bool) (h:z128 N c=some r) :
 Fn Tryz.prog 128 ⟨2,[.a [.I c.Kind,.s c.From,.sl 0,.s c.Name,.s c.As,.I c.Ticks,.sl 1]],[(0,.sl rS c.To),(1,.sl (rSl rR20) c.Blocks)],[],2,.O r,[],[]⟩:=by
 refine eFn func128 rfl (fun E F w=>?_)
 unfold z128 at h
 refine wB J 24 h (fun h=>?_) fun h=>?_
 ·refine wO J 5 h fun d e h=>eCl (z67_ct N c.From _ e) [] [] ?_
  refine wB' J 1 h (fun h=>oi h▸wr J 25 func128 []) fun h=>?_
  refine wO J 2 h fun f g h=>eCl (z68_ct N c.To 5 _ g) [] [(0,.sl 0)] ?_
  refine wB' J 2 h (fun h=>oi h▸wr J 20 func128 []) fun h=>?_
  refine wO J 2 h fun i j h=>eCl (z99_ct N c.Name _ j) [] [] ?_
  refine wB' J 2 h (fun h=>oi h▸wr J 15 func128 []) fun h=>?_
  refine wB' J 5 h (fun h=>oi h▸wr J 10 func128 []) fun h=>?_
  exact wB J 5 h (fun h=>oi h▸wr J 5 func128 []) fun h=>oi h▸wr J 5 func128 []
 refine wB J 6 h (fun h=>?_) fun h=>wa J 7 (eCut (σ:=Bool) (fun st=>⟨[(1,.B 2 0),(3,.I (c.Blocks.length:Int)),(8,.I c.Kind),(81,.O st)],[(2,.box [.I c.Kind,.s c.From,.sl 0,.s c.Name,.s c.As,.I c.Ticks,.sl 1] 210)],[(0,.sl rS c.To),(1,.sl (rSl rR20) c.Blocks)],3⟩) (fun st=>z128_k1 N c st=some r) ?_ (fun j1=>?_))
 ·refine wO J 5 h fun k l h=>eCl (z67_ct N c.From _ l) [] [] ?_
  refine wB' J 1 h (fun h=>oi h▸wr J 39 func128 []) fun h=>?_
  refine wB' J 6 h (fun h=>oi h▸wr J 33 func128 []) fun h=>?_
  refine wB' J 5 h (fun h=>oi h▸wr J 28 func128 []) fun h=>?_
  refine wB' J 5 h (fun h=>oi h▸wr J 23 func128 []) fun h=>?_
  refine wB' J 5 h (fun h=>oi h▸wr J 18 func128 []) fun h=>?_
  refine wB' J 5 h (fun h=>oi h▸wr J 13 func128 []) fun h=>?_
  exact wB J 8 h (fun h=>oi h▸wr J 5 func128 []) fun h=>oi h▸wr J 5 func128 []
 ·intro m h
  unfold z128_k1 at h
  refine eB h (fun h=>?_) fun h=>?_
  ·refine wB' J 7 h (fun h=>oi h▸wr J 34 func128 []) fun h=>?_
   refine wB' J 6 h (fun h=>oi h▸wr J 28 func128 []) fun h=>?_
   refine wO J 2 h fun o p h=>eCl (z99_ct N c.Name _ p) [] [] ?_
   refine wB' J 2 h (fun h=>oi h▸wr J 23 func128 []) fun h=>?_
   refine wB' J 5 h (fun h=>oi h▸wr J 18 func128 []) fun h=>?_
   refine wB' J 5 h (fun h=>oi h▸wr J 13 func128 []) fun h=>?_
   exact wB J 8 h (fun h=>oi h▸wr J 5 func128 []) fun h=>oi h▸wr J 5 func128 []
  refine wB J 6 h (fun h=>?_) fun h=>?_
  ·refine wB' J 7 h (fun h=>oi h▸wr J 30 func128 []) fun h=>?_
   refine wB' J 6 h (fun h=>oi h▸wr J 24 func128 []) fun h=>?_
   refine wB' J 5 h (fun h=>oi h▸wr J 19 func128 []) fun h=>?_
   refine wB' J 5 h (fun h=>oi h▸wr J 14 func128 []) fun h=>?_
   refine wB' J 5 h (fun h=>oi h▸wr J 9 func128 []) fun h=>?_
   exact wB J 4 h (fun h=>oi h▸wr J 5 func128 []) fun h=>oi h▸wr J 5 func128 []
  refine wB' J 6 h (fun h=>oi h▸wr J 7 func128 []) fun h=>?_
  refine wB' J 7 h (fun h=>oi h▸wr J 25 func128 []) fun h=>?_
  refine wO J 2 h fun q t h=>eCl (z68_ct N c.To 6 _ t) [] [(0,.sl 0)] ?_
  refine wB' J 2 h (fun h=>oi h▸wr J 20 func128 []) fun h=>?_
  refine wO J 2 h fun u v h=>eCl (z67_ct N c.Name _ v) [] [] ?_
  refine wB' J 2 h (fun h=>oi h▸wr J 15 func128 []) fun h=>?_
  refine wO J 2 h fun x y h=>eCl (z67_ct N c.As _ y) [] [] ?_
  refine wB' J 2 h (fun h=>oi h▸wr J 10 func128 []) fun h=>?_
  exact wB J 5 h (fun h=>oi h▸wr J 5 func128 []) fun h=>oi h▸wr J 5 func128 []
 exact eB h (fun h=>wa J 2 (eSub [] (j1 true h))) fun h=>wa J 5 (eSub [] (j1 (c.Kind==4) h))
theorem z69_b_ct (N:Nat) (rc:(List T20)→Int→Int→Option (Bool × Int)) (rc_syntax_validItems_ct:(∀ (c:(List T20)) (d:Int) (e:Int) (r:Bool × Int),rc c d e=some r→Fn Tryz.prog 69 ⟨2,[.S 0,.I d,.B 1 0],[(0,.sl rR20 c)],[(1,.box [.I e] 3)],2,.O r.1,[],[(1,.box [.I r.2] 3)]⟩)) (c:(List T20)) (d:Int) (e:Int) (r:Bool × Int) (h:z69_b N rc c d e=some r) :
 Fn Tryz.prog 69 ⟨2,[.S 0,.I d,.B 1 0],[(0,.sl rR20 c)],[(1,.box [.I e] 3)],2,.O r.1,[],[(1,.box [.I r.2] 3)]⟩:=by
 refine eFn func69 rfl (fun E F w=>?_)
 unfold z69_b at h
 refine wa J 11 (eCut (σ:=Int) (fun st=>⟨[],[(1,.box [.I st] 3)],[(0,.sl rR20 c)],2⟩) (fun st=>z69_k1 st=some r) ?_ (fun j1=>?_))
 ·intro vbk1_1_0_1 h
  unfold z69_k1 at h
  exact oi h▸wr J 4 func69 []
 refine wa J 1 (eLoop (σ:=Int × Int) (fun st=>⟨[(1,.I d),(2,.B 1 0),(11,.S 0),(12,.I (c.length:Int)),(13,.I st.2)],[(1,.box [.I st.1] 3)],[(0,.sl rR20 c)],2⟩) (fun n st=>z69_l2 N rc c d n st.1 st.2) (r:=r) (fun _=>rfl) ?_ (fun ih=>?_))
 ·intro n12 ih12
  rintro ⟨vbk1_1_0_12,f⟩ h
  unfold z69_l2 at h
  refine wB' J 5 h (fun h=>wa J 2 (eSub [] (j1 vbk1_1_0_12 h))) fun h=>?_
  refine wO J 6 h fun g i h=>eIx J oO20 i ?_
  refine wB J 19 h (fun h=>oi h▸wr J 16 func69 []) fun h=>?_
  refine wB J 6 h (fun h=>oi h▸wr J 10 func69 []) fun h=>?_
  refine wO J 1 h fun j k h=>eCl (z128_ct N g _ k) [] [(0,.sl 3),(1,.sl 4)] ?_
  refine wB J 3 h (fun h=>oi h▸wr J 5 func69 []) fun h=>wa J 9 (eCut (σ:=Int) (fun st=>⟨[(1,.I d),(2,.B 1 0),(11,.S 0),(12,.I (c.length:Int)),(13,.I f)],[(1,.box [.I st] 3)],[(0,.sl rR20 c)],6⟩) (fun st=>z69_k3 f (z69_l2 N rc c d n12) st=some r) ?_ (fun j19=>?_))
  ·intro vbk1_1_0_19 h
   unfold z69_k3 at h
   exact wa J 5 (eSub [] (ih12 (vbk1_1_0_19,(w64 (f+1))) h))
  refine wa J 1 (eLoop (σ:=Int × Int) (fun st=>⟨[(1,.I d),(2,.B 1 0),(11,.S 0),(12,.I (c.length:Int)),(13,.I f),(36,.S 4),(37,.I (g.Blocks.length:Int)),(38,.I st.2)],[(1,.box [.I st.1] 3)],[(0,.sl rR20 c),(4,.sl (rSl rR20) g.Blocks)],6⟩) (fun n st=>z69_l4 rc d f (z69_l2 N rc c d n12) g n st.1 st.2) (r:=r) (fun _=>rfl) ?_ (fun ih=>?_))
  ·intro n14 ih21
   rintro ⟨vbk1_1_0_21,l⟩ h
   unfold z69_l4 at h
   refine wB' J 5 h (fun h=>wa J 2 (eSub [] (j19 vbk1_1_0_21 h))) fun h=>?_
   refine wO J 6 h fun m o h=>eIx J (oSl rR20) o ?_
   refine wO J 9 h fun p q h=>eCl (rc_syntax_validItems_ct m (w64 (d+1)) vbk1_1_0_21 _ q) [] [(0,.sl 7),(1,.bp 1 0)] ?_
   exact wB J 2 h (fun h=>oi h▸wr J 5 func69 []) fun h=>wa J 7 (eSub [] (ih21 (p.2,(w64 (l+1))) h))
  exact eSub [] (ih N ((w64 (vbk1_1_0_12+1)),0) h)
 exact eSub [] (ih N (e,0) h)
theorem z69_rct:∀ (N:Nat) (c:(List T20)) (d:Int) (e:Int) (r:Bool × Int) (h:z69_r N c d e=some r),Fn Tryz.prog 69 ⟨2,[.S 0,.I d,.B 1 0],[(0,.sl rR20 c)],[(1,.box [.I e] 3)],2,.O r.1,[],[(1,.box [.I r.2] 3)]⟩:=by
 intro N
 induction N with
 | zero=>intros;rename_i h;cases h
 | succ N ih=>intro c d e r h;exact z69_b_ct N (z69_r N) ih c d e r h
theorem z69_ct (N:Nat) (c:(List T20)) (d:Int) (e:Int) (r:Bool × Int) (h:z69 N c d e=some r):Fn Tryz.prog 69 ⟨2,[.S 0,.I d,.B 1 0],[(0,.sl rR20 c)],[(1,.box [.I e] 3)],2,.O r.1,[],[(1,.box [.I r.2] 3)]⟩:=z69_rct N c d e r h
theorem z190_ct (N:Nat) (c:Int) (r:Bool) (h:z190 N c=some r) :
 Fn Tryz.prog 190 ⟨0,[.I c],[],[],0,.O r,[],[]⟩:=by
 refine eFn func190 rfl (fun E F w=>?_)
 unfold z190 at h
 exact wB J 9 h (fun h=>oi h▸wr J 5 func190 []) fun h=>oi h▸wr J 5 func190 []
theorem z129_ct (N:Nat) (c:T23) (r:Bool) (h:z129 N c=some r) :
 Fn Tryz.prog 129 ⟨0,[.a (cC23 c)],[],[],0,.O r,[],[]⟩:=by
 refine eFn func129 rfl (fun E F w=>?_)
 unfold z129 at h
 refine wO J 10 h fun d e h=>eCl (z190_ct N c.N _ e) [] [] ?_
 refine wB J 2 h (fun h=>oi h▸wr J 5 func129 []) fun h=>?_
 refine wB J 14 h (fun h=>?_) fun h=>wa J 7 (eCut (σ:=Bool) (fun st=>⟨[(1,.B 0 0),(19,.O st)],[(0,.box (cC23 c) 204)],[],1⟩) (fun st=>z129_k1 N c st=some r) ?_ (fun j1=>?_))
 ·exact wB J 7 h (fun h=>oi h▸wr J 6 func129 []) fun h=>oi h▸wr J 6 func129 []
 ·intro f h
  unfold z129_k1 at h
  refine eB' h (fun h=>oi h▸wr J 7 func129 []) fun h=>?_
  refine wO J 5 h fun g i h=>eCl (z67_ct N c.Field _ i) [] [] ?_
  refine wB' J 1 h (fun h=>oi h▸wr J 11 func129 []) fun h=>?_
  refine wB J 4 h (fun h=>oi h▸wr J 7 func129 []) fun h=>?_
  refine wO J 2 h fun j k h=>eCl (z99_ct N c.Message _ k) [] [] ?_
  exact oi h▸wr J 4 func129 []
 exact eB h (fun h=>wa J 2 (eSub [] (j1 true h))) fun h=>wa J 5 (eSub [] (j1 (c.Kind==3) h))
theorem z70_ct (N:Nat) (c:T21) (r:Bool) (h:z70 N c=some r) :
 Fn Tryz.prog 70 ⟨2,[.a (cC21 0 1 c)],(vV21 0 1 c []),[],2,.O r,[],[]⟩:=by
 refine eFn func70 rfl (fun E F w=>?_)
 unfold z70 at h
 refine wO J 10 h fun d e h=>eCl (z99_ct N c.Name _ e) [] [] ?_
 refine wB J 2 h (fun h=>oi h▸wr J 17 func70 []) fun h=>?_
 refine wB J 6 h (fun h=>oi h▸wr J 11 func70 []) fun h=>?_
 refine wB J 6 h (fun h=>oi h▸wr J 5 func70 []) fun h=>wa J 10 (eCut (σ:=Unit) (fun st=>⟨[(1,.B 2 0)],[(2,.box (cC21 0 1 c) 45)],(vV21 0 1 c []),3⟩) (fun st=>z70_k3 N c=some r) ?_ (fun j1=>?_))
 ·intro _ h
  unfold z70_k3 at h
  refine wa J 8 (eCut (σ:=Unit) (fun st=>⟨[],[],(vV21 0 1 c []),3⟩) (fun st=>z70_k1=some r) ?_ (fun j6=>?_))
  ·intro _ h
   unfold z70_k1 at h
   exact oi h▸wr J 4 func70 []
  refine wa J 1 (eLoop (σ:=Int) (fun st=>⟨[(74,.S 1),(75,.I (c.Where.length:Int)),(76,.I st)],[],(vV21 0 1 c []),3⟩) (fun n st=>z70_l2 N c n st) (r:=r) (fun _=>rfl) ?_ (fun ih=>?_))
  ·intro n3 ih8
   intro f h
   unfold z70_l2 at h
   refine wB' J 5 h (fun h=>wa J 2 (eSub [] (j6 () h))) fun h=>?_
   refine wO J 6 h fun g i h=>eIx J oO19 i ?_
   refine wO J 8 h fun j k h=>eCl (z129_ct N g.Left _ k) [] [] ?_
   refine wB J 2 h (fun h=>wa J 12 (eEnd (oi h▸wr J 5 func70 []))) fun h=>?_
   refine wO J 2 h fun l m h=>eCl (z129_ct N g.Right _ m) [] [] ?_
   refine wB J 3 h (fun h=>wa J 6 (eEnd (oi h▸wr J 5 func70 []))) fun h=>?_
   obtain ⟨o,p,h⟩:=ob h
   refine eCl (z130_ct N _ p) [] [] ?_
   refine wO J 2 h fun q s h=>eCb (z123_ct N o g.Op _ s) [] [(0,.sl 5)] [5] (.inr ⟨rfl,trivial⟩) (wa J 2 (eEnd ?_))
   exact eB h (fun h=>oi h▸wr J 5 func70 []) fun h=>wa J 7 (eSub [] (ih8 (w64 (f+1)) h))
  exact eSub [] (ih N 0 h)
 refine wa J 1 (eLoop (σ:=Int) (fun st=>⟨[(1,.B 2 0),(25,.S 0),(26,.I (c.Fields.length:Int)),(27,.I st)],[(2,.box (cC21 0 1 c) 45)],(vV21 0 1 c []),3⟩) (fun n st=>z70_l4 N c n st) (r:=r) (fun _=>rfl) ?_ (fun ih=>?_))
 ·intro n4 ih9
  intro t h
  unfold z70_l4 at h
  refine wB' J 5 h (fun h=>wa J 2 (eSub [] (j1 () h))) fun h=>?_
  refine wO J 6 h fun u v h=>eIx J oO4 v (wa J 16 (eCut (σ:=Int) (fun st=>⟨[(1,.B 2 0),(4,.B 4 0),(5,.I st),(25,.S 0),(26,.I (c.Fields.length:Int)),(27,.I t)],[(2,.box (cC21 0 1 c) 45),(4,.box (cC4 u) 49)],(vV21 0 1 c []),5⟩) (fun st=>z70_k5 N t (z70_l4 N c n4) u st=some r) ?_ (fun j12=>?_)))
  ·intro x h
   unfold z70_k5 at h
   refine wO J 4 h fun y z h=>eCl (z67_ct N u.Name _ z) [] [] ?_
   refine wB J 2 h (fun h=>oi h▸wr J 38 func70 []) fun h=>?_
   refine wB' J 5 h (fun h=>?_) fun h=>?_
   ·refine wB J 18 h (fun h=>oi h▸wr J 15 func70 []) fun h=>?_
    exact wB J 10 h (fun h=>oi h▸wr J 5 func70 []) fun h=>wa J 7 (eSub [] (ih9 (w64 (t+1)) h))
   refine wB J 7 h (fun h=>oi h▸wr J 26 func70 []) fun h=>?_
   refine wB J 11 h (fun h=>oi h▸wr J 15 func70 []) fun h=>?_
   exact wB J 10 h (fun h=>oi h▸wr J 5 func70 []) fun h=>wa J 7 (eSub [] (ih9 (w64 (t+1)) h))
  exact eB h (fun h=>wa J 4 (eSub [] (j12 0 h))) fun h=>wa J 2 (eSub [] (j12 (-999999) h))
 exact eSub [] (ih N 0 h)
theorem z109_34_ct (N:Nat) (c:T25) (r:T25) (h:z109_34 N c=some r) :
 Fn Tryz.prog 109 ⟨1,[.B 0 0],[],[(0,.box [.v (.pointer none),.nil,.I c.depth'] 216)],2,.t [],[],[(1,.buf r.Builder 5),(0,.box [.bp 0 0,.sl 1,.I r.depth'] 216)]⟩:=by
 refine eFn func109 rfl (fun E F w=>?_)
 unfold z109_34 at h
 refine wa J 6 (ePz (wa J 5 (eCu (eNe func177 (by kernel_rfl) (by kernel_rfl) (by kernel_rfl) (by kernel_rfl) (eCq ?_)))))
 exact oi h▸wr J 4 func109 [(1,.nil)]
theorem z52_35_ct (N:Nat) (d:ByteArray) (e:T25) (r:Int × Unit × T25) (h:z52_35 N d e=some r) :
 Fn Tryz.prog 52 ⟨1,[.B 0 0,.c (.s d)],[],[(0,.box [.v (.pointer none),.nil,.I e.depth'] 216)],2,.t [.inl (.I r.1),.inl (.v .nilIface)],[],[(1,.buf r.2.2.Builder 5),(0,.box [.bp 0 0,.sl 1,.I r.2.2.depth'] 216)]⟩:=by
 refine eFn func52 rfl (fun E F w=>?_)
 unfold z52_35 at h
 refine wO J 8 h fun f g h=>eCl (z109_34_ct N (⟨ByteArray.empty,e.depth'⟩:T25) _ g) [] [(0,.bp 0 0)] ?_
 refine wO J 9 h fun i j h=>eBt (ty:=5) J j ?_
 exact oi h▸wr J 11 func52 [(1,.sl 2)]
theorem z131_36_ct (N:Nat) (c:(List ByteArray)) (d:T25) (r:T25) (h:z131_36 N c d=some r) :
 Fn Tryz.prog 131 ⟨2,[.B 1 0,.S 0],[(0,.sl rS c)],[(1,.box [.v (.pointer none),.nil,.I d.depth'] 216)],3,.t [],[],[(2,.buf r.Builder 5),(1,.box [.bp 1 0,.sl 2,.I r.depth'] 216)]⟩:=by
 refine eFn func131 rfl (fun E F w=>?_)
 unfold z131_36 at h
 refine wO J 8 h fun e f h=>eCl (z86_ct N (str [9]) d.depth' _ f) [] [] ?_
 refine wO J 1 h fun g i h=>eCl (z25_ct N c (str []) _ i) [] [(0,.sl 0)] ?_
 obtain ⟨j,k,h⟩:=ob h
 refine eCa k ?_
 obtain ⟨l,m,h⟩:=ob h
 refine eCa m ?_
 obtain ⟨o,p,h⟩:=ob h
 refine eCl (z52_35_ct N l (⟨ByteArray.empty,d.depth'⟩:T25) _ p) [] [(0,.bp 1 0)] (eEnd ?_)
 cases h
 exact eRet J func131 [(2,.sl 2)]
theorem z191_ct (N:Nat) (d:T23) (r:ByteArray) (h:z191 N d=some r) :
 Fn Tryz.prog 191 ⟨1,[.a (cC23 d)],[],[(0,.abs powT)],1,.c (.s r),[],[(0,.abs powT)]⟩:=by
 refine eFn func191 rfl (fun E F w=>?_)
 unfold z191 at h
 refine wB J 12 h (fun h=>?_) fun h=>wa J 15 (eCut (σ:=ByteArray) (fun st=>⟨[(1,.B 1 0),(3,.c (.s st))],[(0,.abs powT),(1,.box (cC23 d) 204)],[],2⟩) (fun st=>z191_k2 N d st=some r) ?_ (fun j1=>?_))
 ·refine wO J 5 h fun e f h=>eCl (z48_ct N d.N _ f) [] [(0,.sl 0)] ?_
  exact oi h▸wr J 2 func191 []
 ·intro g h
  unfold z191_k2 at h
  refine wa J 7 (eCut (σ:=ByteArray) (fun st=>⟨[(1,.B 1 0),(3,.c (.s st))],[(0,.abs powT),(1,.box (cC23 d) 204)],[],2⟩) (fun st=>z191_k1 N d st=some r) ?_ (fun j2=>?_))
  ·intro i h
   unfold z191_k1 at h
   refine wB J 9 h (fun h=>?_) fun h=>?_
   ·refine wO J 5 h fun j k h=>eCl (z48_ct N d.N _ k) [] [(0,.sl 0)] ?_
    obtain ⟨l,m,h⟩:=ob h
    refine eCa m ?_
    obtain ⟨o,p,h⟩:=ob h
    refine eCa p ?_
    exact oi h▸wr J 8 func191 []
   refine wB' J 8 h (fun h=>oi h▸wr J 8 func191 []) fun h=>?_
   refine wO J 6 h fun q t h=>eCl (z48_ct N (w64 (0-d.N)) _ t) [] [(0,.sl 0)] ?_
   obtain ⟨u,v,h⟩:=ob h
   refine eCa v ?_
   obtain ⟨x,y,h⟩:=ob h
   refine eCa y ?_
   exact oi h▸wr J 8 func191 []
  refine eB' h (fun h=>wa J 2 (eSub [] (j2 g h))) fun h=>?_
  refine wO J 3 h fun z A h=>eCa A ?_
  obtain ⟨C,D,h⟩:=ob h
  exact eCa D (wa J 2 (eSub [] (j2 C h)))
 refine eB' h (fun h=>wa J 2 (eSub [] (j1 d.Field h))) fun h=>?_
 refine wO J 4 h fun G H h=>eCa H ?_
 exact wO J 1 h fun R T h=>eCa T (wa J 2 (eSub [] (j1 R h)))
theorem z109_37_ct (N:Nat) (c:T25) (r:Unit) (h:z109_37 N c=some r) :
 Fn Tryz.prog 109 ⟨2,[.B 0 0],[],[(0,.box [.bp 0 0,.sl 1,.I c.depth'] 216),(1,.buf c.Builder 5)],2,.t [],[],[(0,.box [.bp 0 0,.sl 1,.I c.depth'] 216),(1,.buf c.Builder 5)]⟩:=by
 refine eFn func109 rfl (fun E F w=>?_)
 unfold z109_37 at h
 refine wa J 6 (ePn false (wa J 9 (ePs ?_)))
 cases h
 exact wr J 3 func109 []
theorem z52_38_ct (N:Nat) (d:ByteArray) (e:T25) (r:Int × Unit × T25) (h:z52_38 N d e=some r) :
 Fn Tryz.prog 52 ⟨2,[.B 0 0,.c (.s d)],[],[(0,.box [.bp 0 0,.sl 1,.I e.depth'] 216),(1,.buf e.Builder 5)],3,.t [.inl (.I r.1),.inl (.v .nilIface)],[],[(1,.gone),(2,.buf r.2.2.Builder 5),(0,.box [.bp 0 0,.sl 2,.I r.2.2.depth'] 216)]⟩:=by
 refine eFn func52 rfl (fun E F w=>?_)
 unfold z52_38 at h
 refine wO J 8 h fun f g h=>eCl (z109_37_ct N e _ g) [] [(0,.bp 0 0),(1,.sl 1)] ?_
 refine wO J 9 h fun i j h=>eBt (ty:=5) J j ?_
 exact oi h▸wr J 11 func52 [(2,.sl 2)]
theorem z131_39_ct (N:Nat) (c:(List ByteArray)) (d:T25) (r:T25) (h:z131_39 N c d=some r) :
 Fn Tryz.prog 131 ⟨3,[.B 1 0,.S 0],[(0,.sl rS c)],[(1,.box [.bp 1 0,.sl 2,.I d.depth'] 216),(2,.buf d.Builder 5)],4,.t [],[],[(2,.gone),(3,.buf r.Builder 5),(1,.box [.bp 1 0,.sl 3,.I r.depth'] 216)]⟩:=by
 refine eFn func131 rfl (fun E F w=>?_)
 unfold z131_39 at h
 refine wO J 8 h fun e f h=>eCl (z86_ct N (str [9]) d.depth' _ f) [] [] ?_
 refine wO J 1 h fun g i h=>eCl (z25_ct N c (str []) _ i) [] [(0,.sl 0)] ?_
 obtain ⟨j,k,h⟩:=ob h
 refine eCa k ?_
 obtain ⟨l,m,h⟩:=ob h
 refine eCa m ?_
 obtain ⟨o,p,h⟩:=ob h
 refine eCl (z52_38_ct N l d _ p) [] [(0,.bp 1 0),(1,.sl 2)] (eEnd ?_)
 cases h
 exact eRet J func131 [(3,.sl 3)]
theorem z132_40_ct (N:Nat) (d:T21) (e:T25) (r:T25) (h:z132_40 N d e=some r) :
 Fn Tryz.prog 132 ⟨5,[.B 2 0,.a (cC21 0 1 d)],(vV21 0 1 d []),[(2,.box [.bp 2 0,.sl 3,.I e.depth'] 216),(3,.buf e.Builder 5),(4,.abs powT)],6,.t [],[],[(3,.gone),(5,.buf r.Builder 5),(2,.box [.bp 2 0,.sl 5,.I r.depth'] 216),(4,.abs powT)]⟩:=by
 refine eFn func132 rfl (fun E F w=>?_)
 unfold z132_40 at h
 refine wa J 17 (eCut (σ:=(List ByteArray)) (fun st=>(zz41 e.depth' e.Builder powT d st [(0,.B 2 0),(3,.B 5 0),(4,.S 6),(5,.c .nil)])) (fun st=>z132_40_k3 N d e st=some r) ?_ (fun j1=>?_))
 ·intro f h
  unfold z132_40_k3 at h
  refine wa J 8 (eCut (σ:=(List ByteArray)) (fun st=>(zz42 e.depth' e.Builder powT d f st [(0,.B 2 0),(3,.B 5 0),(4,.S 6),(5,.S 7)])) (fun st=>z132_40_k1 N d e f st=some r) ?_ (fun j6=>?_))
  ·intro g h
   unfold z132_40_k1 at h
   refine wB' J 11 h (fun h=>?_) fun h=>?_
   ·refine wO J 7 h fun i j h=>eCb (z25_ct N f (str [44,32]) _ j) [] [(0,.sl 6)] [6] (.inr ⟨rfl,trivial⟩) (wa J 1 (eBs J [] oS ([(str [109,101,115,115,97,103,101,32]),d.Name,(str [40]),i,(str [41]),(str []),(str [59])]:List ByteArray) ?_))
    obtain ⟨k,l,h⟩:=ob h
    refine eCl (z131_39_ct N ([(str [109,101,115,115,97,103,101,32]),d.Name,(str [40]),i,(str [41]),(str []),(str [59])]:List ByteArray) e _ l) [8] [(0,.sl 8),(1,.bp 2 0),(2,.sl 3)] (eEnd ?_)
    cases h
    exact eRet J func132 [(5,.sl 9)]
   refine wO J 3 h fun m o h=>eCb (z25_ct N g (str [32,97,110,100,32]) _ o) [] [(0,.sl 7)] [7] (.inr ⟨rfl,trivial⟩) ?_
   obtain ⟨p,q,h⟩:=ob h
   refine eCa q ?_
   refine wO J 7 h fun u v h=>eCb (z25_ct N f (str [44,32]) _ v) [] [(0,.sl 6)] [6] (.inr ⟨rfl,trivial⟩) (wa J 1 (eBs J [] oS ([(str [109,101,115,115,97,103,101,32]),d.Name,(str [40]),u,(str [41]),p,(str [59])]:List ByteArray) ?_))
   obtain ⟨x,y,h⟩:=ob h
   refine eCl (z131_39_ct N ([(str [109,101,115,115,97,103,101,32]),d.Name,(str [40]),u,(str [41]),p,(str [59])]:List ByteArray) e _ y) [8] [(0,.sl 8),(1,.bp 2 0),(2,.sl 3)] (eEnd ?_)
   cases h
   exact eRet J func132 [(5,.sl 9)]
  refine wa J 1 (eLoop (σ:=(List ByteArray) × Int) (fun st=>(zz42 e.depth' e.Builder powT d f st.1 [(0,.B 2 0),(3,.B 5 0),(4,.S 6),(5,.S 7),(43,.S 1),(44,.I (d.Where.length:Int)),(45,.I st.2)])) (fun n st=>z132_40_l2 N d e f n st.1 st.2) (r:=r) (fun _=>rfl) ?_ (fun ih=>?_))
  ·intro n3 ih8
   rintro ⟨z,A⟩ h
   unfold z132_40_l2 at h
   refine wB' J 5 h (fun h=>wa J 2 (eSub [] (j6 z h))) fun h=>?_
   refine wO J 6 h fun C D h=>eIx J oO19 D ?_
   refine wO J 8 h fun G H h=>eCl (z191_ct N C.Left _ H) [] [(0,.sl 4)] ?_
   obtain ⟨R,T,h⟩:=ob h
   refine eCa T ?_
   refine wO J 2 h fun U X h=>eCa X ?_
   obtain ⟨Y,Z,h⟩:=ob h
   refine eCa Z ?_
   refine wO J 2 h fun a0 b0 h=>eCl (z191_ct N C.Right _ b0) [] [(0,.sl 4)] ?_
   obtain ⟨c0,d0,h⟩:=ob h
   refine eCa d0 (eBs J [] oS ([c0]:List ByteArray) ?_)
   obtain ⟨e0,f0,h⟩:=ob h
   exact eAp J rS f0 (wa J 1 (eEnd (wa J 5 (eSub [(7,.sl 11)] (ih8 (e0,(w64 (A+1))) h)))))
  exact eSub [(7,.nil)] (ih N (([]:List ByteArray),0) h)
 refine wa J 1 (eLoop (σ:=(List ByteArray) × Int) (fun st=>(zz41 e.depth' e.Builder powT d st.1 [(0,.B 2 0),(3,.B 5 0),(4,.S 6),(5,.c .nil),(13,.S 0),(14,.I (d.Fields.length:Int)),(15,.I st.2)])) (fun n st=>z132_40_l4 N d e n st.1 st.2) (r:=r) (fun _=>rfl) ?_ (fun ih=>?_))
 ·intro n4 ih9
  rintro ⟨g0,i0⟩ h
  unfold z132_40_l4 at h
  refine wB' J 5 h (fun h=>wa J 2 (eSub [] (j1 g0 h))) fun h=>?_
  refine wO J 6 h fun j0 k0 h=>eIx J oO4 k0 (wa J 16 (eCut (σ:=ByteArray) (fun st=>⟨[(0,.B 2 0),(3,.B 5 0),(4,.S 6),(5,.c .nil),(7,.B 8 0),(8,.c (.s st)),(13,.S 0),(14,.I (d.Fields.length:Int)),(15,.I i0)],[(2,.box [.bp 2 0,.sl 3,.I e.depth'] 216),(3,.buf e.Builder 5),(4,.abs powT),(5,.box (cC21 0 1 d) 45),(6,.own rS g0 true),(8,.box (cC4 j0) 49)],(vV21 0 1 d []),9⟩) (fun st=>z132_40_k5 N g0 i0 (z132_40_l4 N d e n4) j0 st=some r) ?_ (fun j12=>?_)))
  ·intro l0 h
   unfold z132_40_k5 at h
   refine wO J 5 h fun m0 o0 h=>eCa o0 ?_
   refine wO J 3 h fun p0 q0 h=>eCl (z48_ct N j0.Sort'.Lo _ q0) [] [(0,.sl 4)] ?_
   obtain ⟨s0,t0,h⟩:=ob h
   refine eCa t0 ?_
   obtain ⟨u0,v0,h⟩:=ob h
   refine eCa v0 ?_
   refine wO J 3 h fun x0 y0 h=>eCl (z48_ct N j0.Sort'.Hi _ y0) [] [(0,.sl 4)] ?_
   obtain ⟨z0,A0,h⟩:=ob h
   refine eCa A0 (eBs J [] oS ([z0]:List ByteArray) ?_)
   obtain ⟨B0,C0,h⟩:=ob h
   exact eAp J rS C0 (wa J 1 (eEnd (wa J 5 (eSub [(6,.sl 10)] (ih9 (B0,(w64 (i0+1))) h)))))
  exact eB h (fun h=>wa J 4 (eSub [] (j12 (str [58,32,116,101,120,116,32]) h))) fun h=>wa J 2 (eSub [] (j12 (str [58,32,105,110,116,32]) h))
 exact eSub [(6,.nil)] (ih N (([]:List ByteArray),0) h)
theorem z192_41_ct (N:Nat) (rc:(List T20)→T25→Option T25) (rc_Psyntax_printer_items_al_ct:(∀ (d:(List T20)) (e:T25) (r:T25),rc d e=some r→Fn Tryz.prog 133 ⟨4,[.B 1 0,.S 0],[(0,.sl rR20 d)],[(1,.box [.bp 1 0,.sl 2,.I e.depth'] 216),(2,.buf e.Builder 5),(3,.abs powT)],5,.t [],[],[(2,.gone),(4,.buf r.Builder 5),(1,.box [.bp 1 0,.sl 4,.I r.depth'] 216),(3,.abs powT)]⟩)) (f:ByteArray) (g:ByteArray) (i:ByteArray) (d:(List (List T20))) (e:T25) (r:T25) (h:z192_41 N rc f g i d e=some r) :
 Fn Tryz.prog 192 ⟨4,[.B 1 0,.c (.s f),.c (.s g),.c (.s i),.S 0],[(0,.sl (rSl rR20) d)],[(1,.box [.bp 1 0,.sl 2,.I e.depth'] 216),(2,.buf e.Builder 5),(3,.abs powT)],5,.t [],[],[(2,.gone),(4,.buf r.Builder 5),(1,.box [.bp 1 0,.sl 4,.I r.depth'] 216),(3,.abs powT)]⟩:=by
 refine eFn func192 rfl (fun E F w=>?_)
 unfold z192_41 at h
 refine wa J 7 (eCut (σ:=ByteArray × Int) (fun st=>⟨[(0,.B 1 0)],[(1,.box [.bp 1 0,.sl 4,.I st.2] 216),(3,.abs powT),(4,.buf st.1 5)],[(0,.sl (rSl rR20) d)],5⟩) (fun st=>z192_41_k1 N st.1 st.2=some r) ?_ (fun j1=>?_))
 ·rintro ⟨vbk1_1_1_1,vbk1_1_2_1⟩ h
  unfold z192_41_k1 at h
  refine wa J 2 (eBs J [] oS ([(str [125])]:List ByteArray) ?_)
  obtain ⟨j,k,h⟩:=ob h
  refine eCl (z131_39_ct N ([(str [125])]:List ByteArray) (⟨vbk1_1_1_1,vbk1_1_2_1⟩:T25) _ k) [5] [(0,.sl 5),(1,.bp 1 0),(2,.sl 4)] ?_
  exact oi h▸wr J 1 func192 [(4,.sl 6)]
 refine wa J 1 (eLoop (σ:=ByteArray × Int × Int) (fun st=>⟨[(0,.B 1 0),(1,.c (.s f)),(2,.c (.s g)),(3,.c (.s i)),(4,.S 0),(12,.S 0),(13,.I (d.length:Int)),(14,.I st.2.2)],[(1,.box [.bp 1 0,.sl 4,.I st.2.1] 216),(3,.abs powT),(4,.buf st.1 5)],[(0,.sl (rSl rR20) d)],5⟩) (fun n st=>z192_41_l2 N rc f g i d n st.1 st.2.1 st.2.2) (r:=r) (fun _=>rfl) ?_ (fun ih=>?_))
 ·intro n2 ih6
  rintro ⟨vbk1_1_1_6,vbk1_1_2_6,l⟩ h
  unfold z192_41_l2 at h
  refine wB' J 5 h (fun h=>wa J 2 (eSub [] (j1 (vbk1_1_1_6,vbk1_1_2_6) h))) fun h=>?_
  refine wO J 7 h fun m o h=>eIx J (oSl rR20) o (wa J 12 (eCut (σ:=ByteArray × Int) (fun st=>⟨[(0,.B 1 0),(1,.c (.s f)),(2,.c (.s g)),(3,.c (.s i)),(4,.S 0),(11,.S 6),(12,.S 0),(13,.I (d.length:Int)),(14,.I l)],[(1,.box [.bp 1 0,.sl 7,.I st.2] 216),(3,.abs powT),(7,.buf st.1 5)],[(0,.sl (rSl rR20) d),(6,.sl rR20 m)],8⟩) (fun st=>z192_41_k3 rc l (z192_41_l2 N rc f g i d n2) m st.1 st.2=some r) ?_ (fun j9=>?_)))
  ·rintro ⟨vbk1_1_1_9,vbk1_1_2_9⟩ h
   unfold z192_41_k3 at h
   exact wO J 16 h fun p q h=>eCl (rc_Psyntax_printer_items_al_ct m (⟨vbk1_1_1_9,(w64 (vbk1_1_2_9+1))⟩:T25) _ q) [] [(0,.sl 6),(1,.bp 1 0),(2,.sl 7),(3,.sl 3)] (wa J 16 (eSub [(4,.sl 8)] (ih6 (p.Builder,(w64 (p.depth'-1)),(w64 (l+1))) h)))
  refine eB h (fun h=>wa J 4 (eBs J [] oS ([f,(str [32,123])]:List ByteArray) ?_)) fun h=>?_
  ·obtain ⟨u,v,h⟩:=ob h
   exact eCl (z131_39_ct N ([f,(str [32,123])]:List ByteArray) (⟨vbk1_1_1_6,vbk1_1_2_6⟩:T25) _ v) [7] [(0,.sl 7),(1,.bp 1 0),(2,.sl 4)] (wa J 1 (eSub [(7,.sl 8)] (j9 (u.Builder,u.depth') h)))
  refine wB' J 9 h (fun h=>wa J 9 (eBs J [] oS ([(str [125,32]),g,(str [32,123])]:List ByteArray) ?_)) fun h=>?_
  ·obtain ⟨x,y,h⟩:=ob h
   exact eCl (z131_39_ct N ([(str [125,32]),g,(str [32,123])]:List ByteArray) (⟨vbk1_1_1_6,vbk1_1_2_6⟩:T25) _ y) [7] [(0,.sl 7),(1,.bp 1 0),(2,.sl 4)] (wa J 1 (eSub [(7,.sl 8)] (j9 (x.Builder,x.depth') h)))
  refine wB J 5 h (fun h=>wa J 4 (eBs J [] oS ([(str [125,32]),i,(str [32,123])]:List ByteArray) ?_)) fun h=>wa J 4 (eBs J [] oS ([(str [125,32]),g,(str [32,123])]:List ByteArray) ?_)
  ·obtain ⟨z,A,h⟩:=ob h
   exact eCl (z131_39_ct N ([(str [125,32]),i,(str [32,123])]:List ByteArray) (⟨vbk1_1_1_6,vbk1_1_2_6⟩:T25) _ A) [7] [(0,.sl 7),(1,.bp 1 0),(2,.sl 4)] (wa J 1 (eSub [(7,.sl 8)] (j9 (z.Builder,z.depth') h)))
  obtain ⟨C,D,h⟩:=ob h
  exact eCl (z131_39_ct N ([(str [125,32]),g,(str [32,123])]:List ByteArray) (⟨vbk1_1_1_6,vbk1_1_2_6⟩:T25) _ D) [7] [(0,.sl 7),(1,.bp 1 0),(2,.sl 4)] (wa J 1 (eSub [(7,.sl 8)] (j9 (C.Builder,C.depth') h)))
 exact eSub [(4,.sl 2)] (ih N (e.Builder,e.depth',0) h)
theorem z133_42_b_ct (N:Nat) (rc:(List T20)→T25→Option T25) (rc_Psyntax_printer_items_al_ct:(∀ (c:(List T20)) (d:T25) (r:T25),rc c d=some r→Fn Tryz.prog 133 ⟨4,[.B 1 0,.S 0],[(0,.sl rR20 c)],[(1,.box [.bp 1 0,.sl 2,.I d.depth'] 216),(2,.buf d.Builder 5),(3,.abs powT)],5,.t [],[],[(2,.gone),(4,.buf r.Builder 5),(1,.box [.bp 1 0,.sl 4,.I r.depth'] 216),(3,.abs powT)]⟩)) (c:(List T20)) (d:T25) (r:T25) (h:z133_42_b N rc c d=some r) :
 Fn Tryz.prog 133 ⟨4,[.B 1 0,.S 0],[(0,.sl rR20 c)],[(1,.box [.bp 1 0,.sl 2,.I d.depth'] 216),(2,.buf d.Builder 5),(3,.abs powT)],5,.t [],[],[(2,.gone),(4,.buf r.Builder 5),(1,.box [.bp 1 0,.sl 4,.I r.depth'] 216),(3,.abs powT)]⟩:=by
 refine eFn func133 rfl (fun E F w=>?_)
 unfold z133_42_b at h
 refine wa J 6 (eCut (σ:=ByteArray × Int) (fun st=>⟨[],[(1,.box [.bp 1 0,.sl 4,.I st.2] 216),(3,.abs powT),(4,.buf st.1 5)],[(0,.sl rR20 c)],5⟩) (fun st=>z133_42_k1 st.1 st.2=some r) ?_ (fun j1=>?_))
 ·rintro ⟨vbk1_1_1_1,vbk1_1_2_1⟩ h
  unfold z133_42_k1 at h
  cases h
  exact eRet J func133 [(4,.sl 4)]
 refine wa J 1 (eLoop (σ:=ByteArray × Int × Int) (fun st=>⟨[(0,.B 1 0),(6,.S 0),(7,.I (c.length:Int)),(8,.I st.2.2)],[(1,.box [.bp 1 0,.sl 4,.I st.2.1] 216),(3,.abs powT),(4,.buf st.1 5)],[(0,.sl rR20 c)],5⟩) (fun n st=>z133_42_l2 N rc c n st.1 st.2.1 st.2.2) (r:=r) (fun _=>rfl) ?_ (fun ih=>?_))
 ·intro n2 ih3
  rintro ⟨vbk1_1_1_3,vbk1_1_2_3,e⟩ h
  unfold z133_42_l2 at h
  refine wB' J 5 h (fun h=>wa J 2 (eSub [] (j1 (vbk1_1_1_3,vbk1_1_2_3) h))) fun h=>?_
  refine wO J 6 h fun f g h=>eIx J oO20 g ?_
  refine wB J 15 h (fun h=>?_) fun h=>?_
  ·refine wO J 7 h fun i j h=>eCl (z25_ct N f.To (str [44,32]) _ j) [] [(0,.sl 6)] (wa J 2 (eBs J [] oS ([f.From,(str [32,45,62,32]),i,(str [58,32]),f.Name,(str [59])]:List ByteArray) ?_))
   obtain ⟨k,l,h⟩:=ob h
   exact eCl (z131_39_ct N ([f.From,(str [32,45,62,32]),i,(str [58,32]),f.Name,(str [59])]:List ByteArray) (⟨vbk1_1_1_3,vbk1_1_2_3⟩:T25) _ l) [9] [(0,.sl 9),(1,.bp 1 0),(2,.sl 4)] (eEnd (wa J 6 (eSub [(4,.sl 10)] (ih3 (k.Builder,k.depth',(w64 (e+1))) h))))
  refine wB J 6 h (fun h=>?_) fun h=>?_
  ·refine wB' J 7 h (fun h=>?_) fun h=>?_
   ·refine wO J 5 h fun m o h=>eCa o ?_
    exact wO J 2 h fun p q h=>eCl (z192_41_ct N rc rc_Psyntax_printer_items_al_ct m (str [111,114]) (str []) f.Blocks (⟨vbk1_1_1_3,vbk1_1_2_3⟩:T25) _ q) [] [(0,.sl 7),(1,.bp 1 0),(2,.sl 4),(3,.sl 3)] (wa J 7 (eSub [(4,.sl 9)] (ih3 (p.Builder,p.depth',(w64 (e+1))) h)))
   refine wO J 5 h fun s u h=>eCa u ?_
   obtain ⟨v,x,h⟩:=ob h
   refine eCa x ?_
   refine wO J 2 h fun y z h=>eCl (z48_ct N f.Ticks _ z) [] [(0,.sl 3)] ?_
   obtain ⟨A,C,h⟩:=ob h
   refine eCa C ?_
   exact wO J 2 h fun D G h=>eCl (z192_41_ct N rc rc_Psyntax_printer_items_al_ct A (str [111,114]) (str [101,108,115,101]) f.Blocks (⟨vbk1_1_1_3,vbk1_1_2_3⟩:T25) _ G) [] [(0,.sl 7),(1,.bp 1 0),(2,.sl 4),(3,.sl 3)] (eEnd (wa J 6 (eSub [(4,.sl 9)] (ih3 (D.Builder,D.depth',(w64 (e+1))) h))))
  refine wB J 6 h (fun h=>?_) fun h=>?_
  ·refine wO J 5 h fun H R h=>eCa R ?_
   exact wO J 2 h fun T U h=>eCl (z192_41_ct N rc rc_Psyntax_printer_items_al_ct H (str []) (str []) f.Blocks (⟨vbk1_1_1_3,vbk1_1_2_3⟩:T25) _ U) [] [(0,.sl 7),(1,.bp 1 0),(2,.sl 4),(3,.sl 3)] (wa J 7 (eSub [(4,.sl 9)] (ih3 (T.Builder,T.depth',(w64 (e+1))) h)))
  refine wB J 6 h (fun h=>wa J 5 (eBs J [] oS ([(str [97,103,97,105,110,32]),f.Name,(str [59])]:List ByteArray) ?_)) fun h=>?_
  ·obtain ⟨X,Y,h⟩:=ob h
   exact eCl (z131_39_ct N ([(str [97,103,97,105,110,32]),f.Name,(str [59])]:List ByteArray) (⟨vbk1_1_1_3,vbk1_1_2_3⟩:T25) _ Y) [9] [(0,.sl 9),(1,.bp 1 0),(2,.sl 4)] (wa J 7 (eSub [(4,.sl 10)] (ih3 (X.Builder,X.depth',(w64 (e+1))) h)))
  refine wB J 6 h (fun h=>?_) fun h=>?_
  ·exact wO J 5 h fun Z a0 h=>eCl (z192_41_ct N rc rc_Psyntax_printer_items_al_ct (str [112,97,114]) (str [97,110,100]) (str []) f.Blocks (⟨vbk1_1_1_3,vbk1_1_2_3⟩:T25) _ a0) [] [(0,.sl 7),(1,.bp 1 0),(2,.sl 4),(3,.sl 3)] (wa J 7 (eSub [(4,.sl 9)] (ih3 (Z.Builder,Z.depth',(w64 (e+1))) h)))
  refine wB' J 6 h (fun h=>wa J 8 (eSub [] (ih3 (vbk1_1_1_3,vbk1_1_2_3,(w64 (e+1))) h))) fun h=>?_
  refine wO J 7 h fun b0 c0 h=>eCl (z25_ct N f.To (str [44,32]) _ c0) [] [(0,.sl 6)] (wa J 2 (eBs J [] oS ([(str [99,97,108,108,32]),f.Name,(str [40]),b0,(str [41,32,97,115,32]),f.As,(str [59])]:List ByteArray) ?_))
  obtain ⟨d0,e0,h⟩:=ob h
  exact eCl (z131_39_ct N ([(str [99,97,108,108,32]),f.Name,(str [40]),b0,(str [41,32,97,115,32]),f.As,(str [59])]:List ByteArray) (⟨vbk1_1_1_3,vbk1_1_2_3⟩:T25) _ e0) [9] [(0,.sl 9),(1,.bp 1 0),(2,.sl 4)] (eEnd (wa J 6 (eSub [(4,.sl 10)] (ih3 (d0.Builder,d0.depth',(w64 (e+1))) h))))
 exact eSub [(4,.sl 2)] (ih N (d.Builder,d.depth',0) h)
theorem z133_42_rct:∀ (N:Nat) (c:(List T20)) (d:T25) (r:T25) (h:z133_42_r N c d=some r),Fn Tryz.prog 133 ⟨4,[.B 1 0,.S 0],[(0,.sl rR20 c)],[(1,.box [.bp 1 0,.sl 2,.I d.depth'] 216),(2,.buf d.Builder 5),(3,.abs powT)],5,.t [],[],[(2,.gone),(4,.buf r.Builder 5),(1,.box [.bp 1 0,.sl 4,.I r.depth'] 216),(3,.abs powT)]⟩:=by
 intro N
 induction N with
 | zero=>intros;rename_i h;cases h
 | succ N ih=>intro c d r h;exact z133_42_b_ct N (z133_42_r N) ih c d r h
theorem z133_42_ct (N:Nat) (c:(List T20)) (d:T25) (r:T25) (h:z133_42 N c d=some r):Fn Tryz.prog 133 ⟨4,[.B 1 0,.S 0],[(0,.sl rR20 c)],[(1,.box [.bp 1 0,.sl 2,.I d.depth'] 216),(2,.buf d.Builder 5),(3,.abs powT)],5,.t [],[],[(2,.gone),(4,.buf r.Builder 5),(1,.box [.bp 1 0,.sl 4,.I r.depth'] 216),(3,.abs powT)]⟩:=z133_42_rct N c d r h
theorem z53_43_ct (N:Nat) (d:T25) (r:ByteArray) (h:z53_43 N d=some r) :
 Fn Tryz.prog 53 ⟨2,[.B 0 0],[],[(0,.box [.bp 0 0,.sl 1,.I d.depth'] 216),(1,.buf d.Builder 5)],2,.c (.s r),[],[(0,.box [.bp 0 0,.sl 1,.I d.depth'] 216),(1,.gone)]⟩:=by
 refine eFn func53 rfl (fun E F w=>?_)
 unfold z53_43 at h
 refine wO J 10 h fun e f h=>eUd (ty:=5) (gdB_ok f) (wa J 4 (eBl (sb:=d.Builder) (ty:=5) J ?_))
 obtain ⟨g,i,h⟩:=ob h
 refine eUs (ty:=5) (gdB_ok i) (wa J 1 (eEnd ?_))
 cases h
 exact eRet J func53 []
theorem z53_44_ct (N:Nat) (d:T25) (r:ByteArray) (h:z53_44 N d=some r) :
 Fn Tryz.prog 53 ⟨1,[.B 0 0],[],[(0,.box [.v (.pointer none),.nil,.I d.depth'] 216)],1,.c (.s r),[],[(0,.box [.v (.pointer none),.nil,.I d.depth'] 216)]⟩:=by
 refine eFn func53 rfl (fun E F w=>?_)
 unfold z53_44 at h
 refine wa J 10 (eUn (wa J 5 (eUz (wa J 1 (eEnd ?_)))))
 cases h
 exact eRet J func53 []
theorem z71_ct (N:Nat) (d:(List T22)) (r:ByteArray) (h:z71 N d=some r) :
 Fn Tryz.prog 71 ⟨2,[.S 0],[(0,.sl rR22 d)],[(1,.abs powT)],2,.c (.s r),[],[(1,.abs powT)]⟩:=by
 refine eFn func71 rfl (fun E F w=>?_)
 unfold z71 at h
 refine wa J 18 (ePl ?_)
 refine wB' J 5 h (fun h=>?_) fun h=>?_
 ·refine wO J 7 h fun e f h=>eCl (z53_44_ct N (⟨ByteArray.empty,0⟩:T25) _ f) [] [(0,.bp 2 0)] ?_
  exact oi h▸wr J 2 func71 []
 refine wO J 6 h fun g i h=>eIx J oO22 i ?_
 refine wO J 11 h fun j k h=>eCl (z25_ct N g.Roles (str [44,32]) _ k) [] [(0,.sl 4)] (eBs J [] oS ([(str [112,114,111,116,111,99,111,108,32]),g.Name,(str [40]),j,(str [41,32,123])]:List ByteArray) ?_)
 obtain ⟨l,m,h⟩:=ob h
 refine eCl (z131_36_ct N ([(str [112,114,111,116,111,99,111,108,32]),g.Name,(str [40]),j,(str [41,32,123])]:List ByteArray) (⟨ByteArray.empty,0⟩:T25) _ m) [8] [(0,.sl 8),(1,.bp 2 0)] (eEnd (wa J 19 (eCut (σ:=ByteArray × Int) (fun st=>(zz43 powT st.2 g st.1 d [(3,.B 2 0),(5,.B 7 0),(10,.S 0),(11,.I (d.length:Int)),(12,.I 0)])) (fun st=>z71_k4 N d g st.1 st.2=some r) ?_ (fun j15=>?_))))
 ·rintro ⟨o,p⟩ h
  unfold z71_k4 at h
  refine wO J 5 h fun q t h=>eCl (z133_42_ct N g.Body (⟨o,p⟩:T25) _ t) [] [(0,.sl 6),(1,.bp 2 0),(2,.sl 10),(3,.sl 1)] (wa J 14 (eBs J [] oS ([(str [125])]:List ByteArray) ?_))
  obtain ⟨u,v,h⟩:=ob h
  refine eCl (z131_39_ct N ([(str [125])]:List ByteArray) (⟨q.Builder,(w64 (q.depth'-1))⟩:T25) _ v) [12] [(0,.sl 12),(1,.bp 2 0),(2,.sl 11)] (wa J 6 (eLoopI (σ:=ByteArray × Int × Int) (fun st=>⟨[(3,.B 2 0),(10,.S 0),(11,.I (d.length:Int)),(12,.I st.2.2)],[(1,.abs powT),(2,.box [.bp 2 0,.sl 14,.I st.2.1] 216),(14,.buf st.1 5)],[(0,.sl rR22 d)],15⟩) (fun n st=>z71_l1 N d n st.1 st.2.1 st.2.2) (r:=r) (fun _=>rfl) ?_ (fun ih=>?_)))
  ·intro n15 ih17
   rintro ⟨x,y,z⟩ h
   unfold z71_l1 at h
   refine wB' J 5 h (fun h=>?_) fun h=>?_
   ·refine wO J 7 h fun A C h=>eCl (z53_43_ct N (⟨x,y⟩:T25) _ C) [] [(0,.bp 2 0),(1,.sl 14)] ?_
    exact oi h▸wr J 2 func71 []
   refine wO J 6 h fun D G h=>eIx J oO22 G ?_
   refine wO J 11 h fun H R h=>eCl (z25_ct N D.Roles (str [44,32]) _ R) [] [(0,.sl 16)] (eBs J [] oS ([(str [112,114,111,116,111,99,111,108,32]),D.Name,(str [40]),H,(str [41,32,123])]:List ByteArray) ?_)
   obtain ⟨T,U,h⟩:=ob h
   refine eCl (z131_39_ct N ([(str [112,114,111,116,111,99,111,108,32]),D.Name,(str [40]),H,(str [41,32,123])]:List ByteArray) (⟨x,y⟩:T25) _ U) [20] [(0,.sl 20),(1,.bp 2 0),(2,.sl 14)] (eEnd (wa J 19 (eCut (σ:=ByteArray × Int) (fun st=>(zz44 powT st.2 D st.1 d [(3,.B 2 0),(5,.B 19 0),(10,.S 0),(11,.I (d.length:Int)),(12,.I z)])) (fun st=>z71_k2 N z (z71_l1 N d n15) D st.1 st.2=some r) ?_ (fun j24=>?_))))
   ·rintro ⟨X,Y⟩ h
    unfold z71_k2 at h
    refine wO J 5 h fun Z a0 h=>eCl (z133_42_ct N D.Body (⟨X,Y⟩:T25) _ a0) [] [(0,.sl 18),(1,.bp 2 0),(2,.sl 22),(3,.sl 1)] (wa J 14 (eBs J [] oS ([(str [125])]:List ByteArray) ?_))
    obtain ⟨b0,c0,h⟩:=ob h
    exact eCl (z131_39_ct N ([(str [125])]:List ByteArray) (⟨Z.Builder,(w64 (Z.depth'-1))⟩:T25) _ c0) [24] [(0,.sl 24),(1,.bp 2 0),(2,.sl 23)] (wa J 6 (eSub [(14,.sl 25)] (ih17 (b0.Builder,b0.depth',(w64 (z+1))) h)))
   refine wa J 1 (eLoop (σ:=ByteArray × Int × Int) (fun st=>(zz44 powT st.2.1 D st.1 d [(3,.B 2 0),(5,.B 19 0),(10,.S 0),(11,.I (d.length:Int)),(12,.I z),(32,.S 17),(33,.I (D.Messages.length:Int)),(34,.I st.2.2)])) (fun n st=>z71_l3 N z (z71_l1 N d n15) D n st.1 st.2.1 st.2.2) (r:=r) (fun _=>rfl) ?_ (fun ih=>?_))
   ·intro n17 ih26
    rintro ⟨d0,e0,f0⟩ h
    unfold z71_l3 at h
    refine wB' J 5 h (fun h=>wa J 2 (eSub [] (j24 (d0,e0) h))) fun h=>?_
    refine wO J 6 h fun g0 i0 h=>eIx J oO21 i0 ?_
    exact wO J 7 h fun j0 k0 h=>eCl (z132_40_ct N g0 (⟨d0,e0⟩:T25) _ k0) [] [(0,.sl 24),(1,.sl 25),(2,.bp 2 0),(3,.sl 22),(4,.sl 1)] (wa J 6 (eSub [(22,.sl 27)] (ih26 (j0.Builder,j0.depth',(w64 (f0+1))) h)))
   exact eSub [(22,.sl 21)] (ih N (T.Builder,(w64 (T.depth'+1)),0) h)
  exact eSub [(14,.sl 13)] (ih N (u.Builder,u.depth',(w64 ((0:Int)+(1:Int)))) h)
 refine wa J 1 (eLoop (σ:=ByteArray × Int × Int) (fun st=>(zz43 powT st.2.1 g st.1 d [(3,.B 2 0),(5,.B 7 0),(10,.S 0),(11,.I (d.length:Int)),(12,.I 0),(32,.S 5),(33,.I (g.Messages.length:Int)),(34,.I st.2.2)])) (fun n st=>z71_l5 N d g n st.1 st.2.1 st.2.2) (r:=r) (fun _=>rfl) ?_ (fun ih=>?_))
 ·intro n18 ih27
  rintro ⟨l0,m0,o0⟩ h
  unfold z71_l5 at h
  refine wB' J 5 h (fun h=>wa J 2 (eSub [] (j15 (l0,m0) h))) fun h=>?_
  refine wO J 6 h fun p0 q0 h=>eIx J oO21 q0 ?_
  exact wO J 7 h fun s0 t0 h=>eCl (z132_40_ct N p0 (⟨l0,m0⟩:T25) _ t0) [] [(0,.sl 12),(1,.sl 13),(2,.bp 2 0),(3,.sl 10),(4,.sl 1)] (wa J 6 (eSub [(10,.sl 15)] (ih27 (s0.Builder,s0.depth',(w64 (o0+1))) h)))
 exact eSub [(10,.sl 9)] (ih N (l.Builder,(w64 (l.depth'+1)),0) h)
theorem z28_ct (N:Nat) (c:(List T22)) (r:Bool) (h:z28 N c=some r) :
 Fn Tryz.prog 28 ⟨2,[.S 0],[(0,.sl rR22 c)],[(1,.abs powT)],2,.O r,[],[(1,.abs powT)]⟩:=by
 refine eFn func28 rfl (fun E F w=>?_)
 unfold z28 at h
 refine wB J 11 h (fun h=>oi h▸wr J 5 func28 []) fun h=>wa J 9 (eCut (σ:=Unit) (fun st=>⟨[(0,.S 0)],[(1,.abs powT)],[(0,.sl rR22 c)],2⟩) (fun st=>z28_k1 N c=some r) ?_ (fun j1=>?_))
 ·intro _ h
  unfold z28_k1 at h
  refine wO J 3 h fun d e h=>eCl (z71_ct N c _ e) [] [(0,.sl 0),(1,.sl 1)] ?_
  exact oi h▸wr J 4 func28 []
 refine wa J 1 (eLoop (σ:=Int) (fun st=>⟨[(0,.S 0),(11,.S 0),(12,.I (c.length:Int)),(13,.I st)],[(1,.abs powT)],[(0,.sl rR22 c)],2⟩) (fun n st=>z28_l2 N c n st) (r:=r) (fun _=>rfl) ?_ (fun ih=>?_))
 ·intro n12 ih12
  intro f h
  unfold z28_l2 at h
  refine wB' J 5 h (fun h=>wa J 2 (eSub [] (j1 () h))) fun h=>?_
  refine wO J 6 h fun g i h=>eIx J oO22 i ?_
  refine wO J 14 h fun j k h=>eCl (z67_ct N g.Name _ k) [] [] ?_
  refine wB J 2 h (fun h=>oi h▸wr J 23 func28 []) fun h=>?_
  refine wO J 2 h fun l m h=>eCl (z68_ct N g.Roles 6 _ m) [] [(0,.sl 3)] ?_
  refine wB J 3 h (fun h=>oi h▸wr J 17 func28 []) fun h=>?_
  refine wB J 6 h (fun h=>oi h▸wr J 11 func28 []) fun h=>?_
  refine wO J 2 h fun o p h=>eCl (z69_ct N g.Body 1 0 _ p) [] [(0,.sl 5),(1,.bp 7 0)] ?_
  refine wB J 3 h (fun h=>oi h▸wr J 5 func28 []) fun h=>wa J 9 (eCut (σ:=Unit) (fun st=>⟨[(0,.S 0),(11,.S 0),(12,.I (c.length:Int)),(13,.I f)],[(1,.abs powT)],[(0,.sl rR22 c)],8⟩) (fun st=>z28_k3 f (z28_l2 N c n12)=some r) ?_ (fun j19=>?_))
  ·intro _ h
   unfold z28_k3 at h
   exact wa J 5 (eSub [] (ih12 (w64 (f+1)) h))
  refine wa J 1 (eLoop (σ:=Int) (fun st=>⟨[(0,.S 0),(11,.S 0),(12,.I (c.length:Int)),(13,.I f),(40,.S 4),(41,.I (g.Messages.length:Int)),(42,.I st)],[(1,.abs powT)],[(0,.sl rR22 c),(4,.sl rR21 g.Messages)],8⟩) (fun n st=>z28_l4 N f (z28_l2 N c n12) g n st) (r:=r) (fun _=>rfl) ?_ (fun ih=>?_))
  ·intro n14 ih21
   intro q h
   unfold z28_l4 at h
   refine wB' J 5 h (fun h=>wa J 2 (eSub [] (j19 () h))) fun h=>?_
   refine wO J 6 h fun s t h=>eIx J oO21 t ?_
   refine wO J 7 h fun u v h=>eCl (z70_ct N s _ v) [] [(0,.sl 9),(1,.sl 10)] ?_
   exact wB J 2 h (fun h=>oi h▸wr J 5 func28 []) fun h=>wa J 7 (eSub [] (ih21 (w64 (q+1)) h))
  exact eSub [] (ih N 0 h)
 exact eSub [] (ih N 0 h)
theorem z9_ct (N:Nat) (d:ByteArray) (r:(List T22) × Int × Int) (h:z9 N d=some r) :
 Fn Tryz.prog 9 ⟨1,[.c (.s d)],[],[(0,.abs powT)],2,.t [.inl (.sl 1),.inl (.I r.2.1),.inl (.I r.2.2)],[(1,.sl rR22 r.1)],[(0,.abs powT)]⟩:=by
 refine eFn func9 rfl (fun E F w=>?_)
 unfold z9 at h
 refine wO J 9 h fun e f h=>eCl (z26_ct N d _ f) [] [] ?_
 refine wB J 14 h (fun h=>oi h▸wr J 9 func9 [(1,.nil)]) fun h=>wa J 12 (eCut (σ:=(List T22) × (List T14) × Int × Int × Int × Int) (fun st=>⟨[(2,.S 3),(6,.B 2 0)],[(0,.abs powT),(2,.box [.sl 4,.I st.2.2.1,.I st.2.2.2.1,.I st.2.2.2.2.1,.I st.2.2.2.2.2] 96),(3,.own rR22 st.1 true)],[(4,.sl rR14 st.2.1)],5⟩) (fun st=>z9_k1 N st.1 st.2.1 st.2.2.1 st.2.2.2.1 st.2.2.2.2.1 st.2.2.2.2.2=some r) ?_ (fun j1=>?_))
 ·rintro ⟨g,i,j,k,l,m⟩ h
  unfold z9_k1 at h
  refine wB J 9 h (fun h=>wa J 14 (eEnd ?_)) fun h=>?_
  ·cases h
   exact eRet J func9 [(1,.nil)]
  refine wO J 6 h fun o p h=>eCl (z28_ct N g _ p) [3] [(0,.sl 3),(1,.sl 0)] ?_
  exact wB J 2 h (fun h=>oi h▸wr J 7 func9 [(1,.nil)]) fun h=>oi h▸wr J 9 func9 [(1,.sl 3)]
 refine wa J 1 (eLoop (σ:=(List T22) × (List T14) × Int × Int × Int × Int) (fun st=>⟨[(2,.S 3),(5,.S 1),(6,.B 2 0)],[(0,.abs powT),(2,.box [.sl 4,.I st.2.2.1,.I st.2.2.2.1,.I st.2.2.2.2.1,.I st.2.2.2.2.2] 96),(3,.own rR22 st.1 true)],[(1,.sl rR14 e.1),(4,.sl rR14 st.2.1)],5⟩) (fun n st=>z9_l2 N e n st.1 st.2.1 st.2.2.1 st.2.2.2.1 st.2.2.2.2.1 st.2.2.2.2.2) (r:=r) (fun _=>rfl) ?_ (fun ih=>?_))
 ·intro n2 ih3
  rintro ⟨q,u,v,x,y,z⟩ h
  unfold z9_l2 at h
  refine wB' J 11 h (fun h=>wa J 9 (eSub [] (j1 (q,u,v,x,y,z) h))) fun h=>?_
  refine wB' J 7 h (fun h=>wa J 2 (eSub [] (j1 (q,u,v,x,y,z) h))) fun h=>?_
  refine wO J 6 h fun A C h=>eCl (z27_ct N (⟨u,v,x,y,z⟩:T24) _ C) [] [(0,.bp 2 0),(1,.sl 4)] (eBs J [] oO22 ([A.1]:List T22) ?_)
  obtain ⟨D,G,h⟩:=ob h
  exact eAp J rR22 G (wa J 3 (eSub [(3,.sl 10),(4,.sl 8)] (ih3 (D,A.2.l',A.2.n',A.2.end',A.2.at',A.2.err') h)))
 exact eFr [1] (eSub [(3,.nil),(4,.sl 1)] (ih N (([]:List T22),e.1,0,(d.size:Int),0,0) h))
theorem law43_ExplainParsed_ct (N:Nat) (c:(List T0)) (d:Int) (r:Bool) (h:law43_ExplainParsed N c d=some r) :
 Fn Tryz.prog 3 ⟨2,[.S 0,.I d],[(0,.sl rR0 c)],[(1,.abs powT)],2,.O r,[],[(1,.abs powT)]⟩:=by
 refine eFn func3 rfl (fun E F w=>?_)
 unfold law43_ExplainParsed at h
 refine wO J 7 h fun e f h=>eCl (z4_ct N _ f) [] [(0,.sl 1)] ?_
 refine wB J 2 h (fun h=>oi h▸wr J 5 func3 []) fun h=>?_
 refine wO J 6 h fun g i h=>eCl (z5_ct N c _ i) [] [(0,.sl 0)] ?_
 refine wB J 2 h (fun h=>oi h▸wr J 20 func3 []) fun h=>?_
 refine wO J 1 h fun j k h=>eCl (z6_ct N c _ k) [] [(0,.sl 0)] ?_
 refine wB J 3 h (fun h=>oi h▸wr J 15 func3 []) fun h=>?_
 refine wB J 4 h (fun h=>oi h▸wr J 11 func3 []) fun h=>?_
 refine wB J 6 h (fun h=>oi h▸wr J 5 func3 []) fun h=>?_
 refine wO J 6 h fun l m h=>eIx J oO0 m ?_
 refine wO J 8 h fun o p h=>eCl (z7_ct N c d _ p) [] [(0,.sl 0),(1,.sl 1)] ?_
 refine wO J 6 h fun q s h=>eCl (z8_ct N l _ s) [] [(0,.sl 3),(1,.sl 4),(2,.sl 5)] ?_
 refine wB J 2 h (fun h=>oi h▸wr J 11 func3 []) fun h=>?_
 refine wO J 5 h fun t u h=>eCa u ?_
 obtain ⟨v,x,h⟩:=ob h
 refine eCa x ?_
 obtain ⟨y,z,h⟩:=ob h
 refine eCl (z9_ct N v _ z) [] [(0,.sl 1)] ?_
 refine wB J 14 h (fun h=>oi h▸wr J 18 func3 []) fun h=>?_
 refine wB J 5 h (fun h=>oi h▸wr J 13 func3 []) fun h=>?_
 refine wO J 1 h fun A C h=>eIx J oO22 C ?_
 refine wB J 6 h (fun h=>oi h▸wr J 5 func3 []) fun h=>?_
 refine wO J 5 h fun D G h=>eIx J oO22 G ?_
 refine wO J 2 h fun H R h=>eIx J oO21 R ?_
 refine wB J 13 h (fun h=>wa J 16 (eEnd (oi h▸wr J 5 func3 []))) fun h=>?_
 refine wB J 9 h (fun h=>wa J 7 (eEnd (oi h▸wr J 5 func3 []))) fun h=>?_
 refine wO J 4 h fun T U h=>eCl (z8_ct N l _ U) [] [(0,.sl 3),(1,.sl 4),(2,.sl 5)] (wa J 2 (eEnd ?_))
 refine eB h (fun h=>oi h▸wr J 5 func3 []) fun h=>wa J 7 (eCut (σ:=Unit) (fun st=>⟨[],[(1,.abs powT)],[(0,.sl rR0 c)],20⟩) (fun st=>law43_ExplainParsed_k1=some r) ?_ (fun j1=>?_))
 ·intro _ h
  unfold law43_ExplainParsed_k1 at h
  exact oi h▸wr J 4 func3 []
 refine wa J 1 (eLoop (σ:=Int) (fun st=>⟨[(5,.B 6 0),(10,.B 19 0),(11,.I st)],[(1,.abs powT),(6,.box (cC0 3 4 5 l) 31),(19,.box (cC21 17 18 H) 45)],((0,.sl rR0 c)::(3,.sl rR4 l.Fields)::(4,.sl rR1 l.Guard.Diffs)::(5,.sl (rP (rI .i64) (rI .i64)) l.Guard.Equals)::vV21 17 18 H []),20⟩) (fun n st=>law43_ExplainParsed_l2 l H n st) (r:=r) (fun _=>rfl) ?_ (fun ih=>?_))
 ·intro n2 ih3
  intro X h
  unfold law43_ExplainParsed_l2 at h
  refine wB' J 9 h (fun h=>wa J 2 (eSub [] (j1 () h))) fun h=>?_
  refine wO J 9 h fun Y Z h=>eIx J oO4 Z ?_
  refine wO J 4 h fun a0 b0 h=>eIx J oO4 b0 (wa J 1 (eEq (eEnd ?_)))
  exact eB h (fun h=>oi h▸wr J 5 func3 []) fun h=>wa J 8 (eSub [] (ih3 (w64 (X+1)) h))
 exact eSub [] (ih N 0 h)
end Gx
end
