/- Each function of the statement computes what its plain definition says, part 2. -/
import Derived.Test.YtpkbkcejjnemaaaGreatDoorExplainSuggestWalk1
set_option linter.all false
section
set_option maxRecDepth 10000
set_option maxHeartbeats 4000000
open Go Go.Kx Go.Proofs Tryz
namespace Gx
theorem Zvq (N:Nat) (c:T0) (d:(List T12)) (r:(List T12)) (h:QD N c d=some r) :
 Fn Tryz.prog 62 ⟨4,[.a (Y5 0 1 2 c),.S 3],(Y3 0 1 2 c []),[(3,.own Ym d false)],4,.t [],[],[(3,.own Ym r false)]⟩:=by
 refine Ya func62 rfl (fun E F w=>?_)
 unfold QD at h
 refine wO J 8 h fun e f h=>Ur J oB f (wa J 9 (Yf (σ:=(List Bool)) (fun st=>(D4 d c st [(1,.S 3),(2,.B 4 0),(4,.S 5)])) (fun st=>RF N c d st=some r) ?_ (fun j1=>?_)))
 ·intro g h
  unfold RF at h
  refine wa J 4 (Yf (σ:=(List T12)) (fun st=>⟨[],[(3,.own Ym st false)],(Y3 0 1 2 c []),6⟩) (fun st=>Zf4 st=some r) ?_ (fun j3=>?_))
  ·intro j h
   unfold Zf4 at h
   cases h
   exact YW J func62 []
  refine wa J 1 (Yn (σ:=(List T12) × (List Bool) × Bool) (fun st=>(D4 st.1 c st.2.1 [(1,.S 3),(2,.B 4 0),(4,.S 5),(6,.O st.2.2)])) (fun n st=>WN N c n st.1 st.2.1 st.2.2) (r:=r) (fun _=>rfl) ?_ (fun ih=>?_))
  ·intro n73 ih176
   rintro ⟨k,l,m⟩ h
   unfold WN at h
   refine Z7 J 5 h (fun h=>wa J 2 (Z2 [] (j3 k h))) fun h=>wa J 15 (Yf (σ:=(List T12) × (List Bool) × Bool) (fun st=>(D4 st.1 c st.2.1 [(1,.S 3),(2,.B 4 0),(4,.S 5),(6,.O st.2.2)])) (fun st=>Zf5 (WN N c n73) st.1 st.2.1 st.2.2=some r) ?_ (fun j291=>?_))
   ·rintro ⟨o,p,q⟩ h
    unfold Zf5 at h
    exact wa J 1 (Z2 [] (ih176 (o,p,q) h))
   refine wa J 1 (Yn (σ:=(List T12) × (List Bool) × Bool × Int) (fun st=>(D4 st.1 c st.2.1 [(1,.S 3),(2,.B 4 0),(4,.S 5),(6,.O st.2.2.1),(49,.S 2),(50,.I (c.ZB.Zy.length:Int)),(51,.I st.2.2.2)])) (fun n st=>Vn N c (WN N c n73) n st.1 st.2.1 st.2.2.1 st.2.2.2) (r:=r) (fun _=>rfl) ?_ (fun ih=>?_))
   ·intro n85 ih320
    rintro ⟨s,u,v,x⟩ h
    unfold Vn at h
    refine Z7 J 5 h (fun h=>wa J 2 (Z2 [] (j291 (s,u,v) h))) fun h=>?_
    refine wO J 6 h fun y z h=>Yc J (oP (oI .i64) (oI .i64)) z (wa J 9 (Yf (σ:=(List T12) × (List Bool) × Bool) (fun st=>⟨[(1,.S 3),(2,.B 4 0),(4,.S 5),(6,.O st.2.2),(49,.S 2),(50,.I (c.ZB.Zy.length:Int)),(51,.I x)],[(3,.own Ym st.1 false),(4,.box (Y5 0 1 2 c) 59),(5,.own rB st.2.1 true)],(Y3 0 1 2 c []),8⟩) (fun st=>DT x (Vn N c (WN N c n73) n85) st.1 st.2.1 st.2.2=some r) ?_ (fun j339=>?_)))
    ·rintro ⟨A,C,D⟩ h
     unfold DT at h
     exact wa J 5 (Z2 [] (ih320 (A,C,D,(Z1 (x+1))) h))
    refine wa J 1 (Yn (σ:=(List T12) × (List Bool) × Bool × Int) (fun st=>(ZlV st.1 c st.2.1 y.1 y.2 [(1,.S 3),(2,.B 4 0),(4,.S 5),(6,.O st.2.2.1),(8,.B 7 0),(49,.S 2),(50,.I (c.ZB.Zy.length:Int)),(51,.I x),(55,.a [.I y.1,.I y.2]),(56,.I st.2.2.2)])) (fun n st=>Vz x (Vn N c (WN N c n73) n85) y n st.1 st.2.1 st.2.2.1 st.2.2.2) (r:=r) (fun _=>rfl) ?_ (fun ih=>?_))
    ·intro n87 ih344
     rintro ⟨G,H,R,T⟩ h
     unfold Vz at h
     refine Z7 J 5 h (fun h=>wa J 2 (Z2 [] (j339 (G,H,R) h))) fun h=>?_
     refine wO J 7 h fun U X h=>Bv (SC.i .i64) ([y.1,y.2]:List Int) X ?_
     refine wa J 7 (Yf (σ:=Int) (fun st=>(ZlV G c H y.1 y.2 [(1,.S 3),(2,.B 4 0),(4,.S 5),(6,.O R),(8,.B 7 0),(10,.I U),(11,.I st),(49,.S 2),(50,.I (c.ZB.Zy.length:Int)),(51,.I x),(55,.a [.I y.1,.I y.2]),(56,.I T)])) (fun st=>QE G H R T (Vz x (Vn N c (WN N c n73) n85) y n87) U st=some r) ?_ (fun j347=>?_))
     ·intro Y h
      unfold QE at h
      refine wO J 4 h fun Z a0 h=>YB J rB a0 (Y1 J oB a0 ?_)
      refine Z7 J 1 h (fun h=>wa J 14 (Z2 [] (ih344 (G,H,R,(Z1 (T+1))) h))) fun h=>?_
      refine wO J 2 h fun b0 c0 h=>YB J rB c0 (Y1 J oB c0 ?_)
      refine Z7 J 3 h (fun h=>wa J 7 (Z2 [] (ih344 (G,H,R,(Z1 (T+1))) h))) fun h=>?_
      refine wO J 8 h fun d0 e0 h=>YB J Ym e0 (wa J 1 (Y1 J YR e0 ?_))
      have ⟨f0,g0,h⟩:=ob h
      refine YB J Ym g0 (wa J 1 (XS J [] YR (⟨f0.Zt,f0.N,d0.S⟩:T12) g0 ?_))
      have ⟨i0,j0,h⟩:=ob h
      exact YB J rB j0 (XS J [] oB true j0 (wa J 7 (Z2 [] (ih344 ((YA G U (⟨f0.Zt,f0.N,d0.S⟩:T12)),(YA H U true),true,(Z1 (T+1))) h))))
     obtain ⟨K,h⟩|⟨K,h⟩:=oc h
     ·exact W7 0 (by exact eq_of_beq K) (wa J 3 (Z2 [] (j347 y.1 h)))
     obtain ⟨K,h⟩|⟨K,h⟩:=oc h
     ·exact W7 1 (by exact eq_of_beq K) (wa J 3 (Z2 [] (j347 y.2 h)))
     cases h
    exact Z2 [] (ih N (s,u,v,0) h)
   exact Z2 [] (ih N (k,l,false,0) h)
  exact Z2 [] (ih N (d,g,true) h)
 refine wa J 1 (Yn (σ:=(List Bool) × Int) (fun st=>(D4 d c st.1 [(1,.S 3),(2,.B 4 0),(4,.S 5),(16,.I (d.length:Int)),(17,.I st.2)])) (fun n st=>UC N c d n st.1 st.2) (r:=r) (fun _=>rfl) ?_ (fun ih=>?_))
 ·intro n88 ih348
  rintro ⟨k0,l0⟩ h
  unfold UC at h
  refine Z7 J 5 h (fun h=>wa J 2 (Z2 [] (j1 k0 h))) fun h=>?_
  refine wB J 17 h (fun h=>?_) fun h=>?_
  ·refine wO J 12 h fun m0 o0 h=>YB J Ym o0 (wa J 1 (Y1 J YR o0 ?_))
   exact wO J 2 h fun p0 q0 h=>YB J rB q0 (XS J [] oB (m0.Zt != 0) q0 (wa J 6 (Z2 [] (ih348 ((YA k0 l0 (m0.Zt != 0)),(Z1 (l0+1))) h))))
  refine Z7 J 10 h (fun h=>?_) fun h=>?_
  ·exact wO J 7 h fun s0 t0 h=>YB J rB t0 (XS J [] oB false t0 (wa J 6 (Z2 [] (ih348 ((YA k0 l0 false),(Z1 (l0+1))) h))))
  refine wO J 2 h fun u0 v0 h=>YB J Ym v0 (wa J 1 (Y1 J YR v0 ?_))
  exact wO J 2 h fun x0 y0 h=>YB J rB y0 (XS J [] oB (u0.Zt != 0) y0 (wa J 6 (Z2 [] (ih348 ((YA k0 l0 (u0.Zt != 0)),(Z1 (l0+1))) h))))
 exact Z2 [] (ih N (e,0) h)
theorem ZuW (N:Nat) (c:(List T0)) (d:Int) (e:(List T12)) (r:(List T12) × Bool) (h:z25 N c d e=some r) :
 Fn Tryz.prog 25 ⟨2,[.S 0,.I d,.S 1],[(0,.sl Ys c),(1,.sl Ym e)],[],3,.t [.inl (.sl 2),.inl (.b r.2)],[],[(2,.own Ym r.1 true)]⟩:=by
 refine Ya func25 rfl (fun E F w=>?_)
 unfold z25 at h
 refine wO J 11 h fun f g h=>Z6 (Zf0 N c d e _ g) [] [(0,.sl 0),(1,.sl 1)] ?_
 refine wB J 2 h (fun h=>oi h▸wr J 6 func25 [(2,.nil)]) fun h=>?_
 refine wO J 6 h fun j k h=>Yc J Xu k ?_
 refine wO J 14 h fun l m h=>Z6 (Zvl N (j.Zz.length:Int) _ m) [] [] ?_
 refine wO J 11 h fun o p h=>Z6 (ZlA N j _ p) [] [(0,.sl 3),(1,.sl 4),(2,.sl 5)] (wa J 3 (Yf (σ:=Int × (List Int)) (fun st=>⟨[(2,.S 1),(8,.B 6 0),(9,.I (j.Zz.length:Int)),(10,.B 8 0)],[(6,.box (Y5 3 4 5 j) 59),(8,.box [.I st.1,.sl 10] 117)],((0,.sl Ys c)::(1,.sl Ym e)::Y3 3 4 5 j [(10,.sl (rI .i64) st.2)]),11⟩) (fun st=>SQ N e j st.1 st.2=some r) ?_ (fun j1=>?_)))
 ·rintro ⟨q,s⟩ h
  unfold SQ at h
  refine wO J 3 h fun u v h=>Z6 (Zvn N (⟨q,s⟩:Yi) _ v) [] [(0,.sl 10)] ?_
  refine wB J 12 h (fun h=>oi h▸wr J 6 func25 [(2,.nil)]) fun h=>?_
  refine wO J 5 h fun x y h=>Ur J YR y (wa J 10 (Yf (σ:=(List T12)) (fun st=>⟨[(2,.S 1),(8,.B 6 0),(9,.I (j.Zz.length:Int)),(20,.S 12)],[(6,.box (Y5 3 4 5 j) 59),(12,.own Ym st true)],((0,.sl Ys c)::(1,.sl Ym e)::Y3 3 4 5 j []),13⟩) (fun st=>Sb N e j st=some r) ?_ (fun j36=>?_)))
  ·intro z h
   unfold Sb at h
   refine wO J 5 h fun A D h=>X2 (Zf3 N j z e _ D) [] [(0,.sl 3),(1,.sl 4),(2,.sl 5),(3,.sl 12),(4,.sl 1)] [12] (.inr ⟨rfl,⟨(Zjs (Zam (MY _) (Zam (MY _) Zju))),trivial⟩⟩) ?_
   refine wO J 6 h fun G H h=>Z6 (Zvq N j A _ H) [] [(0,.sl 3),(1,.sl 4),(2,.sl 5),(3,.sl 13)] ?_
   refine wO J 11 h fun R T h=>TK J Ym T ?_
   have ⟨U,Z,h⟩:=ob h
   refine eDp J Ym T Z ?_
   refine wO J 7 h fun a0 b0 h=>X2 (ZlB N j.ZB G _ b0) [] [(0,.sl 4),(1,.sl 5),(2,.sl 13)] [13] (.inr ⟨rfl,trivial⟩) ?_
   refine wB J 2 h (fun h=>oi h▸wr J 13 func25 [(2,.nil)]) fun h=>?_
   refine wO J 3 h fun c0 d0 h=>X2 (Zf7 N j.Zz U.1 _ d0) [] [(0,.sl 3),(1,.sl 12)] [12] (.inr ⟨rfl,trivial⟩) ?_
   exact wB J 3 h (fun h=>oi h▸wr J 6 func25 [(2,.nil)]) fun h=>oi h▸wr J 8 func25 [(2,.sl 12)]
  refine wa J 1 (Yn (σ:=(List T12) × Int) (fun st=>⟨[(2,.S 1),(8,.B 6 0),(9,.I (j.Zz.length:Int)),(18,.S 11),(20,.S 12),(129,.S 3),(130,.I (j.Zz.length:Int)),(131,.I st.2)],[(6,.box (Y5 3 4 5 j) 59),(11,.own (rI .i64) u.1 true),(12,.own Ym st.1 true)],((0,.sl Ys c)::(1,.sl Ym e)::Y3 3 4 5 j []),13⟩) (fun n st=>Tq N e j u n st.1 st.2) (r:=r) (fun _=>rfl) ?_ (fun ih=>?_))
  ·intro n9 ih38
   rintro ⟨e0,f0⟩ h
   unfold Tq at h
   refine Z7 J 5 h (fun h=>wa J 2 (Z2 [] (j36 e0 h))) fun h=>?_
   refine wO J 7 h fun g0 i0 h=>Yc J WE i0 ?_
   refine wO J 14 h fun j0 k0 h=>YB J (rI .i64) k0 (Y1 J (oI .i64) k0 ?_)
   refine wO J 1 h fun l0 m0 h=>YB J Ym m0 (XS J [] YR (⟨g0.Zv.Zt,j0,(str [])⟩:T12) m0 (Yl ?_))
   refine Z7 J 7 h (fun h=>wa J 7 (Z2 [] (ih38 ((YA e0 f0 (⟨g0.Zv.Zt,j0,(str [])⟩:T12)),(Z1 (f0+1))) h))) fun h=>?_
   refine wO J 6 h fun o0 p0 h=>YB J (rI .i64) p0 (Y1 J (oI .i64) p0 ?_)
   have ⟨q0,s0,h⟩:=ob h
   refine Z6 (Zvp N (str [97]) o0 _ s0) [] [] ?_
   exact wO J 1 h fun t0 u0 h=>YB J Ym u0 (XS J [] YR (⟨2,0,q0⟩:T12) u0 (wa J 6 (Z2 [] (ih38 ((YA (YA e0 f0 (⟨g0.Zv.Zt,j0,(str [])⟩:T12)) f0 (⟨2,0,q0⟩:T12)),(Z1 (f0+1))) h))))
  exact Z2 [] (ih N (x,0) h)
 refine wa J 1 (Yn (σ:=Int × (List Int) × Int) (fun st=>⟨[(2,.S 1),(8,.B 6 0),(9,.I (j.Zz.length:Int)),(10,.B 8 0),(42,.S 9),(43,.I (o.length:Int)),(44,.I st.2.2)],[(6,.box (Y5 3 4 5 j) 59),(8,.box [.I st.1,.sl 10] 117),(9,.own Xe o true)],((0,.sl Ys c)::(1,.sl Ym e)::Y3 3 4 5 j [(10,.sl (rI .i64) st.2.1)]),11⟩) (fun n st=>Vm N e j o n st.1 st.2.1 st.2.2) (r:=r) (fun _=>rfl) ?_ (fun ih=>?_))
 ·intro n14 ih39
  rintro ⟨v0,x0,y0⟩ h
  unfold Vm at h
  refine Z7 J 5 h (fun h=>wa J 2 (Z2 [] (j1 (v0,x0) h))) fun h=>?_
  refine wO J 6 h fun z0 A0 h=>YB J Xe A0 (Y1 J Uv A0 (wa J 25 (Yf (σ:=Int × Int × Int) (fun st=>(Zgw j v0 o st.2.1 st.2.2 c e x0 [(2,.S 1),(8,.B 6 0),(9,.I (j.Zz.length:Int)),(10,.B 8 0),(14,.I st.1),(15,.B 13 0),(42,.S 9),(43,.I (o.length:Int)),(44,.I y0)])) (fun st=>ZfK N v0 x0 y0 (Vm N e j o n14) st.1 st.2.1 st.2.2=some r) ?_ (fun j62=>?_))))
  ·rintro ⟨B0,C0,D0⟩ h
   unfold ZfK at h
   refine wa J 2 (W7 0 rfl (wa J 1 (W7 1 rfl ?_)))
   exact wO J 3 h fun G0 H0 h=>Z6 (Zvm N (⟨v0,x0⟩:Yi) (⟨C0,D0,B0⟩:T1) _ H0) [] [(0,.sl 10)] (wa J 10 (Z2 [(10,.sl 14)] (ih39 (G0.1.N,G0.1.B,(Z1 (y0+1))) h)))
  refine wa J 1 (Yn (σ:=Int × Int × Int × Int) (fun st=>(Zgw j v0 o st.2.1 st.2.2.1 c e x0 [(2,.S 1),(8,.B 6 0),(9,.I (j.Zz.length:Int)),(10,.B 8 0),(14,.I st.1),(15,.B 13 0),(42,.S 9),(43,.I (o.length:Int)),(44,.I y0),(55,.a [.I z0.X,.I z0.Y]),(56,.I st.2.2.2)])) (fun n st=>WM N e j v0 x0 y0 (Vm N e j o n14) z0 n st.1 st.2.1 st.2.2.1 st.2.2.2) (r:=r) (fun _=>rfl) ?_ (fun ih=>?_))
  ·intro n16 ih68
   rintro ⟨I0,L0,M0,O0⟩ h
   unfold WM at h
   refine Z7 J 5 h (fun h=>wa J 2 (Z2 [] (j62 (I0,L0,M0) h))) fun h=>?_
   refine wO J 7 h fun R0 S0 h=>Bv (SC.i .i64) ([z0.X,z0.Y]:List Int) S0 ?_
   refine wB J 10 h (fun h=>wa J 8 (Z2 [] (ih68 (I0,L0,M0,(Z1 (O0+1))) h))) fun h=>?_
   refine wa J 8 (Yf (σ:=Bool) (fun st=>(Zgw j v0 o L0 M0 c e x0 [(2,.S 1),(8,.B 6 0),(9,.I (j.Zz.length:Int)),(10,.B 8 0),(14,.I I0),(15,.B 13 0),(16,.I O0),(17,.I R0),(42,.S 9),(43,.I (o.length:Int)),(44,.I y0),(55,.a [.I z0.X,.I z0.Y]),(56,.I O0),(70,.O st)])) (fun st=>V4 N e j I0 L0 M0 O0 (WM N e j v0 x0 y0 (Vm N e j o n14) z0 n16) R0 st=some r) ?_ (fun j72=>?_))
   ·intro T0 h
    unfold V4 at h
    refine eB h (fun h=>?_) fun h=>?_
    ·obtain ⟨K,h⟩|⟨K,h⟩:=oc h
     ·exact wa J 7 (W7 0 (by exact eq_of_beq K) (wa J 8 (Z2 [] (ih68 (I0,(Z1 (R0-j.ZA)),M0,(Z1 (O0+1))) h))))
     obtain ⟨K,h⟩|⟨K,h⟩:=oc h
     ·exact wa J 7 (W7 1 (by exact eq_of_beq K) (wa J 8 (Z2 [] (ih68 (I0,L0,(Z1 (R0-j.ZA)),(Z1 (O0+1))) h))))
     cases h
    refine wO J 5 h fun U0 V0 h=>Yc J YR V0 ?_
    refine wB J 5 h (fun h=>oi h▸wr J 6 func25 [(2,.nil)]) fun h=>?_
    refine wB J 7 h (fun h=>?_) fun h=>?_
    ·refine wO J 5 h fun X0 Y0 h=>Yc J YR Y0 ?_
     exact wO J 1 h fun Z0 a1 h=>Z6 (DS N X0 _ a1) [] [] (wa J 9 (Z2 [] (ih68 ((Z1 (I0-Z0)),L0,M0,(Z1 (O0+1))) h)))
    refine wO J 5 h fun b1 c1 h=>Yc J YR c1 ?_
    exact wO J 1 h fun d1 e1 h=>Z6 (DS N b1 _ e1) [] [] (wa J 9 (Z2 [] (ih68 ((Z1 (I0+d1)),L0,M0,(Z1 (O0+1))) h)))
   exact eB h (fun h=>wa J 9 (Z2 [] (j72 (decide (R0 < (Z1 (j.ZA+(j.Zz.length:Int))))) h))) fun h=>wa J 9 (Z2 [] (j72 false h))
  exact Z2 [] (ih N (z0.C,(-1),(-1),0) h)
 exact Z2 [(10,.sl 7)] (ih N (l.1.N,l.1.B,0) h)
theorem ZlF (N:Nat) (c:T5) (d:T8) (e:Yt) (r:(List T3)) (h:z7 N c d e=some r) :
 Fn Tryz.prog 7 ⟨9,[.a (YH 0 1 2 3 c),.a (YM 4 5 6 d),.a (X8 7 8 e)],((0,.sl rS c.ZI)::(1,.sl Ys c.ZJ)::(2,.sl Xb c.ZO)::(3,.sl YN c.ZP)::(4,.sl rB d.ZT)::(5,.sl Wh d.ZU)::(6,.sl YN d.ZP)::Wm 7 8 e []),[],10,.S 9,[],[(9,.own Xf r true)]⟩:=by
 refine Ya func7 rfl (fun E F w=>?_)
 unfold z7 at h
 refine wO J 13 h fun f g h=>Z6 (ZbK N c d e _ g) [] [(0,.sl 0),(1,.sl 1),(2,.sl 2),(3,.sl 3),(4,.sl 4),(5,.sl 5),(6,.sl 6),(7,.sl 7),(8,.sl 8)] ?_
 refine wB J 2 h (fun h=>oi h▸wr J 5 func7 [(9,.nil)]) fun h=>?_
 refine wO J 12 h fun i j h=>Z6 (Zll N d e.At _ j) [] [(0,.sl 4),(1,.sl 5),(2,.sl 6)] (wa J 3 (Yf (σ:=(List T3)) (fun st=>(ZlW st c.ZI c.ZJ c.ZO c.ZP d.ZT d.ZU d.ZP e [(7,.S 13)])) (fun st=>Zck st=some r) ?_ (fun j1=>?_)))
 ·intro k h
  unfold Zck at h
  exact oi h▸wr J 5 func7 [(9,.sl 13)]
 refine wa J 1 (Yn (σ:=(List T3) × Int) (fun st=>⟨[(3,.B 9 0),(4,.B 10 0),(5,.B 11 0),(7,.S 13),(21,.S 12),(22,.I (i.length:Int)),(23,.I st.2)],[(9,.box (YH 0 1 2 3 c) 27),(10,.box (YM 4 5 6 d) 31),(11,.box (X8 7 8 e) 42),(13,.own Xf st.1 true)],((0,.sl rS c.ZI)::(1,.sl Ys c.ZJ)::(2,.sl Xb c.ZO)::(3,.sl YN c.ZP)::(4,.sl rB d.ZT)::(5,.sl Wh d.ZU)::(6,.sl YN d.ZP)::Wm 7 8 e [(12,.sl (rI .i64) i)]),14⟩) (fun n st=>Sf N c d e i n st.1 st.2) (r:=r) (fun _=>rfl) ?_ (fun ih=>?_))
 ·intro n2 ih6
  rintro ⟨l,m⟩ h
  unfold Sf at h
  refine Z7 J 5 h (fun h=>wa J 2 (Z2 [] (j1 l h))) fun h=>?_
  refine wO J 6 h fun o p h=>Yc J (oI .i64) p ?_
  refine wO J 8 h fun q s h=>Yc J XM s ?_
  refine wO J 12 h fun t u h=>Z6 (ZuW N c.ZJ q.ZD e.ZW _ u) [] [(0,.sl 1),(1,.sl 7)] (wa J 12 (Yf (σ:=(List T12) × Bool) (fun st=>⟨[(3,.B 9 0),(4,.B 10 0),(5,.B 11 0),(7,.S 13),(10,.B 16 0),(11,.S 18),(12,.O st.2),(21,.S 12),(22,.I (i.length:Int)),(23,.I m)],[(9,.box (YH 0 1 2 3 c) 27),(10,.box (YM 4 5 6 d) 31),(11,.box (X8 7 8 e) 42),(13,.own Xf l true),(16,.box (TG q) 65),(18,.own Ym st.1 true)],((0,.sl rS c.ZI)::(1,.sl Ys c.ZJ)::(2,.sl Xb c.ZO)::(3,.sl YN c.ZP)::(4,.sl rB d.ZT)::(5,.sl Wh d.ZU)::(6,.sl YN d.ZP)::Wm 7 8 e [(12,.sl (rI .i64) i)]),19⟩) (fun st=>DY d l m (Sf N c d e i n2) q st.1 st.2=some r) ?_ (fun j9=>?_)))
  ·rintro ⟨v,x⟩ h
   unfold DY at h
   refine Z7 J 4 h (fun h=>wa J 7 (Z2 [] (ih6 (l,(Z1 (m+1))) h))) fun h=>wa J 13 (YS J [18] Uw ([(⟨d.ZS,q.ZQ,q.ZR,q.ZD,v⟩:T3)]:List T3) ?_)
   have ⟨y,z,h⟩:=ob h
   exact Xc J Xf z (wa J 7 (Z2 [(13,.sl 20)] (ih6 (y,(Z1 (m+1))) h)))
  refine Ub h (fun h=>wa J 2 (Z2 [(18,.sl 17)] (j9 (t.1,t.2) h))) fun h=>?_
  refine wO J 4 h fun A C h=>Z6 (ZfO N e.ZX _ C) [] [(0,.sl 8)] ?_
  exact wO J 8 h fun D G h=>Z6 (Zlp N c.ZJ q.ZD e.ZX e.ZW _ G) [] [(0,.sl 1),(1,.sl 8),(2,.sl 7)] (wa J 2 (Yl (Z2 [] (j9 (A,D) h))))
 exact Z2 [(13,.nil)] (ih N (([]:List T3),0) h)
theorem ZtK (N:Nat) (c:(List ByteArray)) (d:(List ByteArray)) (r:Bool) (h:z14 N c d=some r) :
 Fn Tryz.prog 14 ⟨2,[.S 0,.S 1],[(0,.sl rS c),(1,.sl rS d)],[],2,.O r,[],[]⟩:=by
 refine Ya func14 rfl (fun E F w=>?_)
 unfold z14 at h
 refine wB J 13 h (fun h=>oi h▸wr J 5 func14 []) fun h=>wa J 7 (Yf (σ:=Unit) (fun st=>⟨[],[],[(0,.sl rS c),(1,.sl rS d)],2⟩) (fun st=>Zfa=some r) ?_ (fun j1=>?_))
 ·intro _ h
  unfold Zfa at h
  exact oi h▸wr J 4 func14 []
 refine wa J 1 (Yn (σ:=Int) (fun st=>⟨[(0,.S 0),(1,.S 1),(5,.I st)],[],[(0,.sl rS c),(1,.sl rS d)],2⟩) (fun n st=>ZaY c d n st) (r:=r) (fun _=>rfl) ?_ (fun ih=>?_))
 ·intro n2 ih3
  intro e h
  unfold ZaY at h
  refine Z7 J 8 h (fun h=>wa J 2 (Z2 [] (j1 () h))) fun h=>?_
  refine wO J 8 h fun f g h=>Yc J oS g ?_
  refine wO J 3 h fun i j h=>Yc J oS j (wa J 2 (Yl ?_))
  exact eB h (fun h=>oi h▸wr J 5 func14 []) fun h=>wa J 8 (Z2 [] (ih3 (Z1 (e+1)) h))
 exact Z2 [] (ih N 0 h)
theorem ZtZ (N:Nat) (c:Int) (r:T12) (h:z16 N c=some r) :
 Fn Tryz.prog 16 ⟨0,[.I c],[],[],0,.a (W5 r),[],[]⟩:=by
 refine Ya func16 rfl (fun E F w=>?_)
 unfold z16 at h
 exact oi h▸wr J 10 func16 []
theorem Zk8 (N:Nat) (c:(List T12)) (d:(List T12)) (r:Bool) (h:Qp N c d=some r) :
 Fn Tryz.prog 15 ⟨2,[.S 0,.S 1],[(0,.sl Ym c),(1,.sl Ym d)],[],2,.O r,[],[]⟩:=by
 refine Ya func15 rfl (fun E F w=>?_)
 unfold Qp at h
 refine wB J 13 h (fun h=>oi h▸wr J 5 func15 []) fun h=>wa J 7 (Yf (σ:=Unit) (fun st=>(QS c d [])) (fun st=>Zfk=some r) ?_ (fun j1=>?_))
 ·intro _ h
  unfold Zfk at h
  exact oi h▸wr J 4 func15 []
 refine wa J 1 (Yn (σ:=Int) (fun st=>(QS c d [(0,.S 0),(1,.S 1),(5,.I st)])) (fun n st=>PO c d n st) (r:=r) (fun _=>rfl) ?_ (fun ih=>?_))
 ·intro n2 ih3
  intro e h
  unfold PO at h
  refine Z7 J 8 h (fun h=>wa J 2 (Z2 [] (j1 () h))) fun h=>?_
  refine wO J 8 h fun f g h=>Yc J YR g ?_
  refine wO J 3 h fun i j h=>Yc J YR j (wa J 1 (RT (Yl ?_)))
  exact eB h (fun h=>oi h▸wr J 5 func15 []) fun h=>wa J 8 (Z2 [] (ih3 (Z1 (e+1)) h))
 exact Z2 [] (ih N 0 h)
theorem Zvh (N:Nat) (r:Bool) (h:z4 N=some r) :
 Fn Tryz.prog 4 ⟨1,[],[],[(0,.abs powT)],1,.O r,[],[(0,.abs powT)]⟩:=by
 refine Ya func4 rfl (fun E F w=>?_)
 unfold z4 at h
 refine wa J 13 (YS J [] oS ([(str [97]),(str [98])]:List ByteArray) (wa J 1 (YS J [] WE ([(⟨(str [110]),(⟨1,0,9⟩:YV)⟩:T4)]:List T4) (wa J 1 (YS J [3] Xu ([(⟨(str [97,115,107]),([(⟨(str [110]),(⟨1,0,9⟩:YV)⟩:T4)]:List T4),0,(⟨([]:List T1),([]:List (Int × Int))⟩:T6)⟩:T0)]:List T0) (wa J 2 (YS J [] WW ([(⟨0,(⟨0,1,0⟩:T7),1,false⟩:T2)]:List T2) (wa J 6 (YS J [] oB ([false,true]:List Bool) (wa J 1 (YS J [] XM ([(⟨0,true,1,0,1,false⟩:T9)]:List T9) ?_)))))))))))
 refine wO J 8 h fun c d h=>Z6 (Zty N (⟨(str [80]),([(str [97]),(str [98])]:List ByteArray),([(⟨(str [97,115,107]),([(⟨(str [110]),(⟨1,0,9⟩:YV)⟩:T4)]:List T4),0,(⟨([]:List T1),([]:List (Int × Int))⟩:T6)⟩:T0)]:List T0),2,0,1,([(⟨0,(⟨0,1,0⟩:T7),1,false⟩:T2)]:List T2),([]:List XB)⟩:T5) (⟨0,2,0,([false,true]:List Bool),([(⟨0,true,1,0,1,false⟩:T9)]:List T9),([]:List XB)⟩:T8) 0 _ d) [2,4,5,7,8] [(0,.sl 2),(1,.sl 4),(2,.sl 5),(3,.nil),(4,.sl 7),(5,.sl 8),(6,.nil),(7,.sl 0)] ?_
 refine wO J 11 h fun e f h=>Z6 (ZtC N (⟨(str [80]),([(str [97]),(str [98])]:List ByteArray),([(⟨(str [97,115,107]),([(⟨(str [110]),(⟨1,0,9⟩:YV)⟩:T4)]:List T4),0,(⟨([]:List T1),([]:List (Int × Int))⟩:T6)⟩:T0)]:List T0),2,0,1,([(⟨0,(⟨0,1,0⟩:T7),1,false⟩:T2)]:List T2),([]:List XB)⟩:T5) (⟨0,2,0,([false,true]:List Bool),([(⟨0,true,1,0,1,false⟩:T9)]:List T9),([]:List XB)⟩:T8) ([]:List T3) (⟨0,true,1,0,([]:List T12)⟩:T3) _ f) [] [(0,.sl 2),(1,.sl 4),(2,.sl 5),(3,.nil),(4,.sl 7),(5,.sl 8),(6,.nil),(7,.nil),(8,.nil),(9,.sl 0)] ?_
 refine wO J 12 h fun g i h=>Z6 (Ze2 N (⟨(str [80]),([(str [97]),(str [98])]:List ByteArray),([(⟨(str [97,115,107]),([(⟨(str [110]),(⟨1,0,9⟩:YV)⟩:T4)]:List T4),0,(⟨([]:List T1),([]:List (Int × Int))⟩:T6)⟩:T0)]:List T0),2,0,1,([(⟨0,(⟨0,1,0⟩:T7),1,false⟩:T2)]:List T2),([]:List XB)⟩:T5) (⟨0,2,0,([false,true]:List Bool),([(⟨0,true,1,0,1,false⟩:T9)]:List T9),([]:List XB)⟩:T8) _ i) [] [(0,.sl 2),(1,.sl 4),(2,.sl 5),(3,.nil),(4,.sl 7),(5,.sl 8),(6,.nil)] ?_
 have ⟨j,k,h⟩:=ob h
 refine Z6 (ZlF N (⟨(str [80]),([(str [97]),(str [98])]:List ByteArray),([(⟨(str [97,115,107]),([(⟨(str [110]),(⟨1,0,9⟩:YV)⟩:T4)]:List T4),0,(⟨([]:List T1),([]:List (Int × Int))⟩:T6)⟩:T0)]:List T0),2,0,1,([(⟨0,(⟨0,1,0⟩:T7),1,false⟩:T2)]:List T2),([]:List XB)⟩:T5) (⟨0,2,0,([false,true]:List Bool),([(⟨0,true,1,0,1,false⟩:T9)]:List T9),([]:List XB)⟩:T8) g _ k) [] [(0,.sl 2),(1,.sl 4),(2,.sl 5),(3,.nil),(4,.sl 7),(5,.sl 8),(6,.nil),(7,.sl 11),(8,.sl 12)] (wa J 1 (Yl ?_))
 refine Z7 J 5 h (fun h=>wa J 27 (Yl ?_)) fun h=>?_
 ·cases h
  exact YW J func4 []
 refine Z7 J 4 h (fun h=>wa J 23 (Yl ?_)) fun h=>wa J 1 (YS J [] oS ([(str [115,101,110,100,32,97,115,107,40,110,58,32,105,110,116,32,48,32,46,46,32,57,41,32,116,111,32,98])]:List ByteArray) ?_)
 ·cases h
  exact YW J func4 []
 have ⟨l,m,h⟩:=ob h
 refine X2 (ZtK N c.1 ([(str [115,101,110,100,32,97,115,107,40,110,58,32,105,110,116,32,48,32,46,46,32,57,41,32,116,111,32,98])]:List ByteArray) _ m) [] [(0,.sl 10),(1,.sl 14)] [10,14] (.inr ⟨rfl,trivial⟩) ?_
 refine Z7 J 2 h (fun h=>wa J 18 (Yl ?_)) fun h=>?_
 ·cases h
  exact YW J func4 []
 refine Z7 J 4 h (fun h=>wa J 14 (Yl ?_)) fun h=>?_
 ·cases h
  exact YW J func4 []
 refine Z7 J 5 h (fun h=>wa J 9 (Yl ?_)) fun h=>?_
 ·cases h
  exact YW J func4 []
 refine wO J 1 h fun o p h=>YB J Xf p (wa J 1 (Y1 J Uw p ?_))
 have ⟨q,s,h⟩:=ob h
 refine Z6 (ZtZ N 0 _ s) [] [] (YS J [] YR ([q]:List T12) ?_)
 have ⟨t,u,h⟩:=ob h
 refine X2 (Zk8 N o.ZV ([q]:List T12) _ u) [] [(0,.sl 16),(1,.sl 17)] [17] (.inr ⟨rfl,trivial⟩) (wa J 2 (Yl ?_))
 cases h
 exact YW J func4 []
theorem Zva (N:Nat) (c:(List T0)) (r:Bool) (h:z42 N c=some r) :
 Fn Tryz.prog 42 ⟨1,[.S 0],[(0,.sl Ys c)],[],1,.O r,[],[]⟩:=by
 refine Ya func42 rfl (fun E F w=>?_)
 unfold z42 at h
 refine wa J 13 (Yf (σ:=Int) (fun st=>(Hs c [(0,.S 0),(3,.I st)])) (fun st=>Zb6 c st=some r) ?_ (fun j1=>?_))
 ·intro d h
  unfold Zb6 at h
  exact wB J 6 h (fun h=>oi h▸wr J 5 func42 []) fun h=>oi h▸wr J 5 func42 []
 refine wa J 1 (Yn (σ:=Int × Int) (fun st=>(Hs c [(0,.S 0),(3,.I st.1),(4,.I st.2)])) (fun n st=>Ma c n st.1 st.2) (r:=r) (fun _=>rfl) ?_ (fun ih=>?_))
 ·intro n2 ih3
  rintro ⟨e,f⟩ h
  unfold Ma at h
  refine Z7 J 8 h (fun h=>wa J 2 (Z2 [] (j1 e h))) fun h=>?_
  refine wO J 8 h fun g i h=>Yc J Xu i ?_
  refine wO J 5 h fun j k h=>Yc J Xu k ?_
  exact wO J 7 h fun l m h=>Yc J Xu m (wa J 7 (Yl (wa J 6 (Z2 [] (ih3 ((Z1 (e+(Z1 ((Z1 ((g.Zz.length:Int)+(j.ZB.Zw.length:Int)))+(l.ZB.Zy.length:Int))))),(Z1 (f+1))) h)))))
 exact Z2 [] (ih N (0,0) h)
theorem Zt7 (N:Nat) (c:T5) (r:Bool) (h:z17 N c=some r) :
 Fn Tryz.prog 17 ⟨4,[.a (YH 0 1 2 3 c)],(Xk 0 1 2 3 c []),[],4,.O r,[],[]⟩:=by
 refine Ya func17 rfl (fun E F w=>?_)
 unfold z17 at h
 refine Z7 J 11 h (fun h=>oi h▸wr J 24 func17 []) fun h=>?_
 refine Z7 J 6 h (fun h=>oi h▸wr J 18 func17 []) fun h=>?_
 refine Z7 J 6 h (fun h=>oi h▸wr J 12 func17 []) fun h=>?_
 refine Z7 J 6 h (fun h=>oi h▸wr J 6 func17 []) fun h=>?_
 refine wO J 2 h fun d e h=>Z6 (Zva N c.ZJ _ e) [] [(0,.sl 1)] ?_
 exact oi h▸wr J 3 func17 []
theorem Zuh (N:Nat) (c:T8) (r:Bool) (h:z18 N c=some r) :
 Fn Tryz.prog 18 ⟨3,[.a (YM 0 1 2 c)],(YP 0 1 2 c []),[],3,.O r,[],[]⟩:=by
 refine Ya func18 rfl (fun E F w=>?_)
 unfold z18 at h
 refine Z7 J 11 h (fun h=>oi h▸wr J 19 func18 []) fun h=>?_
 refine Z7 J 6 h (fun h=>oi h▸wr J 13 func18 []) fun h=>?_
 exact wB J 6 h (fun h=>oi h▸wr J 7 func18 []) fun h=>oi h▸wr J 7 func18 []
theorem Zvb (N:Nat) (c:(List T12)) (r:Bool) (h:z43 N c=some r) :
 Fn Tryz.prog 43 ⟨1,[.S 0],[(0,.sl Ym c)],[],1,.O r,[],[]⟩:=by
 refine Ya func43 rfl (fun E F w=>?_)
 unfold z43 at h
 refine wa J 9 (Yf (σ:=Unit) (fun st=>⟨[(0,.S 0)],[],[(0,.sl Ym c)],1⟩) (fun st=>ZfV c=some r) ?_ (fun j1=>?_))
 ·intro _ h
  unfold ZfV at h
  exact oi h▸wr J 7 func43 []
 refine wa J 1 (Yn (σ:=Int) (fun st=>⟨[(0,.S 0),(3,.I st)],[],[(0,.sl Ym c)],1⟩) (fun n st=>Mb c n st) (r:=r) (fun _=>rfl) ?_ (fun ih=>?_))
 ·intro n2 ih3
  intro d h
  unfold Mb at h
  refine Z7 J 8 h (fun h=>wa J 2 (Z2 [] (j1 () h))) fun h=>?_
  refine wO J 8 h fun e f h=>Yc J YR f ?_
  exact wB J 5 h (fun h=>oi h▸wr J 5 func43 []) fun h=>wa J 8 (Z2 [] (ih3 (Z1 (d+1)) h))
 exact Z2 [] (ih N 0 h)
theorem Zuo (N:Nat) (c:(List T3)) (r:Bool) (h:z19 N c=some r) :
 Fn Tryz.prog 19 ⟨1,[.S 0],[(0,.sl Xf c)],[],1,.O r,[],[]⟩:=by
 refine Ya func19 rfl (fun E F w=>?_)
 unfold z19 at h
 refine wa J 9 (Yf (σ:=Unit) (fun st=>⟨[(0,.S 0)],[],[(0,.sl Xf c)],1⟩) (fun st=>Zft c=some r) ?_ (fun j1=>?_))
 ·intro _ h
  unfold Zft at h
  exact oi h▸wr J 7 func19 []
 refine wa J 1 (Yn (σ:=Int) (fun st=>⟨[(0,.S 0),(3,.I st)],[],[(0,.sl Xf c)],1⟩) (fun n st=>PZ N c n st) (r:=r) (fun _=>rfl) ?_ (fun ih=>?_))
 ·intro n2 ih3
  intro d h
  unfold PZ at h
  refine Z7 J 8 h (fun h=>wa J 2 (Z2 [] (j1 () h))) fun h=>?_
  refine wO J 8 h fun e f h=>Yc J Uw f ?_
  refine wO J 2 h fun g i h=>Z6 (Zvb N e.ZV _ i) [] [(0,.sl 2)] ?_
  exact wB J 2 h (fun h=>oi h▸wr J 5 func19 []) fun h=>wa J 8 (Z2 [] (ih3 (Z1 (d+1)) h))
 exact Z2 [] (ih N 0 h)
theorem Zvo (N:Nat) (c:T5) (d:T8) (e:(List T3)) (r:Bool) (h:z5 N c d e=some r) :
 Fn Tryz.prog 5 ⟨8,[.a (YH 0 1 2 3 c),.a (YM 4 5 6 d),.S 7],((0,.sl rS c.ZI)::(1,.sl Ys c.ZJ)::(2,.sl Xb c.ZO)::(3,.sl YN c.ZP)::YP 4 5 6 d [(7,.sl Xf e)]),[],8,.O r,[],[]⟩:=by
 refine Ya func5 rfl (fun E F w=>?_)
 unfold z5 at h
 refine wO J 9 h fun f g h=>Z6 (Zt7 N c _ g) [] [(0,.sl 0),(1,.sl 1),(2,.sl 2),(3,.sl 3)] ?_
 refine Z7 J 1 h (fun h=>oi h▸wr J 9 func5 []) fun h=>?_
 refine wO J 1 h fun i j h=>Z6 (Zuh N d _ j) [] [(0,.sl 4),(1,.sl 5),(2,.sl 6)] ?_
 refine Z7 J 2 h (fun h=>oi h▸wr J 5 func5 []) fun h=>?_
 refine wO J 1 h fun k l h=>Z6 (Zuo N e _ l) [] [(0,.sl 7)] ?_
 exact oi h▸wr J 3 func5 []
theorem Zlk (N:Nat) (d:Int) (r:Bool) (h:DE N d=some r) :
 Fn Tryz.prog 241 ⟨0,[.c (.i .u8 d)],[],[],0,.O r,[],[]⟩:=by
 refine Ya func241 rfl (fun E F w=>?_)
 unfold DE at h
 refine Z7 J 9 h (fun h=>?_) fun h=>?_
 ·exact wB J 7 h (fun h=>oi h▸wr J 6 func241 []) fun h=>oi h▸wr J 6 func241 []
 refine wB J 4 h (fun h=>oi h▸wr J 9 func241 []) fun h=>?_
 exact wB J 3 h (fun h=>oi h▸wr J 6 func241 []) fun h=>oi h▸wr J 6 func241 []
theorem ZuX (N:Nat) (d:Int) (r:Bool) (h:ZfL N d=some r) :
 Fn Tryz.prog 263 ⟨0,[.c (.i .u8 d)],[],[],0,.O r,[],[]⟩:=by
 refine Ya func263 rfl (fun E F w=>?_)
 unfold ZfL at h
 exact wB J 9 h (fun h=>oi h▸wr J 5 func263 []) fun h=>oi h▸wr J 5 func263 []
theorem ZuP (N:Nat) (d:Int) (r:Bool) (h:ZfG N d=some r) :
 Fn Tryz.prog 242 ⟨0,[.c (.i .u8 d)],[],[],0,.O r,[],[]⟩:=by
 refine Ya func242 rfl (fun E F w=>?_)
 unfold ZfG at h
 refine wO J 7 h fun e f h=>Z6 (Zlk N d _ f) [] [] ?_
 refine wB J 1 h (fun h=>oi h▸wr J 9 func242 []) fun h=>?_
 refine wO J 1 h fun g j h=>Z6 (ZuX N d _ j) [] [] ?_
 exact wB J 2 h (fun h=>oi h▸wr J 5 func242 []) fun h=>oi h▸wr J 5 func242 []
theorem Zux (N:Nat) (d:ByteArray) (r:Bool) (h:z212 N d=some r) :
 Fn Tryz.prog 212 ⟨0,[.c (.s d)],[],[],0,.O r,[],[]⟩:=by
 refine Ya func212 rfl (fun E F w=>?_)
 unfold z212 at h
 refine wB J 10 h (fun h=>oi h▸wr J 16 func212 []) fun h=>?_
 refine wO J 1 h fun e f h=>Vh J f ?_
 have ⟨g,i,h⟩:=ob h
 refine Z6 (Zlk N e _ i) [] [] ?_
 refine wB J 3 h (fun h=>oi h▸wr J 10 func212 []) fun h=>?_
 refine wB J 5 h (fun h=>oi h▸wr J 5 func212 []) fun h=>wa J 7 (Yf (σ:=Unit) (fun st=>(Un [])) (fun st=>ZfC=some r) ?_ (fun j1=>?_))
 ·intro _ h
  unfold ZfC at h
  exact oi h▸wr J 4 func212 []
 refine wa J 1 (Yn (σ:=Int) (fun st=>(Un [(0,.c (.s d)),(3,.I st)])) (fun n st=>LX N d n st) (r:=r) (fun _=>rfl) ?_ (fun ih=>?_))
 ·intro n2 ih3
  intro j h
  unfold LX at h
  refine Z7 J 8 h (fun h=>wa J 2 (Z2 [] (j1 () h))) fun h=>?_
  refine wO J 8 h fun k l h=>Vh J l ?_
  have ⟨m,o,h⟩:=ob h
  refine Z6 (ZuP N k _ o) [] [] ?_
  exact wB J 2 h (fun h=>oi h▸wr J 5 func212 []) fun h=>wa J 8 (Z2 [] (ih3 (Z1 (j+1)) h))
 exact Z2 [] (ih N 0 h)
theorem Zuz (N:Nat) (r:(List ByteArray)) (h:Zbx N=some r) :
 Fn Tryz.prog 214 ⟨0,[],[],[],1,.S 0,[],[(0,.own rS r true)]⟩:=by
 refine Ya func214 rfl (fun E F w=>?_)
 unfold Zbx at h
 refine wa J 6 (YS J [] oS ([(str [97,103,97,105,110]),(str [97,110,100]),(str [97,115]),(str [97,116]),(str [99,97,108,108]),(str [99,104,111,105,99,101]),(str [101,108,115,101]),(str [102,114,111,109]),(str [105,102]),(str [105,110,116]),(str [108,101,110]),(str [108,111,111,112]),(str [109,101,115,115,97,103,101]),(str [111,102]),(str [111,102,102,101,114]),(str [111,110]),(str [111,114]),(str [112,97,114]),(str [112,108,97,121,115]),(str [112,114,111,116,111,99,111,108]),(str [115,101,114,118,105,99,101]),(str [116,101,120,116]),(str [116,105,109,101,115]),(str [116,111]),(str [118,97,114]),(str [119,104,101,114,101]),(str [119,104,105,108,101]),(str [119,105,116,104,105,110])]:List ByteArray) ?_)
 exact oi h▸wr J 2 func214 [(0,.sl 0)]
theorem Zuy (N:Nat) (d:(List ByteArray)) (e:ByteArray) (r:Bool) (h:z213 N d e=some r) :
 Fn Tryz.prog 213 ⟨1,[.S 0,.c (.s e)],[(0,.sl rS d)],[],1,.O r,[],[]⟩:=by
 refine Ya func213 rfl (fun E F w=>?_)
 unfold z213 at h
 refine wa J 9 (Yf (σ:=Unit) (fun st=>(QP d [])) (fun st=>Zbw=some r) ?_ (fun j1=>?_))
 ·intro _ h
  unfold Zbw at h
  exact oi h▸wr J 4 func213 []
 refine wa J 1 (Yn (σ:=Int) (fun st=>(QP d [(0,.S 0),(1,.c (.s e)),(5,.I st)])) (fun n st=>P2 d e n st) (r:=r) (fun _=>rfl) ?_ (fun ih=>?_))
 ·intro n2 ih3
  intro f h
  unfold P2 at h
  refine Z7 J 8 h (fun h=>wa J 2 (Z2 [] (j1 () h))) fun h=>?_
  refine wO J 8 h fun g i h=>Yc J oS i ?_
  exact wB J 4 h (fun h=>oi h▸wr J 5 func213 []) fun h=>wa J 8 (Z2 [] (ih3 (Z1 (f+1)) h))
 exact Z2 [] (ih N 0 h)
theorem Za8 (N:Nat) (d:ByteArray) (r:Bool) (h:z164 N d=some r) :
 Fn Tryz.prog 164 ⟨0,[.c (.s d)],[],[],0,.O r,[],[]⟩:=by
 refine Ya func164 rfl (fun E F w=>?_)
 unfold z164 at h
 refine wO J 7 h fun e f h=>Z6 (Zux N d _ f) [] [] ?_
 refine Z7 J 1 h (fun h=>oi h▸wr J 7 func164 []) fun h=>?_
 have ⟨g,i,h⟩:=ob h
 refine Z6 (Zuz N _ i) [] [] ?_
 refine wO J 1 h fun j k h=>X2 (Zuy N g d _ k) [] [(0,.sl 0)] [0] (.inr ⟨rfl,trivial⟩) ?_
 exact oi h▸wr J 4 func164 []
theorem ZtV (N:Nat) (d:(List ByteArray)) (e:ByteArray) (r:Int) (h:LN N d e=some r) :
 Fn Tryz.prog 165 ⟨1,[.S 0,.c (.s e)],[(0,.sl rS d)],[],1,.I r,[],[]⟩:=by
 refine Ya func165 rfl (fun E F w=>?_)
 unfold LN at h
 refine wa J 9 (Yf (σ:=Unit) (fun st=>(QP d [])) (fun st=>Za9=some r) ?_ (fun j1=>?_))
 ·intro _ h
  unfold Za9 at h
  exact oi h▸wr J 4 func165 []
 refine wa J 1 (Yn (σ:=Int) (fun st=>(QP d [(0,.S 0),(1,.c (.s e)),(5,.I st)])) (fun n st=>PP d e n st) (r:=r) (fun _=>rfl) ?_ (fun ih=>?_))
 ·intro n2 ih3
  intro f h
  unfold PP at h
  refine Z7 J 8 h (fun h=>wa J 2 (Z2 [] (j1 () h))) fun h=>?_
  refine wO J 8 h fun g i h=>Yc J oS i ?_
  exact wB J 4 h (fun h=>oi h▸wr J 6 func165 []) fun h=>wa J 8 (Z2 [] (ih3 (Z1 (f+1)) h))
 exact Z2 [] (ih N 0 h)
theorem Gj (N:Nat) (c:(List T0)) (r:Int) (h:Rt N c=some r) :
 Fn Tryz.prog 100 ⟨1,[.S 0],[(0,.sl Ys c)],[],1,.I r,[],[]⟩:=by
 refine Ya func100 rfl (fun E F w=>?_)
 unfold Rt at h
 refine wa J 13 (Yf (σ:=Int) (fun st=>(Hs c [(3,.I st)])) (fun st=>ZaL st=some r) ?_ (fun j1=>?_))
 ·intro d h
  unfold ZaL at h
  exact oi h▸wr J 5 func100 []
 refine wa J 1 (Yn (σ:=Int × Int) (fun st=>(Hs c [(0,.S 0),(3,.I st.1),(4,.I st.2)])) (fun n st=>Px c n st.1 st.2) (r:=r) (fun _=>rfl) ?_ (fun ih=>?_))
 ·intro n2 ih3
  rintro ⟨e,f⟩ h
  unfold Px at h
  refine Z7 J 8 h (fun h=>wa J 2 (Z2 [] (j1 e h))) fun h=>?_
  exact wO J 8 h fun g i h=>Yc J Xu i (wa J 12 (Z2 [] (ih3 ((Z1 (e+(g.Zz.length:Int))),(Z1 (f+1))) h)))
 exact Z2 [] (ih N (0,0) h)
theorem Zuk (N:Nat) (c:YV) (r:Bool) (h:Dk N c=some r) :
 Fn Tryz.prog 194 ⟨0,[.a (TF c)],[],[],0,.O r,[],[]⟩:=by
 refine Ya func194 rfl (fun E F w=>?_)
 unfold Dk at h
 refine wa J 17 (Yf (σ:=Int × Int) (fun st=>⟨[(1,.B 0 0),(3,.I st.1),(4,.I st.2)],[(0,.box (TF c) 50)],[],1⟩) (fun st=>Dm c st.1 st.2=some r) ?_ (fun j1=>?_))
 ·rintro ⟨d,e⟩ h
  unfold Dm at h
  refine wB J 6 h (fun h=>?_) fun h=>?_
  ·refine Z7 J 11 h (fun h=>oi h▸wr J 14 func194 []) fun h=>?_
   exact wB J 6 h (fun h=>oi h▸wr J 8 func194 []) fun h=>oi h▸wr J 8 func194 []
  refine Z7 J 5 h (fun h=>oi h▸wr J 20 func194 []) fun h=>?_
  refine Z7 J 6 h (fun h=>oi h▸wr J 14 func194 []) fun h=>?_
  exact wB J 6 h (fun h=>oi h▸wr J 8 func194 []) fun h=>oi h▸wr J 8 func194 []
 exact eB h (fun h=>wa J 5 (Z2 [] (j1 (0,40) h))) fun h=>wa J 2 (Z2 [] (j1 ((-1000),1000) h))
theorem ZuM (N:Nat) (d:ByteArray) (r:Bool) (h:DA N d=some r) :
 Fn Tryz.prog 229 ⟨0,[.c (.s d)],[],[],0,.O r,[],[]⟩:=by
 refine Ya func229 rfl (fun E F w=>?_)
 unfold DA at h
 refine wO J 7 h fun e f h=>Z6 (Za8 N d _ f) [] [] ?_
 exact oi h▸wr J 2 func229 []
theorem Zul (N:Nat) (d:ByteArray) (r:Bool) (h:Dn N d=some r) :
 Fn Tryz.prog 195 ⟨0,[.c (.s d)],[],[],0,.O r,[],[]⟩:=by
 refine Ya func195 rfl (fun E F w=>?_)
 unfold Dn at h
 refine wa J 13 (Yf (σ:=Unit) (fun st=>(Un [(0,.c (.s d))])) (fun st=>Do d=some r) ?_ (fun j1=>?_))
 ·intro _ h
  unfold Do at h
  exact oi h▸wr J 7 func195 []
 refine wa J 1 (Yn (σ:=Int × Int) (fun st=>(Un [(0,.c (.s d)),(3,.I st.1),(4,.I st.2)])) (fun n st=>SM N d n st.1 st.2) (r:=r) (fun _=>rfl) ?_ (fun ih=>?_))
 ·intro n2 ih6
  rintro ⟨e,f⟩ h
  unfold SM at h
  refine Z7 J 8 h (fun h=>wa J 2 (Z2 [] (j1 () h))) fun h=>?_
  refine wa J 11 (Yf (σ:=Bool) (fun st=>(Un [(0,.c (.s d)),(3,.I e),(4,.I f),(20,.O st)])) (fun st=>PV N d e f (SM N d n2) st=some r) ?_ (fun j9=>?_))
  ·intro g h
   unfold PV at h
   refine Ub h (fun h=>wa J 8 (Z2 [] (ih6 (e,(Z1 (f+1))) h))) fun h=>?_
   refine wO J 7 h fun i j h=>MJ J j ?_
   have ⟨k,l,h⟩:=ob h
   refine Z6 (ZuM N i _ l) [] [] ?_
   exact wB J 2 h (fun h=>oi h▸wr J 5 func195 []) fun h=>wa J 13 (Z2 [] (ih6 ((Z1 (f+1)),(Z1 (f+1))) h))
  refine eB h (fun h=>wa J 6 (Z2 [] (j9 true h))) fun h=>?_
  exact wO J 2 h fun m o h=>Vh J o (wa J 3 (Z2 [] (j9 (m==46) h)))
 exact Z2 [] (ih N (0,0) h)
theorem ZkZ (N:Nat) (c:(List T0)) (d:Int) (r:T4) (h:Ly N c d=some r) :
 Fn Tryz.prog 133 ⟨1,[.S 0,.I d],[(0,.sl Ys c)],[],1,.a (Ua r),[],[]⟩:=by
 refine Ya func133 rfl (fun E F w=>?_)
 unfold Ly at h
 refine wa J 9 (Yf (σ:=Unit) (fun st=>⟨[(4,.B 1 0)],[(1,.box [.s (str []),.I 0,.I 0,.I 0] 52)],[(0,.sl Ys c)],2⟩) (fun st=>ZeZ=some r) ?_ (fun j1=>?_))
 ·intro _ h
  unfold ZeZ at h
  exact oi h▸wr J 5 func133 []
 refine wa J 1 (Yn (σ:=Int × Int) (fun st=>⟨[(0,.S 0),(1,.I st.1),(4,.B 1 0),(5,.I st.2)],[(1,.box [.s (str []),.I 0,.I 0,.I 0] 52)],[(0,.sl Ys c)],2⟩) (fun n st=>Lz c n st.1 st.2) (r:=r) (fun _=>rfl) ?_ (fun ih=>?_))
 ·intro n2 ih3
  rintro ⟨e,f⟩ h
  unfold Lz at h
  refine Z7 J 8 h (fun h=>wa J 2 (Z2 [] (j1 () h))) fun h=>?_
  refine wO J 10 h fun g i h=>Yc J Xu i ?_
  refine Z7 J 5 h (fun h=>?_) fun h=>?_
  ·exact wO J 6 h fun j k h=>Yc J Xu k (wa J 12 (Z2 [] (ih3 ((Z1 (e-(j.Zz.length:Int))),(Z1 (f+1))) h)))
  refine wO J 5 h fun l m h=>Yc J Xu m ?_
  refine wO J 3 h fun o p h=>Yc J WE p ?_
  exact oi h▸wr J 3 func133 []
 exact Z2 [] (ih N (d,0) h)
theorem Zlf (N:Nat) (c:(List T0)) (d:Int) (r:Bool) (h:LZ N c d=some r) :
 Fn Tryz.prog 230 ⟨1,[.S 0,.I d],[(0,.sl Ys c)],[],1,.O r,[],[]⟩:=by
 refine Ya func230 rfl (fun E F w=>?_)
 unfold LZ at h
 refine Z7 J 9 h (fun h=>oi h▸wr J 15 func230 []) fun h=>?_
 refine wO J 2 h fun e f h=>Z6 (Gj N c _ f) [] [(0,.sl 0)] ?_
 refine Z7 J 3 h (fun h=>oi h▸wr J 9 func230 []) fun h=>?_
 refine wO J 2 h fun g i h=>Z6 (ZkZ N c d _ i) [] [(0,.sl 0)] ?_
 exact oi h▸wr J 6 func230 []
theorem Zum (N:Nat) (c:(List T0)) (d:T6) (r:Bool) (h:Dp N c d=some r) :
 Fn Tryz.prog 196 ⟨3,[.S 0,.a [.sl 1,.sl 2]],[(0,.sl Ys c),(1,.sl Xe d.Zw),(2,.sl (rP (rI .i64) (rI .i64)) d.Zy)],[],3,.O r,[],[]⟩:=by
 refine Ya func196 rfl (fun E F w=>?_)
 unfold Dp at h
 refine wO J 8 h fun e f h=>Z6 (Gj N c _ f) [] [(0,.sl 0)] (wa J 7 (Yf (σ:=Unit) (fun st=>(Zcy c d.Zw d.Zy [(0,.S 0),(3,.B 3 0)])) (fun st=>Dq N c d=some r) ?_ (fun j1=>?_)))
 ·intro _ h
  unfold Dq at h
  refine wa J 5 (Yf (σ:=Unit) (fun st=>(Zcy c d.Zw d.Zy [(3,.B 3 0)])) (fun st=>LR d=some r) ?_ (fun j3=>?_))
  ·intro _ h
   unfold LR at h
   exact wB J 7 h (fun h=>oi h▸wr J 7 func196 []) fun h=>oi h▸wr J 7 func196 []
  refine wa J 1 (Yn (σ:=Int) (fun st=>(Zcy c d.Zw d.Zy [(0,.S 0),(3,.B 3 0),(8,.I st)])) (fun n st=>PW N c d n st) (r:=r) (fun _=>rfl) ?_ (fun ih=>?_))
  ·intro n3 ih5
   intro g h
   unfold PW at h
   refine Z7 J 9 h (fun h=>wa J 2 (Z2 [] (j3 () h))) fun h=>?_
   refine wO J 10 h fun i j h=>Yc J (oP (oI .i64) (oI .i64)) j (Up 0 rfl ?_)
   refine wO J 1 h fun k l h=>Z6 (Zlf N c i.1 _ l) [] [(0,.sl 0)] ?_
   refine wB J 2 h (fun h=>oi h▸wr J 16 func196 []) fun h=>?_
   refine wO J 4 h fun m o h=>Yc J (oP (oI .i64) (oI .i64)) o (Up 1 rfl ?_)
   refine wO J 1 h fun p q h=>Z6 (Zlf N c m.2 _ q) [] [(0,.sl 0)] ?_
   exact wB J 3 h (fun h=>oi h▸wr J 5 func196 []) fun h=>wa J 8 (Z2 [] (ih5 (Z1 (g+1)) h))
  exact Z2 [] (ih N 0 h)
 refine wa J 1 (Yn (σ:=Int) (fun st=>(Zcy c d.Zw d.Zy [(0,.S 0),(3,.B 3 0),(5,.I e),(6,.I st)])) (fun n st=>PX N c d e n st) (r:=r) (fun _=>rfl) ?_ (fun ih=>?_))
 ·intro n4 ih6
  intro s h
  unfold PX at h
  refine Z7 J 9 h (fun h=>wa J 2 (Z2 [] (j1 () h))) fun h=>?_
  refine wO J 9 h fun t u h=>Yc J Uv u ?_
  refine wB J 10 h (fun h=>oi h▸wr J 32 func196 []) fun h=>?_
  refine wB J 6 h (fun h=>oi h▸wr J 26 func196 []) fun h=>?_
  refine wB J 5 h (fun h=>oi h▸wr J 21 func196 []) fun h=>?_
  refine wB J 6 h (fun h=>oi h▸wr J 15 func196 []) fun h=>?_
  refine wB J 5 h (fun h=>oi h▸wr J 10 func196 []) fun h=>?_
  exact wB J 5 h (fun h=>oi h▸wr J 5 func196 []) fun h=>wa J 8 (Z2 [] (ih6 (Z1 (s+1)) h))
 exact Z2 [] (ih N 0 h)
theorem Zk0 (N:Nat) (c:(List T0)) (r:Bool) (h:LA N c=some r) :
 Fn Tryz.prog 135 ⟨1,[.S 0],[(0,.sl Ys c)],[],1,.O r,[],[]⟩:=by
 refine Ya func135 rfl (fun E F w=>?_)
 unfold LA at h
 refine wB J 11 h (fun h=>oi h▸wr J 10 func135 []) fun h=>?_
 refine wO J 1 h fun d e h=>Z6 (Gj N c _ e) [] [(0,.sl 0)] ?_
 refine wB J 3 h (fun h=>oi h▸wr J 5 func135 []) fun h=>wa J 11 (Yf (σ:=Unit) (fun st=>(Hs c [])) (fun st=>ZaS=some r) ?_ (fun j1=>?_))
 ·intro _ h
  unfold ZaS at h
  exact oi h▸wr J 4 func135 []
 refine wa J 1 (Yn (σ:=Int × Int) (fun st=>(Hs c [(0,.S 0),(3,.I st.1),(4,.I st.2)])) (fun n st=>WL N c n st.1 st.2) (r:=r) (fun _=>rfl) ?_ (fun ih=>?_))
 ·intro n82 ih75
  rintro ⟨f,g⟩ h
  unfold WL at h
  refine Z7 J 8 h (fun h=>wa J 2 (Z2 [] (j1 () h))) fun h=>?_
  refine wO J 8 h fun i j h=>Yc J Xu j (wa J 9 (Yf (σ:=Unit) (fun st=>(Zcz i c [(0,.S 0),(3,.I f),(4,.I g),(5,.B 5 0)])) (fun st=>GQ N c f g (WL N c n82) i=some r) ?_ (fun j124=>?_)))
  ·intro _ h
   unfold GQ at h
   refine wa J 5 (Yf (σ:=Unit) (fun st=>(Zcz i c [(0,.S 0),(3,.I f),(4,.I g),(5,.B 5 0)])) (fun st=>GO N c f g (WL N c n82) i=some r) ?_ (fun j126=>?_))
   ·intro _ h
    unfold GO at h
    refine wO J 5 h fun k l h=>Z6 (Zul N i.Zu _ l) [] [] ?_
    refine wB J 2 h (fun h=>oi h▸wr J 24 func135 []) fun h=>?_
    refine wB J 6 h (fun h=>oi h▸wr J 18 func135 []) fun h=>?_
    refine wB J 6 h (fun h=>oi h▸wr J 12 func135 []) fun h=>?_
    refine wO J 3 h fun m o h=>Z6 (Zum N c i.ZB _ o) [] [(0,.sl 0),(1,.sl 3),(2,.sl 4)] ?_
    exact wB J 3 h (fun h=>oi h▸wr J 5 func135 []) fun h=>wa J 16 (Z2 [] (ih75 ((Z1 (f+(i.Zz.length:Int))),(Z1 (g+1))) h))
   refine wa J 1 (Yn (σ:=Int) (fun st=>(Zcz i c [(0,.S 0),(3,.I f),(4,.I g),(5,.B 5 0),(7,.I st)])) (fun n st=>TV N c f g (WL N c n82) i n st) (r:=r) (fun _=>rfl) ?_ (fun ih=>?_))
   ·intro n95 ih137
    intro p h
    unfold TV at h
    refine Z7 J 9 h (fun h=>wa J 2 (Z2 [] (j126 () h))) fun h=>?_
    refine wO J 10 h fun q s h=>Yc J WE s ?_
    refine wO J 2 h fun t u h=>Z6 (Zuk N q.Zv _ u) [] [] ?_
    refine wB J 2 h (fun h=>oi h▸wr J 15 func135 []) fun h=>?_
    refine wO J 3 h fun v x h=>Yc J WE x ?_
    refine wO J 2 h fun y z h=>Z6 (Za8 N v.Zu _ z) [] [] ?_
    refine wB J 3 h (fun h=>oi h▸wr J 5 func135 []) fun h=>wa J 6 (Yf (σ:=Unit) (fun st=>⟨[(0,.S 0),(3,.I f),(4,.I g),(5,.B 5 0),(7,.I p)],[(5,.box (Y5 2 3 4 i) 59)],((0,.sl Ys c)::Y3 2 3 4 i []),8⟩) (fun st=>GP p (TV N c f g (WL N c n82) i n95)=some r) ?_ (fun j144=>?_))
    ·intro _ h
     unfold GP at h
     exact wa J 6 (Z2 [] (ih137 (Z1 (p+1)) h))
    refine wa J 1 (Yn (σ:=Int) (fun st=>⟨[(0,.S 0),(3,.I f),(4,.I g),(5,.B 5 0),(7,.I p),(8,.I st)],[(5,.box (Y5 2 3 4 i) 59)],((0,.sl Ys c)::Y3 2 3 4 i []),8⟩) (fun n st=>PI i p (TV N c f g (WL N c n82) i n95) n st) (r:=r) (fun _=>rfl) ?_ (fun ih=>?_))
    ·intro n97 ih146
     intro A h
     unfold PI at h
     refine Z7 J 7 h (fun h=>wa J 2 (Z2 [] (j144 () h))) fun h=>?_
     refine wO J 9 h fun C D h=>Yc J WE D ?_
     refine wO J 5 h fun G H h=>Yc J WE H (wa J 3 (Yl ?_))
     exact eB h (fun h=>oi h▸wr J 5 func135 []) fun h=>wa J 8 (Z2 [] (ih146 (Z1 (A+1)) h))
    exact Z2 [] (ih N 0 h)
   exact Z2 [] (ih N 0 h)
  refine wa J 1 (Yn (σ:=Int) (fun st=>(Zcz i c [(0,.S 0),(3,.I f),(4,.I g),(5,.B 5 0),(6,.I st)])) (fun n st=>PJ N c f g (WL N c n82) i n st) (r:=r) (fun _=>rfl) ?_ (fun ih=>?_))
  ·intro n98 ih147
   intro R h
   unfold PJ at h
   refine Z7 J 7 h (fun h=>wa J 2 (Z2 [] (j124 () h))) fun h=>?_
   refine wO J 8 h fun T U h=>Yc J Xu U (wa J 5 (Yl ?_))
   exact eB h (fun h=>oi h▸wr J 5 func135 []) fun h=>wa J 8 (Z2 [] (ih147 (Z1 (R+1)) h))
  exact Z2 [] (ih N 0 h)
 exact Z2 [] (ih N (0,0) h)
theorem Ztg (N:Nat) (c:T5) (r:Bool) (h:Gk N c=some r) :
 Fn Tryz.prog 101 ⟨4,[.a (YH 0 1 2 3 c)],(Xk 0 1 2 3 c []),[],4,.O r,[],[]⟩:=by
 refine Ya func101 rfl (fun E F w=>?_)
 unfold Gk at h
 refine wa J 10 (Yf (σ:=Unit) (fun st=>(S7 c [(1,.B 4 0)])) (fun st=>Gl N c=some r) ?_ (fun j1=>?_))
 ·intro _ h
  unfold Gl at h
  refine wO J 4 h fun d e h=>Z6 (Za8 N c.Zu _ e) [] [] ?_
  refine Z7 J 1 h (fun h=>oi h▸wr J 18 func101 []) fun h=>?_
  refine Z7 J 6 h (fun h=>oi h▸wr J 12 func101 []) fun h=>?_
  refine Z7 J 6 h (fun h=>oi h▸wr J 6 func101 []) fun h=>?_
  refine wO J 2 h fun f g h=>Z6 (Zk0 N c.ZJ _ g) [] [(0,.sl 1)] ?_
  exact oi h▸wr J 3 func101 []
 refine wa J 1 (Yn (σ:=Int) (fun st=>(S7 c [(1,.B 4 0),(3,.I st)])) (fun n st=>Py N c n st) (r:=r) (fun _=>rfl) ?_ (fun ih=>?_))
 ·intro n2 ih3
  intro i h
  unfold Py at h
  refine Z7 J 9 h (fun h=>wa J 2 (Z2 [] (j1 () h))) fun h=>?_
  refine wO J 9 h fun j k h=>Yc J oS k ?_
  refine wO J 1 h fun l m h=>Z6 (Za8 N j _ m) [] [] ?_
  refine wB J 2 h (fun h=>wa J 11 (Yl (oi h▸wr J 5 func101 []))) fun h=>?_
  refine wO J 5 h fun o p h=>Yc J oS p ?_
  refine wO J 1 h fun q s h=>Z6 (ZtV N c.ZI o _ s) [] [(0,.sl 0)] (wa J 3 (Yl ?_))
  exact eB h (fun h=>oi h▸wr J 5 func101 []) fun h=>wa J 8 (Z2 [] (ih3 (Z1 (i+1)) h))
 exact Z2 [] (ih N 0 h)
theorem G5 (N:Nat) (c:T5) (d:Int) (r:Bool) (h:Rx N c d=some r) :
 Fn Tryz.prog 166 ⟨4,[.a (YH 0 1 2 3 c),.I d],(Xk 0 1 2 3 c []),[],4,.O r,[],[]⟩:=by
 refine Ya func166 rfl (fun E F w=>?_)
 unfold Rx at h
 exact wB J 10 h (fun h=>oi h▸wr J 7 func166 []) fun h=>oi h▸wr J 7 func166 []
theorem Zth (N:Nat) (c:T5) (r:Bool) (h:Gm N c=some r) :
 Fn Tryz.prog 102 ⟨4,[.a (YH 0 1 2 3 c)],(Xk 0 1 2 3 c []),[],4,.O r,[],[]⟩:=by
 refine Ya func102 rfl (fun E F w=>?_)
 unfold Gm at h
 refine wa J 10 (Yf (σ:=Unit) (fun st=>(S7 c [(1,.B 4 0)])) (fun st=>Gn N c=some r) ?_ (fun j1=>?_))
 ·intro _ h
  unfold Gn at h
  refine Z7 J 6 h (fun h=>oi h▸wr J 24 func102 []) fun h=>?_
  refine Z7 J 5 h (fun h=>oi h▸wr J 19 func102 []) fun h=>?_
  refine wO J 3 h fun d e h=>Z6 (G5 N c c.ZM _ e) [] [(0,.sl 0),(1,.sl 1),(2,.sl 2),(3,.sl 3)] ?_
  refine Z7 J 2 h (fun h=>oi h▸wr J 13 func102 []) fun h=>?_
  refine wO J 3 h fun f g h=>Z6 (G5 N c c.ZN _ g) [] [(0,.sl 0),(1,.sl 1),(2,.sl 2),(3,.sl 3)] ?_
  exact wB J 2 h (fun h=>oi h▸wr J 7 func102 []) fun h=>oi h▸wr J 7 func102 []
 refine wa J 1 (Yn (σ:=Int) (fun st=>(S7 c [(1,.B 4 0),(3,.I st)])) (fun n st=>Pz N c n st) (r:=r) (fun _=>rfl) ?_ (fun ih=>?_))
 ·intro n2 ih3
  intro i h
  unfold Pz at h
  refine Z7 J 9 h (fun h=>wa J 2 (Z2 [] (j1 () h))) fun h=>?_
  refine wO J 9 h fun j k h=>Yc J WW k ?_
  refine wO J 9 h fun l m h=>Z6 (G5 N c j.ZC _ m) [] [(0,.sl 0),(1,.sl 1),(2,.sl 2),(3,.sl 3)] ?_
  refine wB J 2 h (fun h=>oi h▸wr J 66 func102 []) fun h=>?_
  refine wO J 3 h fun o p h=>Z6 (G5 N c j.To _ p) [] [(0,.sl 0),(1,.sl 1),(2,.sl 2),(3,.sl 3)] ?_
  refine wB J 3 h (fun h=>oi h▸wr J 59 func102 []) fun h=>?_
  refine wB J 6 h (fun h=>oi h▸wr J 53 func102 []) fun h=>?_
  refine wB J 9 h (fun h=>oi h▸wr J 44 func102 []) fun h=>?_
  refine wB J 6 h (fun h=>oi h▸wr J 38 func102 []) fun h=>?_
  refine wB J 9 h (fun h=>oi h▸wr J 29 func102 []) fun h=>?_
  refine wB J 9 h (fun h=>oi h▸wr J 20 func102 []) fun h=>?_
  refine wB J 6 h (fun h=>oi h▸wr J 14 func102 []) fun h=>?_
  exact wB J 9 h (fun h=>oi h▸wr J 5 func102 []) fun h=>wa J 8 (Z2 [] (ih3 (Z1 (i+1)) h))
 exact Z2 [] (ih N 0 h)
theorem Zti (N:Nat) (c:T5) (r:Bool) (h:Gq N c=some r) :
 Fn Tryz.prog 103 ⟨4,[.a (YH 0 1 2 3 c)],(Xk 0 1 2 3 c []),[],4,.O r,[],[]⟩:=by
 refine Ya func103 rfl (fun E F w=>?_)
 unfold Gq at h
 refine wa J 10 (Yf (σ:=Unit) (fun st=>(Ht c [])) (fun st=>ZaM=some r) ?_ (fun j1=>?_))
 ·intro _ h
  unfold ZaM at h
  exact oi h▸wr J 4 func103 []
 refine wa J 1 (Yn (σ:=Int) (fun st=>(S7 c [(1,.B 4 0),(3,.I st)])) (fun n st=>Uz N c n st) (r:=r) (fun _=>rfl) ?_ (fun ih=>?_))
 ·intro n12 ih33
  intro d h
  unfold Uz at h
  refine Z7 J 9 h (fun h=>wa J 2 (Z2 [] (j1 () h))) fun h=>?_
  refine wO J 9 h fun e f h=>Yc J WW f ?_
  refine wa J 10 (Yf (σ:=Bool) (fun st=>(Zct c e [(1,.B 4 0),(3,.I d),(4,.B 6 0),(27,.O st)])) (fun st=>Gs N c d (Uz N c n12) e st=some r) ?_ (fun j54=>?_))
  ·intro g h
   unfold Gs at h
   refine eB h (fun h=>oi h▸wr J 5 func103 []) fun h=>wa J 6 (Yf (σ:=Unit) (fun st=>⟨[(1,.B 4 0),(3,.I d)],[(4,.box (YH 0 1 2 3 c) 27)],(Xk 0 1 2 3 c []),7⟩) (fun st=>Gr d (Uz N c n12)=some r) ?_ (fun j55=>?_))
   ·intro _ h
    unfold Gr at h
    exact wa J 6 (Z2 [] (ih33 (Z1 (d+1)) h))
   refine wa J 1 (Yn (σ:=Int) (fun st=>(Zct c e [(1,.B 4 0),(3,.I d),(4,.B 6 0),(5,.I st)])) (fun n st=>Th c d (Uz N c n12) e n st) (r:=r) (fun _=>rfl) ?_ (fun ih=>?_))
   ·intro n14 ih60
    intro i h
    unfold Th at h
    refine Z7 J 9 h (fun h=>wa J 2 (Z2 [] (j55 () h))) fun h=>?_
    refine wO J 9 h fun j k h=>Yc J WW k ?_
    refine wa J 11 (Yf (σ:=Bool) (fun st=>(ZlM c e j [(1,.B 4 0),(3,.I d),(4,.B 6 0),(5,.I i),(6,.B 8 0),(69,.O st)])) (fun st=>Qc e i (Th c d (Uz N c n12) e n14) j st=some r) ?_ (fun j63=>?_))
    ·intro l h
     unfold Qc at h
     refine eB h (fun h=>oi h▸wr J 5 func103 []) fun h=>?_
     refine Z7 J 7 h (fun h=>wa J 33 (Z2 [] (ih60 (Z1 (i+1)) h))) fun h=>?_
     refine Z7 J 7 h (fun h=>wa J 26 (Z2 [] (ih60 (Z1 (i+1)) h))) fun h=>?_
     refine wB J 8 h (fun h=>oi h▸wr J 15 func103 []) fun h=>?_
     exact wB J 10 h (fun h=>oi h▸wr J 5 func103 []) fun h=>wa J 8 (Z2 [] (ih60 (Z1 (i+1)) h))
    refine Ub h (fun h=>wa J 27 (Z2 [] (j63 false h))) fun h=>?_
    refine Z7 J 7 h (fun h=>wa J 20 (Z2 [] (j63 false h))) fun h=>wa J 4 (RT ?_)
    refine wB J 1 h (fun h=>wa J 14 (Z2 [] (j63 true h))) fun h=>?_
    exact wB J 9 h (fun h=>wa J 5 (Z2 [] (j63 true h))) fun h=>wa J 5 (Z2 [] (j63 e.ZE h))
   exact Z2 [] (ih N 0 h)
  exact eB h (fun h=>wa J 7 (Z2 [] (j54 (e.ZC==c.ZM) h))) fun h=>wa J 7 (Z2 [] (j54 false h))
 exact Z2 [] (ih N 0 h)
theorem ZtW (N:Nat) (c:T5) (r:(List Int)) (h:G6 N c=some r) :
 Fn Tryz.prog 167 ⟨4,[.a (YH 0 1 2 3 c)],(Xk 0 1 2 3 c []),[],5,.S 4,[],[(4,.own (rI .i64) r true)]⟩:=by
 refine Ya func167 rfl (fun E F w=>?_)
 unfold G6 at h
 refine wO J 9 h fun d e h=>Ur J (oI .i64) e (wa J 7 (Yf (σ:=(List Int)) (fun st=>(Zgx c st [(1,.B 4 0),(3,.S 5)])) (fun st=>G7 N c st=some r) ?_ (fun j1=>?_)))
 ·intro f h
  unfold G7 at h
  refine wO J 5 h fun g i h=>YB J (rI .i64) i (XS J [] (oI .i64) 0 i (wa J 6 (Yf (σ:=(List Int)) (fun st=>⟨[(3,.S 5)],[(5,.own (rI .i64) st true)],(Xk 0 1 2 3 c []),7⟩) (fun st=>Zba st=some r) ?_ (fun j3=>?_))))
  ·intro j h
   unfold Zba at h
   exact oi h▸wr J 5 func167 [(4,.sl 5)]
  refine wa J 1 (Yn (σ:=(List Int) × Int) (fun st=>(D5 c st.1 [(1,.B 4 0),(3,.S 5),(5,.I st.2)])) (fun n st=>SI N c n st.1 st.2) (r:=r) (fun _=>rfl) ?_ (fun ih=>?_))
  ·intro n13 ih14
   rintro ⟨k,l⟩ h
   unfold SI at h
   refine Z7 J 8 h (fun h=>wa J 2 (Z2 [] (j3 k h))) fun h=>wa J 8 (Yf (σ:=(List Int)) (fun st=>(D5 c st [(1,.B 4 0),(3,.S 5),(5,.I l)])) (fun st=>Zbb l (SI N c n13) st=some r) ?_ (fun j21=>?_))
   ·intro m h
    unfold Zbb at h
    exact wa J 6 (Z2 [] (ih14 (m,(Z1 (l+1))) h))
   refine wa J 1 (Yn (σ:=(List Int) × Int) (fun st=>(D5 c st.1 [(1,.B 4 0),(3,.S 5),(5,.I l),(6,.I st.2)])) (fun n st=>Tn c l (SI N c n13) n st.1 st.2) (r:=r) (fun _=>rfl) ?_ (fun ih=>?_))
   ·intro n15 ih23
    rintro ⟨o,p⟩ h
    unfold Tn at h
    refine Z7 J 9 h (fun h=>wa J 2 (Z2 [] (j21 o h))) fun h=>?_
    refine wO J 9 h fun q s h=>Yc J WW s ?_
    refine wO J 9 h fun t u h=>YB J (rI .i64) u (Y1 J (oI .i64) u ?_)
    refine Z7 J 3 h (fun h=>wa J 16 (Z2 [] (ih23 (o,(Z1 (p+1))) h))) fun h=>?_
    refine wO J 3 h fun v x h=>YB J (rI .i64) x (Y1 J (oI .i64) x ?_)
    refine Z7 J 3 h (fun h=>wa J 8 (Z2 [] (ih23 (o,(Z1 (p+1))) h))) fun h=>?_
    exact wO J 7 h fun y z h=>YB J (rI .i64) z (XS J [] (oI .i64) (Z1 (l+1)) z (wa J 7 (Z2 [] (ih23 ((YA o q.ZC (Z1 (l+1))),(Z1 (p+1))) h))))
   exact Z2 [] (ih N (k,0) h)
  exact Z2 [] (ih N ((YA f c.ZN 0),0) h)
 refine wa J 1 (Yn (σ:=(List Int) × Int) (fun st=>(Zgx c st.1 [(1,.B 4 0),(3,.S 5),(4,.I st.2)])) (fun n st=>PQ N c n st.1 st.2) (r:=r) (fun _=>rfl) ?_ (fun ih=>?_))
 ·intro n16 ih24
  rintro ⟨A,C⟩ h
  unfold PQ at h
  refine Z7 J 8 h (fun h=>wa J 2 (Z2 [] (j1 A h))) fun h=>?_
  exact wO J 7 h fun D G h=>YB J (rI .i64) G (XS J [] (oI .i64) (-1) G (wa J 7 (Z2 [] (ih24 ((YA A C (-1)),(Z1 (C+1))) h))))
 exact Z2 [] (ih N (d,0) h)
theorem ZuA (N:Nat) (c:T5) (d:Int) (e:Int) (r:Bool) (h:Du N c d e=some r) :
 Fn Tryz.prog 215 ⟨4,[.a (YH 0 1 2 3 c),.I d,.I e],(Xk 0 1 2 3 c []),[],4,.O r,[],[]⟩:=by
 refine Ya func215 rfl (fun E F w=>?_)
 unfold Du at h
 refine wO J 10 h fun f g h=>Yc J WW g ?_
 refine wO J 5 h fun i j h=>Yc J WW j (wa J 6 (Yl ?_))
 refine wB J 9 h (fun h=>oi h▸wr J 10 func215 []) fun h=>?_
 exact wB J 11 h (fun h=>oi h▸wr J 10 func215 []) fun h=>oi h▸wr J 9 func215 []
theorem ZtX (N:Nat) (c:T5) (d:Int) (r:(List Int)) (h:G8 N c d=some r) :
 Fn Tryz.prog 168 ⟨4,[.a (YH 0 1 2 3 c),.I d],(Xk 0 1 2 3 c []),[],5,.S 4,[],[(4,.own (rI .i64) r true)]⟩:=by
 refine Ya func168 rfl (fun E F w=>?_)
 unfold G8 at h
 refine wa J 14 (Yf (σ:=(List Int)) (fun st=>⟨[(5,.S 5)],[(5,.own (rI .i64) st true)],(Xk 0 1 2 3 c []),6⟩) (fun st=>Zbc st=some r) ?_ (fun j1=>?_))
 ·intro e h
  unfold Zbc at h
  exact oi h▸wr J 5 func168 [(4,.sl 5)]
 refine wa J 1 (Yn (σ:=(List Int) × Int) (fun st=>(Zgx c st.1 [(1,.I d),(2,.B 4 0),(5,.S 5),(6,.I st.2)])) (fun n st=>Tp N c d n st.1 st.2) (r:=r) (fun _=>rfl) ?_ (fun ih=>?_))
 ·intro n12 ih12
  rintro ⟨f,g⟩ h
  unfold Tp at h
  refine Z7 J 9 h (fun h=>wa J 2 (Z2 [] (j1 f h))) fun h=>?_
  refine wO J 10 h fun i j h=>Yc J WW j ?_
  refine wB J 5 h (fun h=>wa J 7 (Z2 [] (ih12 (f,(Z1 (g+1))) h))) fun h=>wa J 7 (Yf (σ:=Int) (fun st=>(D5 c f [(1,.I d),(2,.B 4 0),(5,.S 5),(6,.I g),(7,.I st)])) (fun st=>LO f g (Tp N c d n12) st=some r) ?_ (fun j19=>?_))
  ·intro k h
   unfold LO at h
   refine wO J 3 h fun l m h=>TK J (rI .i64) m (wa J 1 (YS J [] (oI .i64) ([g]:List Int) ?_))
   refine wO J 2 h fun o p h=>TK J (rI .i64) p ?_
   have ⟨q,s,h⟩:=ob h
   refine eAv J (rI .i64) p s ?_
   have ⟨t,u,h⟩:=ob h
   exact eAz J (rI .i64) m u (wa J 1 (Yl (wa J 6 (Z2 [(5,.sl 11)] (ih12 (t,(Z1 (g+1))) h)))))
  refine wa J 1 (Yn (σ:=Int) (fun st=>(D5 c f [(1,.I d),(2,.B 4 0),(5,.S 5),(6,.I g),(7,.I st)])) (fun n st=>Qr N c f g (Tp N c d n12) n st) (r:=r) (fun _=>rfl) ?_ (fun ih=>?_))
  ·intro n14 ih21
   intro v h
   unfold Qr at h
   refine Z7 J 8 h (fun h=>wa J 8 (Yl (wa J 2 (Z2 [] (j19 v h))))) fun h=>?_
   refine wO J 3 h fun x y h=>YB J (rI .i64) y (Y1 J (oI .i64) y ?_)
   refine wO J 1 h fun z A h=>Z6 (ZuA N c x g _ A) [] [(0,.sl 0),(1,.sl 1),(2,.sl 2),(3,.sl 3)] (wa J 1 (Yl ?_))
   exact eB h (fun h=>wa J 9 (Z2 [] (ih21 (Z1 (v+1)) h))) fun h=>wa J 2 (Z2 [] (j19 v h))
  exact Z2 [] (ih N 0 h)
 exact Z2 [(5,.nil)] (ih N (([]:List Int),0) h)
theorem Ztj (N:Nat) (c:T5) (r:Bool) (h:Gt N c=some r) :
 Fn Tryz.prog 104 ⟨4,[.a (YH 0 1 2 3 c)],(Xk 0 1 2 3 c []),[],4,.O r,[],[]⟩:=by
 refine Ya func104 rfl (fun E F w=>?_)
 unfold Gt at h
 refine wO J 9 h fun d e h=>Ur J oB e ?_
 refine wO J 7 h fun f g h=>YB J rB g (XS J [] oB true g (wa J 6 (Yf (σ:=(List Bool)) (fun st=>(ZcA c st [(1,.B 4 0),(3,.S 5)])) (fun st=>Gu N c st=some r) ?_ (fun j1=>?_))))
 ·intro i h
  unfold Gu at h
  refine wO J 3 h fun j k h=>Z6 (ZtW N c _ k) [] [(0,.sl 0),(1,.sl 1),(2,.sl 2),(3,.sl 3)] (wa J 7 (Yf (σ:=Unit) (fun st=>⟨[(1,.B 4 0)],[(4,.box (YH 0 1 2 3 c) 27)],(Xk 0 1 2 3 c []),8⟩) (fun st=>Lj N c=some r) ?_ (fun j12=>?_)))
  ·intro _ h
   unfold Lj at h
   refine wO J 5 h fun l m h=>Z6 (ZtX N c c.ZN _ m) [] [(0,.sl 0),(1,.sl 1),(2,.sl 2),(3,.sl 3)] ?_
   exact oi h▸wr J 4 func104 []
  refine wa J 1 (Yn (σ:=Int) (fun st=>⟨[(1,.B 4 0),(3,.S 5),(6,.S 7),(7,.I st)],[(4,.box (YH 0 1 2 3 c) 27),(5,.own rB i true),(7,.own (rI .i64) j true)],(Xk 0 1 2 3 c []),8⟩) (fun n st=>PA N c i j n st) (r:=r) (fun _=>rfl) ?_ (fun ih=>?_))
  ·intro n9 ih14
   intro o h
   unfold PA at h
   refine Z7 J 8 h (fun h=>wa J 2 (Z2 [] (j12 () h))) fun h=>?_
   refine wO J 8 h fun p q h=>YB J rB q (Y1 J oB q ?_)
   refine wB J 2 h (fun h=>oi h▸wr J 12 func104 []) fun h=>?_
   refine wO J 2 h fun s t h=>YB J (rI .i64) t (Y1 J (oI .i64) t ?_)
   exact wB J 3 h (fun h=>oi h▸wr J 5 func104 []) fun h=>wa J 8 (Z2 [] (ih14 (Z1 (o+1)) h))
  exact Z2 [] (ih N 0 h)
 refine wa J 1 (Yn (σ:=(List Bool) × Int) (fun st=>(ZcA c st.1 [(1,.B 4 0),(3,.S 5),(4,.I st.2)])) (fun n st=>Sx N c n st.1 st.2) (r:=r) (fun _=>rfl) ?_ (fun ih=>?_))
 ·intro n14 ih15
  rintro ⟨u,v⟩ h
  unfold Sx at h
  refine Z7 J 8 h (fun h=>wa J 2 (Z2 [] (j1 u h))) fun h=>wa J 8 (Yf (σ:=(List Bool)) (fun st=>(ZcA c st [(1,.B 4 0),(3,.S 5),(4,.I v)])) (fun st=>ZaN v (Sx N c n14) st=some r) ?_ (fun j22=>?_))
  ·intro x h
   unfold ZaN at h
   exact wa J 6 (Z2 [] (ih15 (x,(Z1 (v+1))) h))
  refine wa J 1 (Yn (σ:=(List Bool) × Int) (fun st=>(ZcA c st.1 [(1,.B 4 0),(3,.S 5),(4,.I v),(5,.I st.2)])) (fun n st=>Sy c v (Sx N c n14) n st.1 st.2) (r:=r) (fun _=>rfl) ?_ (fun ih=>?_))
  ·intro n16 ih24
   rintro ⟨y,z⟩ h
   unfold Sy at h
   refine Z7 J 9 h (fun h=>wa J 2 (Z2 [] (j22 y h))) fun h=>?_
   refine wO J 9 h fun A C h=>Yc J WW C ?_
   refine wO J 6 h fun D G h=>Yc J WW G ?_
   refine wO J 2 h fun H R h=>YB J rB R (Y1 J oB R ?_)
   refine wB J 1 h (fun h=>?_) fun h=>?_
   ·exact wO J 10 h fun T U h=>YB J rB U (XS J [] oB true U (Yl (wa J 6 (Z2 [] (ih24 ((YA y A.To true),(Z1 (z+1))) h)))))
   refine wO J 4 h fun X Y h=>Yc J WW Y ?_
   refine wO J 2 h fun Z a0 h=>YB J rB a0 (Y1 J oB a0 ?_)
   exact wO J 1 h fun b0 c0 h=>YB J rB c0 (XS J [] oB Z c0 (Yl (wa J 6 (Z2 [] (ih24 ((YA y A.To Z),(Z1 (z+1))) h)))))
  exact Z2 [] (ih N (u,0) h)
 exact Z2 [] (ih N ((YA d c.ZM true),0) h)
theorem Ztk (N:Nat) (c:T5) (r:Bool) (h:Gv N c=some r) :
 Fn Tryz.prog 105 ⟨4,[.a (YH 0 1 2 3 c)],(Xk 0 1 2 3 c []),[],4,.O r,[],[]⟩:=by
 refine Ya func105 rfl (fun E F w=>?_)
 unfold Gv at h
 refine wa J 10 (Yf (σ:=Unit) (fun st=>(Ht c [])) (fun st=>ZaO=some r) ?_ (fun j1=>?_))
 ·intro _ h
  unfold ZaO at h
  exact oi h▸wr J 4 func105 []
 refine wa J 1 (Yn (σ:=Int) (fun st=>(S7 c [(1,.B 4 0),(3,.I st)])) (fun n st=>Sz N c n st) (r:=r) (fun _=>rfl) ?_ (fun ih=>?_))
 ·intro n2 ih3
  intro d h
  unfold Sz at h
  refine Z7 J 9 h (fun h=>wa J 2 (Z2 [] (j1 () h))) fun h=>?_
  refine wO J 9 h fun e f h=>Yc J Rn f ?_
  refine wO J 9 h fun g i h=>Z6 (G5 N c e.ZF _ i) [] [(0,.sl 0),(1,.sl 1),(2,.sl 2),(3,.sl 3)] ?_
  refine wB J 2 h (fun h=>wa J 59 (Yl (oi h▸wr J 5 func105 []))) fun h=>?_
  refine Z7 J 3 h (fun h=>?_) fun h=>?_
  ·refine wB J 18 h (fun h=>wa J 38 (Yl (oi h▸wr J 5 func105 []))) fun h=>?_
   refine wB J 5 h (fun h=>wa J 33 (Yl (oi h▸wr J 5 func105 []))) fun h=>?_
   refine wB J 5 h (fun h=>wa J 28 (Yl (oi h▸wr J 5 func105 []))) fun h=>?_
   refine wB J 8 h (fun h=>wa J 20 (Yl (oi h▸wr J 5 func105 []))) fun h=>?_
   refine wO J 4 h fun j k h=>Yc J WW k ?_
   refine wB J 7 h (fun h=>wa J 8 (Yl (oi h▸wr J 5 func105 []))) fun h=>?_
   refine wO J 4 h fun l m h=>Yc J WW m (wa J 3 (Yl ?_))
   exact eB h (fun h=>oi h▸wr J 5 func105 []) fun h=>wa J 8 (Z2 [] (ih3 (Z1 (d+1)) h))
  refine wO J 6 h fun o p h=>Yc J Rn p ?_
  refine wB J 6 h (fun h=>wa J 43 (Yl (oi h▸wr J 5 func105 []))) fun h=>?_
  refine wB J 5 h (fun h=>wa J 38 (Yl (oi h▸wr J 5 func105 []))) fun h=>?_
  refine wB J 5 h (fun h=>wa J 33 (Yl (oi h▸wr J 5 func105 []))) fun h=>?_
  refine wB J 5 h (fun h=>wa J 28 (Yl (oi h▸wr J 5 func105 []))) fun h=>?_
  refine wB J 8 h (fun h=>wa J 20 (Yl (oi h▸wr J 5 func105 []))) fun h=>?_
  refine wO J 4 h fun q s h=>Yc J WW s ?_
  refine wB J 7 h (fun h=>wa J 8 (Yl (oi h▸wr J 5 func105 []))) fun h=>?_
  refine wO J 4 h fun t u h=>Yc J WW u (wa J 3 (Yl ?_))
  exact eB h (fun h=>oi h▸wr J 5 func105 []) fun h=>wa J 8 (Z2 [] (ih3 (Z1 (d+1)) h))
 exact Z2 [] (ih N 0 h)
theorem Zvd (N:Nat) (c:T5) (r:Bool) (h:z45 N c=some r) :
 Fn Tryz.prog 45 ⟨4,[.a (YH 0 1 2 3 c)],(Xk 0 1 2 3 c []),[],4,.O r,[],[]⟩:=by
 refine Ya func45 rfl (fun E F w=>?_)
 unfold z45 at h
 refine wO J 8 h fun d e h=>Z6 (Ztg N c _ e) [] [(0,.sl 0),(1,.sl 1),(2,.sl 2),(3,.sl 3)] ?_
 refine Z7 J 1 h (fun h=>oi h▸wr J 17 func45 []) fun h=>?_
 refine wO J 1 h fun f g h=>Z6 (Zth N c _ g) [] [(0,.sl 0),(1,.sl 1),(2,.sl 2),(3,.sl 3)] ?_
 refine Z7 J 2 h (fun h=>oi h▸wr J 13 func45 []) fun h=>?_
 refine wO J 1 h fun i j h=>Z6 (Zti N c _ j) [] [(0,.sl 0),(1,.sl 1),(2,.sl 2),(3,.sl 3)] ?_
 refine Z7 J 2 h (fun h=>oi h▸wr J 9 func45 []) fun h=>?_
 refine wO J 1 h fun k l h=>Z6 (Ztj N c _ l) [] [(0,.sl 0),(1,.sl 1),(2,.sl 2),(3,.sl 3)] ?_
 refine Z7 J 2 h (fun h=>oi h▸wr J 5 func45 []) fun h=>?_
 refine wO J 1 h fun m o h=>Z6 (Ztk N c _ o) [] [(0,.sl 0),(1,.sl 1),(2,.sl 2),(3,.sl 3)] ?_
 exact oi h▸wr J 3 func45 []
theorem Ztl (N:Nat) (c:T8) (r:Bool) (h:Gw N c=some r) :
 Fn Tryz.prog 106 ⟨3,[.a (YM 0 1 2 c)],(YP 0 1 2 c []),[],3,.O r,[],[]⟩:=by
 refine Ya func106 rfl (fun E F w=>?_)
 unfold Gw at h
 refine wB J 12 h (fun h=>oi h▸wr J 46 func106 []) fun h=>?_
 refine wB J 5 h (fun h=>oi h▸wr J 41 func106 []) fun h=>?_
 refine wB J 5 h (fun h=>oi h▸wr J 36 func106 []) fun h=>?_
 refine wB J 5 h (fun h=>oi h▸wr J 31 func106 []) fun h=>?_
 refine wB J 5 h (fun h=>oi h▸wr J 26 func106 []) fun h=>?_
 refine wB J 7 h (fun h=>oi h▸wr J 19 func106 []) fun h=>?_
 refine wB J 8 h (fun h=>oi h▸wr J 11 func106 []) fun h=>?_
 refine wB J 6 h (fun h=>oi h▸wr J 5 func106 []) fun h=>wa J 7 (Yf (σ:=Unit) (fun st=>⟨[],[],(YP 0 1 2 c []),4⟩) (fun st=>ZeK=some r) ?_ (fun j1=>?_))
 ·intro _ h
  unfold ZeK at h
  exact oi h▸wr J 4 func106 []
 refine wa J 1 (Yn (σ:=Int) (fun st=>(Zcv c [(1,.B 3 0),(3,.I st)])) (fun n st=>Qd c n st) (r:=r) (fun _=>rfl) ?_ (fun ih=>?_))
 ·intro n2 ih3
  intro d h
  unfold Qd at h
  refine Z7 J 9 h (fun h=>wa J 2 (Z2 [] (j1 () h))) fun h=>?_
  refine wO J 9 h fun e f h=>Yc J XM f ?_
  refine wB J 10 h (fun h=>oi h▸wr J 51 func106 []) fun h=>?_
  refine wB J 7 h (fun h=>oi h▸wr J 44 func106 []) fun h=>?_
  refine wB J 5 h (fun h=>oi h▸wr J 39 func106 []) fun h=>?_
  refine wB J 7 h (fun h=>oi h▸wr J 32 func106 []) fun h=>?_
  refine wB J 5 h (fun h=>oi h▸wr J 27 func106 []) fun h=>?_
  refine wB J 5 h (fun h=>oi h▸wr J 22 func106 []) fun h=>?_
  refine wB J 7 h (fun h=>oi h▸wr J 15 func106 []) fun h=>?_
  refine wB J 5 h (fun h=>oi h▸wr J 10 func106 []) fun h=>?_
  exact wB J 5 h (fun h=>oi h▸wr J 5 func106 []) fun h=>wa J 8 (Z2 [] (ih3 (Z1 (d+1)) h))
 exact Z2 [] (ih N 0 h)
theorem Ztm (N:Nat) (c:T8) (r:Bool) (h:Gy N c=some r) :
 Fn Tryz.prog 107 ⟨3,[.a (YM 0 1 2 c)],(YP 0 1 2 c []),[],3,.O r,[],[]⟩:=by
 refine Ya func107 rfl (fun E F w=>?_)
 unfold Gy at h
 refine wa J 10 (Yf (σ:=Unit) (fun st=>⟨[],[],(YP 0 1 2 c []),4⟩) (fun st=>ZeL=some r) ?_ (fun j1=>?_))
 ·intro _ h
  unfold ZeL at h
  exact oi h▸wr J 4 func107 []
 refine wa J 1 (Yn (σ:=Int) (fun st=>(Zcv c [(1,.B 3 0),(3,.I st)])) (fun n st=>Vd N c n st) (r:=r) (fun _=>rfl) ?_ (fun ih=>?_))
 ·intro n12 ih33
  intro d h
  unfold Vd at h
  refine Z7 J 9 h (fun h=>wa J 2 (Z2 [] (j1 () h))) fun h=>?_
  refine wO J 9 h fun e f h=>Yc J XM f ?_
  refine wa J 10 (Yf (σ:=Bool) (fun st=>⟨[(1,.B 3 0),(3,.I d),(4,.B 5 0),(40,.O st)],[(3,.box (YM 0 1 2 c) 31),(5,.box (TG e) 65)],(YP 0 1 2 c []),6⟩) (fun st=>PB N c d (Vd N c n12) e st=some r) ?_ (fun j54=>?_))
  ·intro g h
   unfold PB at h
   refine eB h (fun h=>oi h▸wr J 5 func107 []) fun h=>wa J 6 (Yf (σ:=Unit) (fun st=>⟨[(1,.B 3 0),(3,.I d)],[(3,.box (YM 0 1 2 c) 31)],(YP 0 1 2 c []),6⟩) (fun st=>ZaP d (Vd N c n12)=some r) ?_ (fun j55=>?_))
   ·intro _ h
    unfold ZaP at h
    exact wa J 6 (Z2 [] (ih33 (Z1 (d+1)) h))
   refine wa J 1 (Yn (σ:=Int) (fun st=>⟨[(1,.B 3 0),(3,.I d),(4,.B 5 0),(5,.I st)],[(3,.box (YM 0 1 2 c) 31),(5,.box (TG e) 65)],(YP 0 1 2 c []),6⟩) (fun n st=>Uh c d (Vd N c n12) e n st) (r:=r) (fun _=>rfl) ?_ (fun ih=>?_))
   ·intro n14 ih60
    intro i h
    unfold Uh at h
    refine Z7 J 9 h (fun h=>wa J 2 (Z2 [] (j55 () h))) fun h=>?_
    refine wO J 9 h fun j k h=>Yc J XM k ?_
    refine wa J 11 (Yf (σ:=Bool) (fun st=>⟨[(1,.B 3 0),(3,.I d),(4,.B 5 0),(5,.I i),(6,.B 7 0),(87,.O st)],[(3,.box (YM 0 1 2 c) 31),(5,.box (TG e) 65),(7,.box (TG j) 65)],(YP 0 1 2 c []),8⟩) (fun st=>Ru e i (Uh c d (Vd N c n12) e n14) j st=some r) ?_ (fun j63=>?_))
    ·intro l h
     unfold Ru at h
     refine eB h (fun h=>oi h▸wr J 5 func107 []) fun h=>?_
     refine Z7 J 7 h (fun h=>wa J 27 (Z2 [] (ih60 (Z1 (i+1)) h))) fun h=>?_
     refine Z7 J 7 h (fun h=>wa J 20 (Z2 [] (ih60 (Z1 (i+1)) h))) fun h=>?_
     refine wB J 4 h (fun h=>oi h▸wr J 13 func107 []) fun h=>?_
     exact wB J 8 h (fun h=>oi h▸wr J 5 func107 []) fun h=>wa J 8 (Z2 [] (ih60 (Z1 (i+1)) h))
    refine Ub h (fun h=>wa J 32 (Z2 [] (j63 false h))) fun h=>?_
    refine Z7 J 7 h (fun h=>wa J 25 (Z2 [] (j63 false h))) fun h=>?_
    refine wB J 6 h (fun h=>wa J 19 (Z2 [] (j63 true h))) fun h=>?_
    refine Z7 J 6 h (fun h=>wa J 13 (Z2 [] (j63 e.ZE h))) fun h=>?_
    exact wB J 8 h (fun h=>wa J 5 (Z2 [] (j63 true h))) fun h=>wa J 5 (Z2 [] (j63 e.ZE h))
   exact Z2 [] (ih N 0 h)
  refine Ub h (fun h=>wa J 20 (Z2 [] (j54 false h))) fun h=>?_
  refine wB J 4 h (fun h=>wa J 16 (Z2 [] (j54 true h))) fun h=>?_
  refine wB J 7 h (fun h=>wa J 9 (Z2 [] (j54 true h))) fun h=>?_
  exact wO J 4 h fun m o h=>Yc J oB o (wa J 4 (Z2 [] (j54 m h)))
 exact Z2 [] (ih N 0 h)
theorem Ztn (N:Nat) (c:T8) (r:Bool) (h:Gz N c=some r) :
 Fn Tryz.prog 108 ⟨3,[.a (YM 0 1 2 c)],(YP 0 1 2 c []),[],3,.O r,[],[]⟩:=by
 refine Ya func108 rfl (fun E F w=>?_)
 unfold Gz at h
 refine wa J 10 (Yf (σ:=Unit) (fun st=>⟨[],[],(YP 0 1 2 c []),4⟩) (fun st=>ZeM=some r) ?_ (fun j1=>?_))
 ·intro _ h
  unfold ZeM at h
  exact oi h▸wr J 4 func108 []
 refine wa J 1 (Yn (σ:=Int) (fun st=>(Zcv c [(1,.B 3 0),(3,.I st)])) (fun n st=>V3 c n st) (r:=r) (fun _=>rfl) ?_ (fun ih=>?_))
 ·intro n2 ih6
  intro d h
  unfold V3 at h
  refine Z7 J 9 h (fun h=>wa J 2 (Z2 [] (j1 () h))) fun h=>?_
  refine wO J 9 h fun e f h=>Yc J Rn f ?_
  refine wa J 11 (Yf (σ:=Bool) (fun st=>⟨[(1,.B 3 0),(3,.I d),(4,.B 5 0),(54,.O st)],[(3,.box (YM 0 1 2 c) 31),(5,.box (Bj e) 152)],(YP 0 1 2 c []),6⟩) (fun st=>TS c d (V3 c n2) e st=some r) ?_ (fun j9=>?_))
  ·intro g h
   unfold TS at h
   refine eB h (fun h=>oi h▸wr J 5 func108 []) fun h=>?_
   refine wO J 8 h fun i j h=>Yc J XM j ?_
   refine wB J 12 h (fun h=>oi h▸wr J 14 func108 []) fun h=>?_
   refine wB J 5 h (fun h=>oi h▸wr J 9 func108 []) fun h=>?_
   exact wB J 4 h (fun h=>oi h▸wr J 5 func108 []) fun h=>wa J 8 (Z2 [] (ih6 (Z1 (d+1)) h))
  refine eB h (fun h=>wa J 33 (Yl (Z2 [] (j9 true h)))) fun h=>?_
  refine wB J 5 h (fun h=>wa J 28 (Yl (Z2 [] (j9 true h)))) fun h=>?_
  refine wB J 5 h (fun h=>wa J 23 (Yl (Z2 [] (j9 true h)))) fun h=>?_
  refine wB J 8 h (fun h=>wa J 15 (Yl (Z2 [] (j9 true h)))) fun h=>?_
  refine Z7 J 3 h (fun h=>wa J 12 (Yl (Z2 [] (j9 false h)))) fun h=>?_
  exact wO J 6 h fun k l h=>Yc J Rn l (wa J 5 (Yl (Z2 [] (j9 (decide (e.ZF<=k.ZF)) h))))
 exact Z2 [] (ih N 0 h)
theorem ZtY (N:Nat) (c:(List Int)) (d:Int) (r:Bool) (h:G9 N c d=some r) :
 Fn Tryz.prog 169 ⟨1,[.S 0,.I d],[(0,.sl (rI .i64) c)],[],1,.O r,[],[]⟩:=by
 refine Ya func169 rfl (fun E F w=>?_)
 unfold G9 at h
 refine wa J 9 (Yf (σ:=Unit) (fun st=>(Mr c [])) (fun st=>Zfn=some r) ?_ (fun j1=>?_))
 ·intro _ h
  unfold Zfn at h
  exact oi h▸wr J 4 func169 []
 refine wa J 1 (Yn (σ:=Int) (fun st=>(Mr c [(0,.S 0),(1,.I d),(5,.I st)])) (fun n st=>TZ c d n st) (r:=r) (fun _=>rfl) ?_ (fun ih=>?_))
 ·intro n2 ih3
  intro e h
  unfold TZ at h
  refine Z7 J 8 h (fun h=>wa J 2 (Z2 [] (j1 () h))) fun h=>?_
  refine wO J 8 h fun f g h=>Yc J (oI .i64) g ?_
  exact wB J 4 h (fun h=>oi h▸wr J 5 func169 []) fun h=>wa J 8 (Z2 [] (ih3 (Z1 (e+1)) h))
 exact Z2 [] (ih N 0 h)
theorem Zt0 (N:Nat) (c:(List Int)) (d:Int) (r:(List Int)) (h:Da N c d=some r) :
 Fn Tryz.prog 170 ⟨1,[.S 0,.I d],[(0,.sl (rI .i64) c)],[],2,.S 1,[],[(1,.own (rI .i64) r true)]⟩:=by
 refine Ya func170 rfl (fun E F w=>?_)
 unfold Da at h
 refine wa J 17 (Yf (σ:=(List Int) × Bool) (fun st=>(Zcu st.1 c [(1,.I d),(5,.S 1),(6,.O st.2)])) (fun st=>Zbe d st.1 st.2=some r) ?_ (fun j1=>?_))
 ·rintro ⟨e,f⟩ h
  unfold Zbe at h
  refine Z7 J 6 h (fun h=>oi h▸wr J 7 func170 [(1,.sl 1)]) fun h=>wa J 4 (YS J [] (oI .i64) ([d]:List Int) ?_)
  have ⟨g,i,h⟩:=ob h
  refine Xc J (rI .i64) i ?_
  exact oi h▸wr J 7 func170 [(1,.sl 3)]
 refine wa J 1 (Yn (σ:=(List Int) × Bool × Int) (fun st=>(Zcu st.1 c [(0,.S 0),(1,.I d),(5,.S 1),(6,.O st.2.1),(7,.I st.2.2)])) (fun n st=>SJ c d n st.1 st.2.1 st.2.2) (r:=r) (fun _=>rfl) ?_ (fun ih=>?_))
 ·intro n2 ih3
  rintro ⟨j,k,l⟩ h
  unfold SJ at h
  refine Z7 J 8 h (fun h=>wa J 2 (Z2 [] (j1 (j,k) h))) fun h=>?_
  refine Z7 J 10 h (fun h=>?_) fun h=>?_
  ·refine wO J 14 h fun m o h=>Yc J (oI .i64) o (wa J 1 (YS J [] (oI .i64) ([m]:List Int) ?_))
   have ⟨p,q,h⟩:=ob h
   exact Xc J (rI .i64) q (wa J 8 (Z2 [(1,.sl 4)] (ih3 (p,k,(Z1 (l+1))) h)))
  refine wO J 2 h fun s t h=>Yc J (oI .i64) t ?_
  refine Z7 J 5 h (fun h=>?_) fun h=>?_
  ·refine wO J 6 h fun u v h=>Yc J (oI .i64) v (wa J 1 (YS J [] (oI .i64) ([u]:List Int) ?_))
   have ⟨x,y,h⟩:=ob h
   exact Xc J (rI .i64) y (wa J 8 (Z2 [(1,.sl 5)] (ih3 (x,k,(Z1 (l+1))) h)))
  refine wO J 6 h fun z A h=>Yc J (oI .i64) A ?_
  refine Z7 J 4 h (fun h=>?_) fun h=>wa J 4 (YS J [] (oI .i64) ([d]:List Int) ?_)
  ·refine wO J 9 h fun C D h=>Yc J (oI .i64) D (wa J 1 (YS J [] (oI .i64) ([C]:List Int) ?_))
   have ⟨G,H,h⟩:=ob h
   exact Xc J (rI .i64) H (wa J 8 (Z2 [(1,.sl 6)] (ih3 (G,true,(Z1 (l+1))) h)))
  have ⟨R,T,h⟩:=ob h
  refine Xc J (rI .i64) T ?_
  refine wO J 9 h fun U X h=>Yc J (oI .i64) X (wa J 1 (YS J [] (oI .i64) ([U]:List Int) ?_))
  have ⟨Y,Z,h⟩:=ob h
  exact Xc J (rI .i64) Z (wa J 8 (Z2 [(1,.sl 8)] (ih3 (Y,true,(Z1 (l+1))) h)))
 exact Z2 [(1,.nil)] (ih N (([]:List Int),false,0) h)
theorem Zto (N:Nat) (c:T8) (r:(List Int)) (h:z109 N c=some r) :
 Fn Tryz.prog 109 ⟨3,[.a (YM 0 1 2 c)],(YP 0 1 2 c []),[],4,.S 3,[],[(3,.own (rI .i64) r true)]⟩:=by
 refine Ya func109 rfl (fun E F w=>?_)
 unfold z109 at h
 refine wa J 9 (YS J [] (oI .i64) ([c.ZM]:List Int) (wa J 7 (Yf (σ:=(List Int)) (fun st=>⟨[(3,.S 5)],[(5,.own (rI .i64) st true)],(YP 0 1 2 c []),6⟩) (fun st=>ZeN st=some r) ?_ (fun j1=>?_))))
 ·intro d h
  unfold ZeN at h
  exact oi h▸wr J 5 func109 [(3,.sl 5)]
 refine wa J 1 (Yn (σ:=(List Int) × Int) (fun st=>⟨[(1,.B 3 0),(3,.S 5),(4,.I st.2)],[(3,.box (YM 0 1 2 c) 31),(5,.own (rI .i64) st.1 true)],(YP 0 1 2 c []),6⟩) (fun n st=>SA N c n st.1 st.2) (r:=r) (fun _=>rfl) ?_ (fun ih=>?_))
 ·intro n12 ih12
  rintro ⟨e,f⟩ h
  unfold SA at h
  refine Z7 J 8 h (fun h=>wa J 2 (Z2 [] (j1 e h))) fun h=>wa J 8 (Yf (σ:=(List Int)) (fun st=>⟨[(1,.B 3 0),(3,.S 6),(4,.I f)],[(3,.box (YM 0 1 2 c) 31),(6,.own (rI .i64) st true)],(YP 0 1 2 c []),7⟩) (fun st=>ZeO f (SA N c n12) st=some r) ?_ (fun j19=>?_))
  ·intro g h
   unfold ZeO at h
   exact wa J 6 (Z2 [(5,.sl 6)] (ih12 (g,(Z1 (f+1))) h))
  refine wa J 1 (Yn (σ:=(List Int) × Int) (fun st=>⟨[(1,.B 3 0),(3,.S 6),(4,.I f),(5,.I st.2)],[(3,.box (YM 0 1 2 c) 31),(6,.own (rI .i64) st.1 true)],(YP 0 1 2 c []),7⟩) (fun n st=>Qe N c f (SA N c n12) n st.1 st.2) (r:=r) (fun _=>rfl) ?_ (fun ih=>?_))
  ·intro n14 ih21
   rintro ⟨i,j⟩ h
   unfold Qe at h
   refine Z7 J 9 h (fun h=>wa J 2 (Z2 [] (j19 i h))) fun h=>?_
   refine wO J 10 h fun k l h=>Yc J XM l ?_
   refine wO J 2 h fun m o h=>X2 (ZtY N i k.ZC _ o) [] [(0,.sl 6)] [6] (.inr ⟨rfl,trivial⟩) ?_
   refine Z7 J 1 h (fun h=>wa J 8 (Z2 [] (ih21 (i,(Z1 (j+1))) h))) fun h=>?_
   refine wO J 6 h fun p q h=>Yc J XM q ?_
   exact wO J 2 h fun s t h=>X2 (Zt0 N i p.To _ t) [] [(0,.sl 6)] [6] (.inr ⟨rfl,⟨(MY _),trivial⟩⟩) (wa J 8 (Z2 [(6,.sl 9)] (ih21 (s,(Z1 (j+1))) h)))
  exact Z2 [(6,.sl 5)] (ih N (e,0) h)
 exact Z2 [(5,.sl 4)] (ih N (([c.ZM]:List Int),0) h)
theorem Zly (N:Nat) (c:T8) (r:Bool) (h:z46 N c=some r) :
 Fn Tryz.prog 46 ⟨3,[.a (YM 0 1 2 c)],(YP 0 1 2 c []),[],3,.O r,[],[]⟩:=by
 refine Ya func46 rfl (fun E F w=>?_)
 unfold z46 at h
 refine wO J 8 h fun d e h=>Z6 (Ztl N c _ e) [] [(0,.sl 0),(1,.sl 1),(2,.sl 2)] ?_
 refine Z7 J 1 h (fun h=>wa J 16 (Yl ?_)) fun h=>?_
 ·cases h
  exact YW J func46 []
 refine wO J 1 h fun f g h=>Z6 (Ztm N c _ g) [] [(0,.sl 0),(1,.sl 1),(2,.sl 2)] ?_
 refine Z7 J 2 h (fun h=>wa J 12 (Yl ?_)) fun h=>?_
 ·cases h
  exact YW J func46 []
 refine wO J 1 h fun i j h=>Z6 (Ztn N c _ j) [] [(0,.sl 0),(1,.sl 1),(2,.sl 2)] ?_
 refine Z7 J 2 h (fun h=>wa J 8 (Yl ?_)) fun h=>?_
 ·cases h
  exact YW J func46 []
 refine wO J 1 h fun k l h=>Z6 (Zto N c _ l) [] [(0,.sl 0),(1,.sl 1),(2,.sl 2)] (wa J 6 (Yl ?_))
 cases h
 exact YW J func46 []
theorem ZfD (N:Nat) (c:T5) (d:T8) (r:Bool) (h:Qv N c d=some r) :
 Fn Tryz.prog 21 ⟨7,[.a (YH 0 1 2 3 c),.a (YM 4 5 6 d)],((0,.sl rS c.ZI)::(1,.sl Ys c.ZJ)::(2,.sl Xb c.ZO)::(3,.sl YN c.ZP)::YP 4 5 6 d []),[],7,.O r,[],[]⟩:=by
 refine Ya func21 rfl (fun E F w=>?_)
 unfold Qv at h
 refine wO J 10 h fun e f h=>Z6 (Zvd N c _ f) [] [(0,.sl 0),(1,.sl 1),(2,.sl 2),(3,.sl 3)] ?_
 refine wB J 2 h (fun h=>oi h▸wr J 18 func21 []) fun h=>?_
 refine wO J 1 h fun g i h=>Z6 (Zly N d _ i) [] [(0,.sl 4),(1,.sl 5),(2,.sl 6)] ?_
 refine wB J 3 h (fun h=>oi h▸wr J 13 func21 []) fun h=>?_
 refine wB J 8 h (fun h=>oi h▸wr J 5 func21 []) fun h=>wa J 7 (Yf (σ:=Unit) (fun st=>⟨[],[],((0,.sl rS c.ZI)::(1,.sl Ys c.ZJ)::(2,.sl Xb c.ZO)::(3,.sl YN c.ZP)::YP 4 5 6 d []),9⟩) (fun st=>ZfE=some r) ?_ (fun j1=>?_))
 ·intro _ h
  unfold ZfE at h
  exact oi h▸wr J 4 func21 []
 refine wa J 1 (Yn (σ:=Int) (fun st=>⟨[(2,.B 7 0),(3,.B 8 0),(5,.I st)],[(7,.box (YH 0 1 2 3 c) 27),(8,.box (YM 4 5 6 d) 31)],((0,.sl rS c.ZI)::(1,.sl Ys c.ZJ)::(2,.sl Xb c.ZO)::(3,.sl YN c.ZP)::YP 4 5 6 d []),9⟩) (fun n st=>Qw c d n st) (r:=r) (fun _=>rfl) ?_ (fun ih=>?_))
 ·intro n2 ih3
  intro j h
  unfold Qw at h
  refine Z7 J 9 h (fun h=>wa J 2 (Z2 [] (j1 () h))) fun h=>?_
  refine wO J 9 h fun k l h=>Yc J XM l ?_
  refine wB J 7 h (fun h=>wa J 11 (Yl (oi h▸wr J 5 func21 []))) fun h=>?_
  refine wO J 3 h fun m o h=>Yc J XM o (wa J 7 (Yl ?_))
  exact eB h (fun h=>oi h▸wr J 5 func21 []) fun h=>wa J 8 (Z2 [] (ih3 (Z1 (j+1)) h))
 exact Z2 [] (ih N 0 h)
theorem Zvc (N:Nat) (c:(List T0)) (r:(List T12)) (h:DN N c=some r) :
 Fn Tryz.prog 44 ⟨1,[.S 0],[(0,.sl Ys c)],[],2,.S 1,[],[(1,.own Ym r true)]⟩:=by
 refine Ya func44 rfl (fun E F w=>?_)
 unfold DN at h
 refine wO J 7 h fun d e h=>Z6 (Gj N c _ e) [] [(0,.sl 0)] ?_
 have ⟨f,g,h⟩:=ob h
 refine Ur J YR g ?_
 exact oi h▸wr J 2 func44 [(1,.sl 1)]
theorem Zuu (N:Nat) (c:T5) (d:T8) (r:Yt) (h:z20 N c d=some r) :
 Fn Tryz.prog 20 ⟨7,[.a (YH 0 1 2 3 c),.a (YM 4 5 6 d)],((0,.sl rS c.ZI)::(1,.sl Ys c.ZJ)::(2,.sl Xb c.ZO)::(3,.sl YN c.ZP)::YP 4 5 6 d []),[],9,.a (X8 7 8 r),(Wm 7 8 r []),[]⟩:=by
 refine Ya func20 rfl (fun E F w=>?_)
 unfold z20 at h
 refine wO J 11 h fun e f h=>Z6 (ZfD N c d _ f) [] [(0,.sl 0),(1,.sl 1),(2,.sl 2),(3,.sl 3),(4,.sl 4),(5,.sl 5),(6,.sl 6)] ?_
 refine wB J 2 h (fun h=>oi h▸wr J 6 func20 [(7,.nil),(8,.nil)]) fun h=>?_
 refine wO J 8 h fun g i h=>Z6 (Zvc N c.ZJ _ i) [] [(0,.sl 1)] (wa J 2 (Yl (Uq [10] ?_)))
 cases h
 exact YW J func20 [(7,.sl 10),(8,.nil)]
theorem DX (N:Nat) (c:T12) (r:Int) (h:QN N c=some r) :
 Fn Tryz.prog 78 ⟨0,[.a (W5 c)],[],[],0,.I r,[],[]⟩:=by
 refine Ya func78 rfl (fun E F w=>?_)
 unfold QN at h
 exact wB J 12 h (fun h=>oi h▸wr J 8 func78 []) fun h=>oi h▸wr J 8 func78 []
theorem ZkY (N:Nat) (c:YV) (d:T12) (r:Bool) (h:Lw N c d=some r) :
 Fn Tryz.prog 132 ⟨0,[.a (TF c),.a (W5 d)],[],[],0,.O r,[],[]⟩:=by
 refine Ya func132 rfl (fun E F w=>?_)
 unfold Lw at h
 refine wa J 11 (Yf (σ:=Unit) (fun st=>(Zgy c d [(2,.B 0 0),(3,.B 1 0)])) (fun st=>Lx N c d=some r) ?_ (fun j1=>?_))
 ·intro _ h
  unfold Lx at h
  refine wa J 7 (Yf (σ:=Bool) (fun st=>(Zgy c d [(2,.B 0 0),(3,.B 1 0),(42,.O st)])) (fun st=>Rw N c d st=some r) ?_ (fun j3=>?_))
  ·intro e h
   unfold Rw at h
   refine eB h (fun h=>oi h▸wr J 5 func132 []) fun h=>?_
   refine Z7 J 10 h (fun h=>wa J 14 (Yl ?_)) fun h=>?_
   ·cases h
    exact YW J func132 []
   refine wO J 1 h fun f g h=>Z6 (DX N d _ g) [] [] ?_
   refine Z7 J 5 h (fun h=>wa J 7 (Yl ?_)) fun h=>?_
   ·cases h
    exact YW J func132 []
   refine wO J 1 h fun i j h=>Z6 (DX N d _ j) [] [] (wa J 5 (Yl ?_))
   cases h
   exact YW J func132 []
  refine Ub h (fun h=>?_) fun h=>?_
  ·exact wB J 9 h (fun h=>wa J 6 (Z2 [] (j3 (!(d.S.toList==(str []).toList)) h))) fun h=>wa J 6 (Z2 [] (j3 false h))
  refine wB J 5 h (fun h=>wa J 10 (Z2 [] (j3 true h))) fun h=>?_
  exact wB J 4 h (fun h=>wa J 6 (Z2 [] (j3 (!(d.S.toList==(str []).toList)) h))) fun h=>wa J 6 (Z2 [] (j3 false h))
 refine wa J 1 (Yn (σ:=Int) (fun st=>(Zgy c d [(2,.B 0 0),(3,.B 1 0),(5,.I st)])) (fun n st=>PH N c d n st) (r:=r) (fun _=>rfl) ?_ (fun ih=>?_))
 ·intro n2 ih4
  intro k h
  unfold PH at h
  refine Z7 J 9 h (fun h=>wa J 2 (Z2 [] (j1 () h))) fun h=>?_
  refine wO J 9 h fun l m h=>Vh J m ?_
  refine wB J 2 h (fun h=>oi h▸wr J 12 func132 []) fun h=>?_
  refine wO J 3 h fun o p h=>Vh J p ?_
  exact wB J 3 h (fun h=>oi h▸wr J 5 func132 []) fun h=>wa J 8 (Z2 [] (ih4 (Z1 (k+1)) h))
 exact Z2 [] (ih N 0 h)
theorem Zcb (N:Nat) (c:(List T0)) (d:(List T12)) (r:Bool) (h:z66 N c d=some r) :
 Fn Tryz.prog 66 ⟨2,[.S 0,.S 1],[(0,.sl Ys c),(1,.sl Ym d)],[],2,.O r,[],[]⟩:=by
 refine Ya func66 rfl (fun E F w=>?_)
 unfold z66 at h
 refine wO J 10 h fun e f h=>Z6 (Gj N c _ f) [] [(0,.sl 0)] ?_
 refine wB J 2 h (fun h=>oi h▸wr J 5 func66 []) fun h=>wa J 7 (Yf (σ:=Unit) (fun st=>⟨[],[],[(0,.sl Ys c),(1,.sl Ym d)],2⟩) (fun st=>Zga=some r) ?_ (fun j1=>?_))
 ·intro _ h
  unfold Zga at h
  exact oi h▸wr J 4 func66 []
 refine wa J 1 (Yn (σ:=Int) (fun st=>⟨[(0,.S 0),(1,.S 1),(5,.I st)],[],[(0,.sl Ys c),(1,.sl Ym d)],2⟩) (fun n st=>QG N c d n st) (r:=r) (fun _=>rfl) ?_ (fun ih=>?_))
 ·intro n2 ih3
  intro g h
  unfold QG at h
  refine Z7 J 8 h (fun h=>wa J 2 (Z2 [] (j1 () h))) fun h=>?_
  refine wO J 8 h fun i j h=>Yc J YR j (wa J 2 (RT ?_))
  refine Z7 J 1 h (fun h=>wa J 11 (Yl (wa J 8 (Z2 [] (ih3 (Z1 (g+1)) h))))) fun h=>?_
  refine wO J 2 h fun k l h=>Z6 (ZkZ N c g _ l) [] [(0,.sl 0)] ?_
  refine wO J 3 h fun m o h=>Yc J YR o ?_
  refine wO J 1 h fun p q h=>Z6 (ZkY N k.Zv m _ q) [] [] (wa J 2 (Yl ?_))
  exact eB h (fun h=>oi h▸wr J 5 func66 []) fun h=>wa J 8 (Z2 [] (ih3 (Z1 (g+1)) h))
 exact Z2 [] (ih N 0 h)
theorem Zlr (N:Nat) (c:T5) (d:T8) (e:Yt) (r:Bool) (h:Qz N c d e=some r) :
 Fn Tryz.prog 29 ⟨9,[.a (YH 0 1 2 3 c),.a (YM 4 5 6 d),.a (X8 7 8 e)],((0,.sl rS c.ZI)::(1,.sl Ys c.ZJ)::(2,.sl Xb c.ZO)::(3,.sl YN c.ZP)::(4,.sl rB d.ZT)::(5,.sl Wh d.ZU)::(6,.sl YN d.ZP)::Wm 7 8 e []),[],9,.O r,[],[]⟩:=by
 refine Ya func29 rfl (fun E F w=>?_)
 unfold Qz at h
 refine wO J 11 h fun f g h=>Z6 (ZfD N c d _ g) [] [(0,.sl 0),(1,.sl 1),(2,.sl 2),(3,.sl 3),(4,.sl 4),(5,.sl 5),(6,.sl 6)] ?_
 refine Z7 J 1 h (fun h=>oi h▸wr J 20 func29 []) fun h=>?_
 refine Z7 J 5 h (fun h=>oi h▸wr J 15 func29 []) fun h=>?_
 refine Z7 J 7 h (fun h=>oi h▸wr J 8 func29 []) fun h=>?_
 refine wO J 4 h fun i j h=>Z6 (Zcb N c.ZJ e.ZW _ j) [] [(0,.sl 1),(1,.sl 7)] ?_
 exact oi h▸wr J 3 func29 []
theorem Zve (N:Nat) (c:T8) (d:Int) (e:T3) (r:Int) (h:Hc N c d e=some r) :
 Fn Tryz.prog 47 ⟨4,[.a (YM 0 1 2 c),.I d,.a (W6 3 e)],(YP 0 1 2 c [(3,.sl Ym e.ZV)]),[],4,.I r,[],[]⟩:=by
 refine Ya func47 rfl (fun E F w=>?_)
 unfold Hc at h
 refine wa J 11 (Yf (σ:=Unit) (fun st=>⟨[],[],(YP 0 1 2 c [(3,.sl Ym e.ZV)]),6⟩) (fun st=>ZfW=some r) ?_ (fun j1=>?_))
 ·intro _ h
  unfold ZfW at h
  exact oi h▸wr J 4 func47 []
 refine wa J 1 (Yn (σ:=Int) (fun st=>⟨[(1,.I d),(3,.B 4 0),(5,.B 5 0),(7,.I st)],[(4,.box (YM 0 1 2 c) 31),(5,.box (W6 3 e) 48)],(YP 0 1 2 c [(3,.sl Ym e.ZV)]),6⟩) (fun n st=>SY c d e n st) (r:=r) (fun _=>rfl) ?_ (fun ih=>?_))
 ·intro n2 ih3
  intro f h
  unfold SY at h
  refine Z7 J 9 h (fun h=>wa J 2 (Z2 [] (j1 () h))) fun h=>?_
  refine wO J 9 h fun g i h=>Yc J XM i ?_
  refine Z7 J 11 h (fun h=>wa J 29 (Z2 [] (ih3 (Z1 (f+1)) h))) fun h=>?_
  refine Z7 J 7 h (fun h=>wa J 22 (Z2 [] (ih3 (Z1 (f+1)) h))) fun h=>?_
  refine Z7 J 7 h (fun h=>wa J 15 (Z2 [] (ih3 (Z1 (f+1)) h))) fun h=>?_
  exact wB J 7 h (fun h=>oi h▸wr J 6 func47 []) fun h=>wa J 8 (Z2 [] (ih3 (Z1 (f+1)) h))
 exact Z2 [] (ih N 0 h)
theorem ZuB (N:Nat) (c:YV) (r:Bool) (h:Dv N c=some r) :
 Fn Tryz.prog 216 ⟨0,[.a (TF c)],[],[],0,.O r,[],[]⟩:=by
 refine Ya func216 rfl (fun E F w=>?_)
 unfold Dv at h
 refine wB J 17 h (fun h=>?_) fun h=>?_
 ·refine Z7 J 7 h (fun h=>oi h▸wr J 13 func216 []) fun h=>?_
  exact wB J 7 h (fun h=>oi h▸wr J 6 func216 []) fun h=>oi h▸wr J 6 func216 []
 refine Z7 J 6 h (fun h=>oi h▸wr J 7 func216 []) fun h=>?_
 refine Z7 J 7 h (fun h=>oi h▸wr J 13 func216 []) fun h=>?_
 exact wB J 7 h (fun h=>oi h▸wr J 6 func216 []) fun h=>oi h▸wr J 6 func216 []
theorem ZuQ (N:Nat) (d:ByteArray) (r:Bool) (h:DF N d=some r) :
 Fn Tryz.prog 243 ⟨0,[.c (.s d)],[],[],0,.O r,[],[]⟩:=by
 refine Ya func243 rfl (fun E F w=>?_)
 unfold DF at h
 refine wa J 9 (Yf (σ:=Unit) (fun st=>(Un [])) (fun st=>ZfH=some r) ?_ (fun j1=>?_))
 ·intro _ h
  unfold ZfH at h
  exact oi h▸wr J 4 func243 []
 refine wa J 1 (Yn (σ:=Int) (fun st=>(Un [(0,.c (.s d)),(3,.I st)])) (fun n st=>Qx d n st) (r:=r) (fun _=>rfl) ?_ (fun ih=>?_))
 ·intro n2 ih3
  intro e h
  unfold Qx at h
  refine Z7 J 8 h (fun h=>wa J 2 (Z2 [] (j1 () h))) fun h=>?_
  refine wO J 8 h fun f g h=>Vh J g ?_
  refine wB J 2 h (fun h=>oi h▸wr J 11 func243 []) fun h=>?_
  refine wO J 2 h fun i j h=>Vh J j ?_
  exact wB J 3 h (fun h=>oi h▸wr J 5 func243 []) fun h=>wa J 8 (Z2 [] (ih3 (Z1 (e+1)) h))
 exact Z2 [] (ih N 0 h)
theorem ZuC (N:Nat) (c:T12) (r:Bool) (h:Dw N c=some r) :
 Fn Tryz.prog 217 ⟨0,[.a (W5 c)],[],[],0,.O r,[],[]⟩:=by
 refine Ya func217 rfl (fun E F w=>?_)
 unfold Dw at h
 refine wB J 17 h (fun h=>?_) fun h=>?_
 ·refine Z7 J 7 h (fun h=>oi h▸wr J 11 func217 []) fun h=>?_
  exact wB J 5 h (fun h=>oi h▸wr J 6 func217 []) fun h=>oi h▸wr J 6 func217 []
 refine Z7 J 6 h (fun h=>oi h▸wr J 7 func217 []) fun h=>?_
 refine Z7 J 7 h (fun h=>oi h▸wr J 12 func217 []) fun h=>?_
 refine Z7 J 6 h (fun h=>oi h▸wr J 6 func217 []) fun h=>?_
 refine wO J 2 h fun d e h=>Z6 (ZuQ N c.S _ e) [] [] ?_
 exact oi h▸wr J 3 func217 []
theorem Zle (N:Nat) (c:T12) (r:Int) (h:LY N c=some r) :
 Fn Tryz.prog 218 ⟨0,[.a (W5 c)],[],[],0,.I r,[],[]⟩:=by
 refine Ya func218 rfl (fun E F w=>?_)
 unfold LY at h
 refine wB J 17 h (fun h=>oi h▸wr J 7 func218 []) fun h=>?_
 exact wB J 6 h (fun h=>oi h▸wr J 8 func218 []) fun h=>oi h▸wr J 7 func218 []
theorem Zt1 (N:Nat) (c:YV) (d:T12) (r:Bool) (h:z171 N c d=some r) :
 Fn Tryz.prog 171 ⟨0,[.a (TF c),.a (W5 d)],[],[],0,.O r,[],[]⟩:=by
 refine Ya func171 rfl (fun E F w=>?_)
 unfold z171 at h
 refine wO J 9 h fun e f h=>Z6 (ZuB N c _ f) [] [] ?_
 refine Z7 J 1 h (fun h=>wa J 25 (Yl ?_)) fun h=>?_
 ·cases h
  exact YW J func171 []
 refine wO J 1 h fun g i h=>Z6 (ZuC N d _ i) [] [] ?_
 refine Z7 J 2 h (fun h=>wa J 21 (Yl ?_)) fun h=>?_
 ·cases h
  exact YW J func171 []
 refine Z7 J 7 h (fun h=>wa J 14 (Yl ?_)) fun h=>?_
 ·cases h
  exact YW J func171 []
 refine wO J 1 h fun j k h=>Z6 (Zle N d _ k) [] [] ?_
 refine Z7 J 5 h (fun h=>wa J 7 (Yl ?_)) fun h=>?_
 ·cases h
  exact YW J func171 []
 refine wO J 1 h fun l m h=>Z6 (Zle N d _ m) [] [] (wa J 5 (Yl ?_))
 cases h
 exact YW J func171 []
theorem Ztq (N:Nat) (c:(List T4)) (d:(List T12)) (r:Bool) (h:GA N c d=some r) :
 Fn Tryz.prog 110 ⟨2,[.S 0,.S 1],[(0,.sl XN c),(1,.sl Ym d)],[],2,.O r,[],[]⟩:=by
 refine Ya func110 rfl (fun E F w=>?_)
 unfold GA at h
 refine wB J 13 h (fun h=>oi h▸wr J 5 func110 []) fun h=>wa J 7 (Yf (σ:=Unit) (fun st=>(QQ c d [])) (fun st=>ZeQ=some r) ?_ (fun j1=>?_))
 ·intro _ h
  unfold ZeQ at h
  exact oi h▸wr J 4 func110 []
 refine wa J 1 (Yn (σ:=Int) (fun st=>(QQ c d [(0,.S 0),(1,.S 1),(5,.I st)])) (fun n st=>PC N c d n st) (r:=r) (fun _=>rfl) ?_ (fun ih=>?_))
 ·intro n2 ih3
  intro e h
  unfold PC at h
  refine Z7 J 8 h (fun h=>wa J 2 (Z2 [] (j1 () h))) fun h=>?_
  refine wO J 8 h fun f g h=>Yc J WE g ?_
  refine wO J 4 h fun i j h=>Yc J YR j ?_
  refine wO J 1 h fun k l h=>Z6 (Zt1 N f.Zv i _ l) [] [] (wa J 1 (Yl ?_))
  exact eB h (fun h=>oi h▸wr J 5 func110 []) fun h=>wa J 8 (Z2 [] (ih3 (Z1 (e+1)) h))
 exact Z2 [] (ih N 0 h)
theorem Zvf (N:Nat) (c:T0) (d:(List T12)) (r:Bool) (h:DO N c d=some r) :
 Fn Tryz.prog 48 ⟨4,[.a (Y5 0 1 2 c),.S 3],(Y3 0 1 2 c [(3,.sl Ym d)]),[],4,.O r,[],[]⟩:=by
 refine Ya func48 rfl (fun E F w=>?_)
 unfold DO at h
 refine wO J 10 h fun e f h=>Z6 (Ztq N c.Zz d _ f) [] [(0,.sl 0),(1,.sl 3)] ?_
 exact oi h▸wr J 2 func48 []
theorem Zce (N:Nat) (c:(List T0)) (d:Int) (r:Bool) (h:Tu N c d=some r) :
 Fn Tryz.prog 69 ⟨1,[.S 0,.I d],[(0,.sl Ys c)],[],1,.O r,[],[]⟩:=by
 refine Ya func69 rfl (fun E F w=>?_)
 unfold Tu at h
 refine wO J 7 h fun e f h=>Z6 (Zk0 N c _ f) [] [(0,.sl 0)] ?_
 refine Z7 J 1 h (fun h=>oi h▸wr J 11 func69 []) fun h=>?_
 exact wB J 4 h (fun h=>oi h▸wr J 7 func69 []) fun h=>oi h▸wr J 7 func69 []
theorem ZlC (N:Nat) (c:T0) (d:(List T12)) (r:Bool) (h:z70 N c d=some r) :
 Fn Tryz.prog 70 ⟨4,[.a (Y5 0 1 2 c),.S 3],(Y3 0 1 2 c [(3,.sl Ym d)]),[],4,.O r,[],[]⟩:=by
 refine Ya func70 rfl (fun E F w=>?_)
 unfold z70 at h
 refine wa J 10 (Yf (σ:=Unit) (fun st=>⟨[(1,.S 3),(2,.B 4 0)],[(4,.box (Y5 0 1 2 c) 59)],(Y3 0 1 2 c [(3,.sl Ym d)]),5⟩) (fun st=>Hg c d=some r) ?_ (fun j1=>?_))
 ·intro _ h
  unfold Hg at h
  exact oi h▸wr J 10 func70 []
 refine wa J 1 (Yn (σ:=Int) (fun st=>⟨[(1,.S 3),(2,.B 4 0),(5,.I st)],[(4,.box (Y5 0 1 2 c) 59)],(Y3 0 1 2 c [(3,.sl Ym d)]),5⟩) (fun n st=>QI N c d n st) (r:=r) (fun _=>rfl) ?_ (fun ih=>?_))
 ·intro n2 ih3
  intro e h
  unfold QI at h
  refine Z7 J 8 h (fun h=>wa J 9 (Z2 [] (j1 () h))) fun h=>?_
  refine Z7 J 7 h (fun h=>wa J 2 (Z2 [] (j1 () h))) fun h=>?_
  refine wO J 9 h fun f g h=>Yc J WE g ?_
  refine wO J 4 h fun i j h=>Yc J YR j ?_
  refine wO J 1 h fun k l h=>Z6 (ZkY N f.Zv i _ l) [] [] (wa J 1 (Yl ?_))
  exact eB h (fun h=>oi h▸wr J 5 func70 []) fun h=>wa J 8 (Z2 [] (ih3 (Z1 (e+1)) h))
 exact Z2 [] (ih N 0 h)
theorem Zge (N:Nat) (c:T0) (d:(List T12)) (e:(List T12)) (r:(List T12)) (h:z72 N c d e=some r) :
 Fn Tryz.prog 72 ⟨5,[.a (Y5 0 1 2 c),.S 3,.S 4],(Y3 0 1 2 c [(3,.sl Ym d),(4,.sl Ym e)]),[],6,.S 5,[],[(5,.own Ym r true)]⟩:=by
 refine Ya func72 rfl (fun E F w=>?_)
 unfold z72 at h
 refine wa J 7 (YS J [] YR ([]:List T12) ?_)
 refine wO J 1 h fun f g h=>Xc J Ym g (wa J 7 (Yf (σ:=(List T12)) (fun st=>⟨[(7,.S 7)],[(7,.own Ym st true)],(Y3 0 1 2 c [(3,.sl Ym d),(4,.sl Ym e)]),8⟩) (fun st=>Zgf st=some r) ?_ (fun j1=>?_)))
 ·intro i h
  unfold Zgf at h
  exact oi h▸wr J 5 func72 [(5,.sl 7)]
 refine wa J 1 (Yn (σ:=(List T12) × Int) (fun st=>⟨[(1,.S 3),(3,.B 5 0),(7,.S 7),(8,.I st.2)],[(5,.box (Y5 0 1 2 c) 59),(7,.own Ym st.1 true)],(Y3 0 1 2 c [(3,.sl Ym d),(4,.sl Ym e)]),8⟩) (fun n st=>Mi c d n st.1 st.2) (r:=r) (fun _=>rfl) ?_ (fun ih=>?_))
 ·intro n2 ih3
  rintro ⟨j,k⟩ h
  unfold Mi at h
  refine Z7 J 8 h (fun h=>wa J 2 (Z2 [] (j1 j h))) fun h=>?_
  refine wO J 12 h fun l m h=>Yc J YR m ?_
  exact wO J 1 h fun o p h=>YB J Ym p (XS J [] YR l p (Yl (wa J 6 (Z2 [] (ih3 ((YA j (Z1 (c.ZA+k)) l),(Z1 (k+1))) h)))))
 exact Z2 [] (ih N (f,0) h)
theorem ZlD (N:Nat) (c:T6) (d:(List T12)) (r:Bool) (h:Hh N c d=some r) :
 Fn Tryz.prog 71 ⟨3,[.a [.sl 0,.sl 1],.S 2],[(0,.sl Xe c.Zw),(1,.sl (rP (rI .i64) (rI .i64)) c.Zy),(2,.sl Ym d)],[],3,.O r,[],[]⟩:=by
 refine Ya func71 rfl (fun E F w=>?_)
 unfold Hh at h
 refine wa J 10 (Yf (σ:=Unit) (fun st=>(QR c.Zw c.Zy d [(1,.S 2),(2,.B 3 0)])) (fun st=>Zcf N c d=some r) ?_ (fun j1=>?_))
 ·intro _ h
  unfold Zcf at h
  refine wa J 5 (Yf (σ:=Unit) (fun st=>(Zcw c.Zw c.Zy d [])) (fun st=>Zgd=some r) ?_ (fun j9=>?_))
  ·intro _ h
   unfold Zgd at h
   exact oi h▸wr J 4 func71 []
  refine wa J 1 (Yn (σ:=Int) (fun st=>(QR c.Zw c.Zy d [(1,.S 2),(2,.B 3 0),(9,.I st)])) (fun n st=>QJ c d n st) (r:=r) (fun _=>rfl) ?_ (fun ih=>?_))
  ·intro n3 ih11
   intro e h
   unfold QJ at h
   refine Z7 J 9 h (fun h=>wa J 2 (Z2 [] (j9 () h))) fun h=>?_
   refine wO J 10 h fun f g h=>Yc J (oP (oI .i64) (oI .i64)) g (Up 0 rfl ?_)
   refine wO J 1 h fun i j h=>Yc J YR j ?_
   refine wO J 5 h fun k l h=>Yc J (oP (oI .i64) (oI .i64)) l (Up 1 rfl ?_)
   refine wO J 1 h fun m o h=>Yc J YR o (wa J 5 (Yl ?_))
   refine wB J 6 h (fun h=>oi h▸wr J 17 func71 []) fun h=>?_
   refine wB J 5 h (fun h=>oi h▸wr J 12 func71 []) fun h=>?_
   exact wB J 7 h (fun h=>oi h▸wr J 5 func71 []) fun h=>wa J 8 (Z2 [] (ih11 (Z1 (e+1)) h))
  exact Z2 [] (ih N 0 h)
 refine wa J 1 (Yn (σ:=Int) (fun st=>(QR c.Zw c.Zy d [(1,.S 2),(2,.B 3 0),(5,.I st)])) (fun n st=>Sd N c d n st) (r:=r) (fun _=>rfl) ?_ (fun ih=>?_))
 ·intro n4 ih12
  intro p h
  unfold Sd at h
  refine Z7 J 9 h (fun h=>wa J 2 (Z2 [] (j1 () h))) fun h=>?_
  refine wO J 9 h fun q s h=>Yc J Uv s (wa J 16 (Yf (σ:=Int) (fun st=>(ZlX q c.Zw c.Zy d [(1,.S 2),(2,.B 3 0),(5,.I p),(6,.B 5 0),(7,.I st),(8,.I 0)])) (fun st=>Hk N d p (Sd N c d n4) q st=some r) ?_ (fun j17=>?_)))
  ·intro t h
   unfold Hk at h
   refine wa J 7 (Yf (σ:=Int) (fun st=>(ZlX q c.Zw c.Zy d [(1,.S 2),(2,.B 3 0),(5,.I p),(6,.B 5 0),(7,.I t),(8,.I st)])) (fun st=>Hj d p (Sd N c d n4) q t st=some r) ?_ (fun j18=>?_))
   ·intro u h
    unfold Hj at h
    refine Z7 J 6 h (fun h=>?_) fun h=>?_
    ·refine Z7 J 13 h (fun h=>?_) fun h=>?_
     ·exact wB J 18 h (fun h=>oi h▸wr J 5 func71 []) fun h=>wa J 8 (Z2 [] (ih12 (Z1 (p+1)) h))
     refine wO J 3 h fun v x h=>Yc J YR x ?_
     refine wB J 6 h (fun h=>oi h▸wr J 13 func71 []) fun h=>?_
     exact wB J 8 h (fun h=>oi h▸wr J 5 func71 []) fun h=>wa J 8 (Z2 [] (ih12 (Z1 (p+1)) h))
    refine wO J 3 h fun y z h=>Yc J YR z ?_
    refine wB J 5 h (fun h=>oi h▸wr J 27 func71 []) fun h=>?_
    refine Z7 J 4 h (fun h=>?_) fun h=>?_
    ·exact wB J 18 h (fun h=>oi h▸wr J 5 func71 []) fun h=>wa J 8 (Z2 [] (ih12 (Z1 (p+1)) h))
    refine wO J 3 h fun A C h=>Yc J YR C ?_
    refine wB J 6 h (fun h=>oi h▸wr J 13 func71 []) fun h=>?_
    exact wB J 8 h (fun h=>oi h▸wr J 5 func71 []) fun h=>wa J 8 (Z2 [] (ih12 (Z1 (p+1)) h))
   refine Ub h (fun h=>wa J 2 (Z2 [] (j18 0 h))) fun h=>?_
   refine wO J 5 h fun D G h=>Yc J YR G ?_
   exact wO J 1 h fun H R h=>Z6 (DX N D _ R) [] [] (wa J 2 (Z2 [] (j18 H h)))
  refine Ub h (fun h=>wa J 2 (Z2 [] (j17 0 h))) fun h=>?_
  refine wO J 5 h fun T U h=>Yc J YR U ?_
  exact wO J 1 h fun X Y h=>Z6 (DX N T _ Y) [] [] (wa J 2 (Z2 [] (j17 X h)))
 exact Z2 [] (ih N 0 h)
theorem Zls (N:Nat) (c:(List T0)) (d:Int) (e:(List T12)) (f:(List T12)) (r:Bool) (h:z31 N c d e f=some r) :
 Fn Tryz.prog 31 ⟨3,[.S 0,.I d,.S 1,.S 2],[(0,.sl Ys c),(1,.sl Ym e),(2,.sl Ym f)],[],3,.O r,[],[]⟩:=by
 refine Ya func31 rfl (fun E F w=>?_)
 unfold z31 at h
 refine wO J 9 h fun g i h=>Z6 (Zce N c d _ i) [] [(0,.sl 0)] ?_
 refine wB J 2 h (fun h=>oi h▸wr J 20 func31 []) fun h=>?_
 refine wO J 2 h fun j k h=>Z6 (Zcb N c f _ k) [] [(0,.sl 0),(1,.sl 2)] ?_
 refine wB J 3 h (fun h=>oi h▸wr J 14 func31 []) fun h=>?_
 refine wO J 2 h fun l m h=>Yc J Xu m ?_
 refine wO J 2 h fun o p h=>Z6 (ZlC N l e _ p) [] [(0,.sl 4),(1,.sl 5),(2,.sl 6),(3,.sl 1)] ?_
 refine wB J 3 h (fun h=>oi h▸wr J 5 func31 []) fun h=>?_
 refine wO J 6 h fun q s h=>Yc J Xu s ?_
 refine wO J 4 h fun t u h=>Yc J Xu u ?_
 refine wO J 3 h fun v x h=>Z6 (Zge N t e f _ x) [] [(0,.sl 12),(1,.sl 13),(2,.sl 14),(3,.sl 1),(4,.sl 2)] ?_
 have ⟨y,z,h⟩:=ob h
 refine X2 (ZlD N q.ZB v _ z) [] [(0,.sl 9),(1,.sl 10),(2,.sl 15)] [15] (.inr ⟨rfl,trivial⟩) (wa J 1 (Yl ?_))
 cases h
 exact YW J func31 []
theorem Zvg (N:Nat) (c:(List T0)) (d:Int) (e:(List T12)) (f:(List T12)) (r:(List T12) × Int) (h:DP N c d e f=some r) :
 Fn Tryz.prog 49 ⟨3,[.S 0,.I d,.S 1,.S 2],[(0,.sl Ys c),(1,.sl Ym e),(2,.sl Ym f)],[],4,.t [.inl (.sl 3),.inl (.I r.2)],[],[(3,.own Ym r.1 true)]⟩:=by
 refine Ya func49 rfl (fun E F w=>?_)
 unfold DP at h
 refine wO J 11 h fun g i h=>Z6 (Zce N c d _ i) [] [(0,.sl 0)] ?_
 refine wB J 2 h (fun h=>oi h▸wr J 13 func49 [(3,.nil)]) fun h=>?_
 refine wO J 2 h fun j k h=>Z6 (Zcb N c f _ k) [] [(0,.sl 0),(1,.sl 2)] ?_
 refine wB J 4 h (fun h=>oi h▸wr J 6 func49 [(3,.nil)]) fun h=>?_
 refine wO J 5 h fun l m h=>Yc J Xu m ?_
 refine wO J 2 h fun o p h=>Z6 (ZlC N l e _ p) [] [(0,.sl 4),(1,.sl 5),(2,.sl 6),(3,.sl 1)] ?_
 refine wB J 3 h (fun h=>oi h▸wr J 6 func49 [(3,.nil)]) fun h=>?_
 refine wO J 7 h fun q s h=>Yc J Xu s ?_
 refine wO J 3 h fun u v h=>Z6 (Zge N q e f _ v) [] [(0,.sl 8),(1,.sl 9),(2,.sl 10),(3,.sl 1),(4,.sl 2)] ?_
 exact oi h▸wr J 3 func49 [(3,.sl 11)]
theorem ZuN (N:Nat) (c:T5) (d:T8) (e:Yt) (f:T3) (r:Yt × Int) (h:z22 N c d e f=some r) :
 Fn Tryz.prog 22 ⟨10,[.a (YH 0 1 2 3 c),.a (YM 4 5 6 d),.a (X8 7 8 e),.a (W6 9 f)],((0,.sl rS c.ZI)::(1,.sl Ys c.ZJ)::(2,.sl Xb c.ZO)::(3,.sl YN c.ZP)::(4,.sl rB d.ZT)::(5,.sl Wh d.ZU)::(6,.sl YN d.ZP)::Wm 7 8 e [(9,.sl Ym f.ZV)]),[],12,.t [.inr (X8 10 11 r.1),.inl (.I r.2)],(Wm 10 11 r.1 []),[]⟩:=by
 refine Ya func22 rfl (fun E F w=>?_)
 unfold z22 at h
 refine wO J 15 h fun g i h=>Z6 (Zlr N c d e _ i) [] [(0,.sl 0),(1,.sl 1),(2,.sl 2),(3,.sl 3),(4,.sl 4),(5,.sl 5),(6,.sl 6),(7,.sl 7),(8,.sl 8)] ?_
 refine wB J 2 h (fun h=>oi h▸wr J 7 func22 [(10,.nil),(11,.nil)]) fun h=>?_
 refine wO J 8 h fun j k h=>Z6 (Zve N d e.At f _ k) [] [(0,.sl 4),(1,.sl 5),(2,.sl 6),(3,.sl 9)] ?_
 refine wB J 13 h (fun h=>oi h▸wr J 7 func22 [(10,.nil),(11,.nil)]) fun h=>?_
 refine wB J 7 h (fun h=>oi h▸wr J 7 func22 [(10,.nil),(11,.nil)]) fun h=>?_
 refine wO J 7 h fun l m h=>Yc J Xu m ?_
 refine wO J 3 h fun o p h=>Z6 (Zvf N l f.ZV _ p) [] [(0,.sl 16),(1,.sl 17),(2,.sl 18),(3,.sl 9)] (wa J 2 (Yl ?_))
 refine eB h (fun h=>oi h▸wr J 7 func22 [(10,.nil),(11,.nil)]) fun h=>?_
 refine wO J 11 h fun q s h=>Z6 (Zls N c.ZJ f.ZD f.ZV e.ZW _ s) [] [(0,.sl 1),(1,.sl 9),(2,.sl 7)] ?_
 refine wa J 2 (Yf (σ:=Bool) (fun st=>⟨[(4,.B 10 0),(5,.B 11 0),(6,.B 12 0),(7,.B 13 0),(8,.B 14 0),(10,.I j),(46,.O st)],[(10,.box (YH 0 1 2 3 c) 27),(11,.box (YM 4 5 6 d) 31),(12,.box (X8 7 8 e) 37),(13,.box (W6 9 f) 48),(14,.box [.I 0,.nil,.nil] 37)],((0,.sl rS c.ZI)::(1,.sl Ys c.ZJ)::(2,.sl Xb c.ZO)::(3,.sl YN c.ZP)::(4,.sl rB d.ZT)::(5,.sl Wh d.ZU)::(6,.sl YN d.ZP)::Wm 7 8 e [(9,.sl Ym f.ZV)]),19⟩) (fun st=>SP N c d e f j st=some r) ?_ (fun j1=>?_))
 ·intro u h
  unfold SP at h
  refine eB h (fun h=>oi h▸wr J 7 func22 [(10,.nil),(11,.nil)]) fun h=>?_
  refine wO J 8 h fun v x h=>Yc J XM x ?_
  refine wO J 16 h fun y z h=>Z6 (Zvg N c.ZJ f.ZD f.ZV e.ZW _ z) [] [(0,.sl 1),(1,.sl 9),(2,.sl 7)] ?_
  refine Z7 J 12 h (fun h=>wa J 8 (Uq [21] ?_)) fun h=>wa J 2 (YS J [] YR ([]:List T12) ?_)
  ·cases h
   exact YW J func22 [(10,.sl 21),(11,.nil)]
  refine wO J 2 h fun A C h=>Xc J Ym C (wa J 9 (Uq [21] (Uq [23] ?_)))
  cases h
  exact YW J func22 [(10,.sl 21),(11,.sl 23)]
 refine eB h (fun h=>wa J 17 (Z2 [] (j1 true h))) fun h=>?_
 refine wO J 3 h fun D G h=>Yc J XM G ?_
 refine Z7 J 3 h (fun h=>wa J 10 (Z2 [] (j1 false h))) fun h=>?_
 exact wO J 4 h fun H R h=>Z6 (Zk8 N f.ZV e.ZX _ R) [] [(0,.sl 9),(1,.sl 8)] (wa J 5 (Z2 [] (j1 (!H) h)))
theorem Zvu (N:Nat) (c:T5) (d:T8) (e:(List T3)) (r:Yt × Int × Int) (h:z6 N c d e=some r) :
 Fn Tryz.prog 6 ⟨8,[.a (YH 0 1 2 3 c),.a (YM 4 5 6 d),.S 7],((0,.sl rS c.ZI)::(1,.sl Ys c.ZJ)::(2,.sl Xb c.ZO)::(3,.sl YN c.ZP)::YP 4 5 6 d [(7,.sl Xf e)]),[],10,.t [.inr (X8 8 9 r.1),.inl (.I r.2.1),.inl (.I r.2.2)],(Wm 8 9 r.1 []),[]⟩:=by
 refine Ya func6 rfl (fun E F w=>?_)
 unfold z6 at h
 refine wO J 12 h fun f g h=>Z6 (Zuu N c d _ g) [] [(0,.sl 0),(1,.sl 1),(2,.sl 2),(3,.sl 3),(4,.sl 4),(5,.sl 5),(6,.sl 6)] ?_
 refine wO J 8 h fun i j h=>Z6 (ZfD N c d _ j) [] [(0,.sl 0),(1,.sl 1),(2,.sl 2),(3,.sl 3),(4,.sl 4),(5,.sl 5),(6,.sl 6)] ?_
 refine wB J 2 h (fun h=>oi h▸wr J 8 func6 [(8,.nil),(9,.nil)]) fun h=>wa J 7 (Yf (σ:=Int × (List T12) × (List T12)) (fun st=>⟨[(2,.S 7),(6,.B 10 0),(9,.B 13 0)],[(10,.box [.I 0,.nil,.nil] 37),(13,.box [.I st.1,.sl 14,.sl 15] 37)],((0,.sl rS c.ZI)::(1,.sl Ys c.ZJ)::(2,.sl Xb c.ZO)::(3,.sl YN c.ZP)::YP 4 5 6 d [(7,.sl Xf e),(14,.sl Ym st.2.1),(15,.sl Ym st.2.2)]),16⟩) (fun st=>Zgc e st.1 st.2.1 st.2.2=some r) ?_ (fun j1=>?_))
 ·rintro ⟨k,l,m⟩ h
  unfold Zgc at h
  exact oi h▸wr J 9 func6 [(8,.sl 14),(9,.sl 15)]
 refine wa J 1 (Yn (σ:=Int × (List T12) × (List T12) × Int) (fun st=>⟨[(2,.S 7),(3,.B 8 0),(4,.B 9 0),(6,.B 10 0),(9,.B 13 0),(10,.I st.2.2.2)],[(8,.box (YH 0 1 2 3 c) 27),(9,.box (YM 4 5 6 d) 31),(10,.box [.I 0,.nil,.nil] 37),(13,.box [.I st.1,.sl 14,.sl 15] 37)],((0,.sl rS c.ZI)::(1,.sl Ys c.ZJ)::(2,.sl Xb c.ZO)::(3,.sl YN c.ZP)::YP 4 5 6 d [(7,.sl Xf e),(14,.sl Ym st.2.1),(15,.sl Ym st.2.2.1)]),16⟩) (fun n st=>Mh N c d e n st.1 st.2.1 st.2.2.1 st.2.2.2) (r:=r) (fun _=>rfl) ?_ (fun ih=>?_))
 ·intro n2 ih3
  rintro ⟨o,p,q,s⟩ h
  unfold Mh at h
  refine Z7 J 8 h (fun h=>wa J 2 (Z2 [] (j1 (o,p,q) h))) fun h=>?_
  refine wO J 11 h fun u v h=>Yc J Uw v ?_
  refine wO J 1 h fun x y h=>Z6 (ZuN N c d (⟨o,p,q⟩:Yt) u _ y) [] [(0,.sl 0),(1,.sl 1),(2,.sl 2),(3,.sl 3),(4,.sl 4),(5,.sl 5),(6,.sl 6),(7,.sl 14),(8,.sl 15),(9,.sl 17)] (wa J 6 (Yl ?_))
  exact wB J 6 h (fun h=>oi h▸wr J 10 func6 [(8,.sl 14),(9,.sl 15)]) fun h=>wa J 12 (Z2 [(14,.sl 18),(15,.sl 19)] (ih3 (x.1.At,x.1.ZW,x.1.ZX,(Z1 (s+1))) h))
 exact Z2 [(14,.sl 11),(15,.sl 12)] (ih N (f.At,f.ZW,f.ZX,0) h)
theorem Zvs (N:Nat) (c:T8) (d:Int) (r:Bool) (h:z67 N c d=some r) :
 Fn Tryz.prog 67 ⟨3,[.a (YM 0 1 2 c),.I d],(YP 0 1 2 c []),[],3,.O r,[],[]⟩:=by
 refine Ya func67 rfl (fun E F w=>?_)
 unfold z67 at h
 refine wO J 8 h fun e f h=>Z6 (Zly N c _ f) [] [(0,.sl 0),(1,.sl 1),(2,.sl 2)] ?_
 refine Z7 J 1 h (fun h=>oi h▸wr J 11 func67 []) fun h=>?_
 exact wB J 4 h (fun h=>oi h▸wr J 7 func67 []) fun h=>oi h▸wr J 7 func67 []
theorem ZtD (N:Nat) (c:T9) (d:T9) (r:Bool) (h:GN N c d=some r) :
 Fn Tryz.prog 134 ⟨0,[.a (TG c),.a (TG d)],[],[],0,.O r,[],[]⟩:=by
 refine Ya func134 rfl (fun E F w=>?_)
 unfold GN at h
 refine wB J 15 h (fun h=>oi h▸wr J 7 func134 []) fun h=>?_
 exact wB J 11 h (fun h=>oi h▸wr J 10 func134 []) fun h=>oi h▸wr J 11 func134 []
theorem Zvt (N:Nat) (c:T8) (d:Int) (r:(List Int)) (h:z68 N c d=some r) :
 Fn Tryz.prog 68 ⟨3,[.a (YM 0 1 2 c),.I d],(YP 0 1 2 c []),[],4,.S 3,[],[(3,.own (rI .i64) r true)]⟩:=by
 refine Ya func68 rfl (fun E F w=>?_)
 unfold z68 at h
 refine wa J 14 (Yf (σ:=(List Int)) (fun st=>⟨[(5,.S 4)],[(4,.own (rI .i64) st true)],(YP 0 1 2 c []),5⟩) (fun st=>Zgb st=some r) ?_ (fun j1=>?_))
 ·intro e h
  unfold Zgb at h
  exact oi h▸wr J 5 func68 [(3,.sl 4)]
 refine wa J 1 (Yn (σ:=(List Int) × Int) (fun st=>⟨[(1,.I d),(2,.B 3 0),(5,.S 4),(6,.I st.2)],[(3,.box (YM 0 1 2 c) 31),(4,.own (rI .i64) st.1 true)],(YP 0 1 2 c []),5⟩) (fun n st=>Sc N c d n st.1 st.2) (r:=r) (fun _=>rfl) ?_ (fun ih=>?_))
 ·intro n12 ih12
  rintro ⟨f,g⟩ h
  unfold Sc at h
  refine Z7 J 9 h (fun h=>wa J 2 (Z2 [] (j1 f h))) fun h=>?_
  refine wO J 10 h fun i j h=>Yc J XM j ?_
  refine wB J 5 h (fun h=>wa J 7 (Z2 [] (ih12 (f,(Z1 (g+1))) h))) fun h=>wa J 7 (Yf (σ:=Int) (fun st=>⟨[(1,.I d),(2,.B 3 0),(5,.S 4),(6,.I g),(7,.I st)],[(3,.box (YM 0 1 2 c) 31),(4,.own (rI .i64) f true)],(YP 0 1 2 c []),6⟩) (fun st=>Hf f g (Sc N c d n12) st=some r) ?_ (fun j19=>?_))
  ·intro k h
   unfold Hf at h
   refine wa J 1 (YS J [] (oI .i64) ([]:List Int) ?_)
   refine wO J 2 h fun l m h=>TK J (rI .i64) m ?_
   have ⟨o,p,h⟩:=ob h
   refine eAv J (rI .i64) m p (wa J 1 (YS J [] (oI .i64) ([g]:List Int) ?_))
   have ⟨q,s,h⟩:=ob h
   refine Xc J (rI .i64) s ?_
   refine wO J 2 h fun t u h=>TK J (rI .i64) u ?_
   have ⟨v,x,h⟩:=ob h
   exact eAv J (rI .i64) u x (wa J 1 (Yl (wa J 6 (Z2 [(4,.sl 12)] (ih12 (v,(Z1 (g+1))) h)))))
  refine wa J 1 (Yn (σ:=Int) (fun st=>⟨[(1,.I d),(2,.B 3 0),(5,.S 4),(6,.I g),(7,.I st)],[(3,.box (YM 0 1 2 c) 31),(4,.own (rI .i64) f true)],(YP 0 1 2 c []),6⟩) (fun n st=>QH N c f g (Sc N c d n12) n st) (r:=r) (fun _=>rfl) ?_ (fun ih=>?_))
  ·intro n14 ih21
   intro y h
   unfold QH at h
   refine Z7 J 8 h (fun h=>wa J 16 (Yl (wa J 2 (Z2 [] (j19 y h))))) fun h=>?_
   refine wO J 3 h fun z A h=>Yc J XM A ?_
   refine wO J 5 h fun C D h=>YB J (rI .i64) D (Y1 J (oI .i64) D ?_)
   have ⟨G,H,h⟩:=ob h
   refine Yc J XM H ?_
   refine wO J 1 h fun R T h=>Z6 (ZtD N z G _ T) [] [] (wa J 2 (Yl ?_))
   exact eB h (fun h=>wa J 9 (Z2 [] (ih21 (Z1 (y+1)) h))) fun h=>wa J 2 (Z2 [] (j19 y h))
  exact Z2 [] (ih N 0 h)
 exact Z2 [(4,.nil)] (ih N (([]:List Int),0) h)
theorem Zu5 (N:Nat) (c:T8) (d:Int) (r:(List Int)) (h:DL N c d=some r) :
 Fn Tryz.prog 30 ⟨3,[.a (YM 0 1 2 c),.I d],(YP 0 1 2 c []),[],4,.S 3,[],[(3,.own (rI .i64) r true)]⟩:=by
 refine Ya func30 rfl (fun E F w=>?_)
 unfold DL at h
 refine wO J 10 h fun e f h=>Z6 (Zvs N c d _ f) [] [(0,.sl 0),(1,.sl 1),(2,.sl 2)] ?_
 refine wB J 2 h (fun h=>oi h▸wr J 5 func30 [(3,.nil)]) fun h=>?_
 refine wO J 6 h fun g i h=>Z6 (Zvt N c d _ i) [] [(0,.sl 0),(1,.sl 1),(2,.sl 2)] ?_
 exact oi h▸wr J 2 func30 [(3,.sl 4)]
theorem Zvv (N:Nat) (c:(List T0)) (d:Int) (r:(List T1) × Int) (h:z73 N c d=some r) :
 Fn Tryz.prog 73 ⟨1,[.S 0,.I d],[(0,.sl Ys c)],[],2,.t [.inl (.sl 1),.inl (.I r.2)],[],[(1,.own Xe r.1 true)]⟩:=by
 refine Ya func73 rfl (fun E F w=>?_)
 unfold z73 at h
 refine wO J 10 h fun e f h=>Z6 (Zce N c d _ f) [] [(0,.sl 0)] ?_
 refine wB J 2 h (fun h=>oi h▸wr J 6 func73 [(1,.nil)]) fun h=>?_
 refine wO J 10 h fun g i h=>Yc J Xu i (wa J 9 (Yf (σ:=(List T1)) (fun st=>(ZlY g st c [(6,.S 6),(7,.B 5 0)])) (fun st=>DV N g st=some r) ?_ (fun j1=>?_)))
 ·intro j h
  unfold DV at h
  refine wO J 6 h fun k l h=>Xc J Xe l (wa J 7 (Yf (σ:=(List T1)) (fun st=>⟨[(6,.S 8)],[(8,.own Xe st true)],[(0,.sl Ys c)],9⟩) (fun st=>Zch st=some r) ?_ (fun j3=>?_)))
  ·intro m h
   unfold Zch at h
   exact oi h▸wr J 6 func73 [(1,.sl 8)]
  refine wa J 1 (Yn (σ:=(List T1) × Int) (fun st=>⟨[(6,.S 8),(7,.B 5 0),(10,.I st.2)],[(5,.box (Y5 2 3 4 g) 59),(8,.own Xe st.1 true)],((0,.sl Ys c)::Y3 2 3 4 g []),9⟩) (fun n st=>Mj g n st.1 st.2) (r:=r) (fun _=>rfl) ?_ (fun ih=>?_))
  ·intro n3 ih5
   rintro ⟨o,p⟩ h
   unfold Mj at h
   refine Z7 J 10 h (fun h=>wa J 2 (Z2 [] (j3 o h))) fun h=>?_
   refine wO J 10 h fun q s h=>Yc J (oP (oI .i64) (oI .i64)) s (Up 0 rfl ?_)
   refine wO J 5 h fun u v h=>Yc J (oP (oI .i64) (oI .i64)) v (Up 1 rfl (wa J 3 (Yl (wa J 8 (YS J [] Uv ([(⟨q.1,u.2,0⟩:T1),(⟨u.2,q.1,0⟩:T1)]:List T1) ?_)))))
   have ⟨x,y,h⟩:=ob h
   exact Xc J Xe y (wa J 8 (Z2 [(8,.sl 12)] (ih5 (x,(Z1 (p+1))) h)))
  exact Z2 [(8,.sl 7)] (ih N (k,0) h)
 refine wa J 1 (Yn (σ:=(List T1) × Int) (fun st=>(ZlY g st.1 c [(6,.S 6),(7,.B 5 0),(8,.I st.2)])) (fun n st=>QK N g n st.1 st.2) (r:=r) (fun _=>rfl) ?_ (fun ih=>?_))
 ·intro n4 ih6
  rintro ⟨z,A⟩ h
  unfold QK at h
  refine Z7 J 9 h (fun h=>wa J 2 (Z2 [] (j1 z h))) fun h=>?_
  refine wO J 18 h fun C D h=>Yc J WE D ?_
  refine wO J 8 h fun G H h=>Yc J WE H (wa J 5 (YS J [] Uv ([(⟨(Z1 (g.ZA+A)),(-1),C.Zv.Hi⟩:T1),(⟨(-1),(Z1 (g.ZA+A)),(Z1 (0-G.Zv.Lo))⟩:T1)]:List T1) ?_))
  have ⟨R,T,h⟩:=ob h
  exact Xc J Xe T (wa J 1 (Yl (wa J 6 (Z2 [(6,.sl 10)] (ih6 (R,(Z1 (A+1))) h)))))
 exact Z2 [(6,.nil)] (ih N (([]:List T1),0) h)
theorem Hm (N:Nat) (c:T0) (d:Int) (r:Bool) (h:S4 N c d=some r) :
 Fn Tryz.prog 79 ⟨3,[.a (Y5 0 1 2 c),.I d],(Y3 0 1 2 c []),[],3,.O r,[],[]⟩:=by
 refine Ya func79 rfl (fun E F w=>?_)
 unfold S4 at h
 exact wB J 12 h (fun h=>oi h▸wr J 11 func79 []) fun h=>oi h▸wr J 11 func79 []
theorem ZlE (N:Nat) (c:T0) (d:(List T12)) (e:Int) (r:Bool) (h:Hl N c d e=some r) :
 Fn Tryz.prog 74 ⟨4,[.a (Y5 0 1 2 c),.S 3,.I e],(Y3 0 1 2 c [(3,.sl Ym d)]),[],4,.O r,[],[]⟩:=by
 refine Ya func74 rfl (fun E F w=>?_)
 unfold Hl at h
 refine Z7 J 10 h (fun h=>oi h▸wr J 15 func74 []) fun h=>?_
 refine wO J 2 h fun f g h=>Z6 (Hm N c e _ g) [] [(0,.sl 0),(1,.sl 1),(2,.sl 2)] ?_
 refine Z7 J 3 h (fun h=>oi h▸wr J 9 func74 []) fun h=>?_
 refine wO J 2 h fun i j h=>Yc J YR j ?_
 exact oi h▸wr J 6 func74 []
theorem Zvw (N:Nat) (d:T0) (e:(List T12)) (r:(List ByteArray) × (List Bool) × Bool) (h:z75 N d e=some r) :
 Fn Tryz.prog 75 ⟨4,[.a (Y5 0 1 2 d),.S 3],(Y3 0 1 2 d [(3,.sl Ym e)]),[],6,.t [.inl (.sl 4),.inl (.sl 5),.inl (.b r.2.2)],[],[(4,.own rS r.1 true),(5,.own rB r.2.1 true)]⟩:=by
 refine Ya func75 rfl (fun E F w=>?_)
 unfold z75 at h
 refine wO J 12 h fun f g h=>Ur J oS g ?_
 refine wO J 3 h fun i j h=>Ur J oB j (wa J 2 (Yl (wa J 5 (Yf (σ:=(List ByteArray) × (List Bool)) (fun st=>⟨[(7,.S 5),(8,.S 6)],[(5,.own rS st.1 true),(6,.own rB st.2 true)],(Y3 0 1 2 d [(3,.sl Ym e)]),7⟩) (fun st=>Zgg st.1 st.2=some r) ?_ (fun j1=>?_)))))
 ·rintro ⟨k,l⟩ h
  unfold Zgg at h
  exact oi h▸wr J 8 func75 [(4,.sl 5),(5,.sl 6)]
 refine wa J 1 (Yn (σ:=(List ByteArray) × (List Bool) × Int) (fun st=>(D6 d st.1 st.2.1 e [(1,.S 3),(2,.B 4 0),(7,.S 5),(8,.S 6),(9,.I st.2.2)])) (fun n st=>VA N d e n st.1 st.2.1 st.2.2) (r:=r) (fun _=>rfl) ?_ (fun ih=>?_))
 ·intro n72 ih390
  rintro ⟨m,o,p⟩ h
  unfold VA at h
  refine Z7 J 9 h (fun h=>wa J 2 (Z2 [] (j1 (m,o) h))) fun h=>wa J 8 (Yf (σ:=(List ByteArray) × (List Bool)) (fun st=>(D6 d st.1 st.2 e [(1,.S 3),(2,.B 4 0),(7,.S 5),(8,.S 6),(9,.I p)])) (fun st=>Zgh p (VA N d e n72) st.1 st.2=some r) ?_ (fun j649=>?_))
  ·rintro ⟨q,u⟩ h
   unfold Zgh at h
   exact wa J 6 (Z2 [] (ih390 (q,u,(Z1 (p+1))) h))
  refine wa J 1 (Yn (σ:=(List ByteArray) × (List Bool) × Int) (fun st=>(D6 d st.1 st.2.1 e [(1,.S 3),(2,.B 4 0),(7,.S 5),(8,.S 6),(9,.I p),(10,.I st.2.2)])) (fun n st=>Ul N d e p (VA N d e n72) n st.1 st.2.1 st.2.2) (r:=r) (fun _=>rfl) ?_ (fun ih=>?_))
  ·intro n84 ih714
   rintro ⟨v,x,y⟩ h
   unfold Ul at h
   refine Z7 J 10 h (fun h=>wa J 2 (Z2 [] (j649 (v,x) h))) fun h=>wa J 8 (Yf (σ:=(List ByteArray) × (List Bool)) (fun st=>(D6 d st.1 st.2 e [(1,.S 3),(2,.B 4 0),(7,.S 5),(8,.S 6),(9,.I p),(10,.I y)])) (fun st=>Zci y (Ul N d e p (VA N d e n72) n84) st.1 st.2=some r) ?_ (fun j757=>?_))
   ·rintro ⟨z,A⟩ h
    unfold Zci at h
    exact wa J 6 (Z2 [] (ih714 (z,A,(Z1 (y+1))) h))
   refine wa J 1 (Yn (σ:=(List ByteArray) × (List Bool) × Int) (fun st=>(D6 d st.1 st.2.1 e [(1,.S 3),(2,.B 4 0),(7,.S 5),(8,.S 6),(9,.I p),(10,.I y),(11,.I st.2.2)])) (fun n st=>VO N d e y (Ul N d e p (VA N d e n72) n84) n st.1 st.2.1 st.2.2) (r:=r) (fun _=>rfl) ?_ (fun ih=>?_))
   ·intro n86 ih768
    rintro ⟨C,D,G⟩ h
    unfold VO at h
    refine Z7 J 6 h (fun h=>wa J 2 (Z2 [] (j757 (C,D) h))) fun h=>?_
    refine wO J 11 h fun H R h=>Yc J (oP (oI .i64) (oI .i64)) R ?_
    refine Yf (σ:=Int × Int) (fun st=>(Zgz d C D e [(1,.S 3),(2,.B 4 0),(7,.S 5),(8,.S 6),(9,.I p),(10,.I y),(11,.I G),(12,.I st.1),(13,.I st.2)])) (fun st=>RH N d e C D G (VO N d e y (Ul N d e p (VA N d e n72) n84) n86) st.1 st.2=some r) ?_ (fun j775=>?_)
    ·rintro ⟨T,U⟩ h
     unfold RH at h
     refine wO J 5 h fun X Y h=>Z6 (Hm N d T _ Y) [] [(0,.sl 0),(1,.sl 1),(2,.sl 2)] ?_
     refine wB J 2 h (fun h=>wa J 7 (Z2 [] (ih768 (C,D,(Z1 (G+1))) h))) fun h=>?_
     refine wO J 12 h fun Z a0 h=>Z6 (Hm N d U _ a0) [] [(0,.sl 0),(1,.sl 1),(2,.sl 2)] (wa J 1 (Yf (σ:=ByteArray × Bool) (fun st=>(Zgz d C D e [(1,.S 3),(2,.B 4 0),(7,.S 5),(8,.S 6),(9,.I p),(10,.I y),(11,.I G),(12,.I T),(14,.c (.s st.1)),(15,.O st.2)])) (fun st=>QL d C D G (VO N d e y (Ul N d e p (VA N d e n72) n84) n86) T st.1 st.2=some r) ?_ (fun j776=>?_)))
     ·rintro ⟨b0,c0⟩ h
      unfold QL at h
      refine wa J 5 (Yf (σ:=Bool) (fun st=>(Zgz d C D e [(1,.S 3),(2,.B 4 0),(7,.S 5),(8,.S 6),(9,.I p),(10,.I y),(11,.I G),(12,.I T),(14,.c (.s b0)),(15,.O c0),(106,.O st)])) (fun st=>S3 d C D G (VO N d e y (Ul N d e p (VA N d e n72) n84) n86) T b0 c0 st=some r) ?_ (fun j777=>?_))
      ·intro d0 h
       unfold S3 at h
       refine eB h (fun h=>oi h▸wr J 7 func75 [(4,.nil),(5,.nil)]) fun h=>?_
       refine Z7 J 6 h (fun h=>wa J 8 (Z2 [] (ih768 (C,D,(Z1 (G+1))) h))) fun h=>?_
       refine wO J 13 h fun e0 f0 h=>YB J rS f0 (XS J [] oS b0 f0 ?_)
       have ⟨g0,i0,h⟩:=ob h
       exact YB J rB i0 (XS J [] oB true i0 (Yl (wa J 6 (Z2 [] (ih768 ((YA C (Z1 (T-d.ZA)) b0),(YA D (Z1 (T-d.ZA)) true),(Z1 (G+1))) h)))))
      refine Ub h (fun h=>wa J 20 (Z2 [] (j777 false h))) fun h=>?_
      refine wO J 5 h fun j0 k0 h=>YB J rB k0 (Y1 J oB k0 ?_)
      refine Z7 J 2 h (fun h=>wa J 11 (Z2 [] (j777 false h))) fun h=>?_
      exact wO J 5 h fun l0 m0 h=>YB J rS m0 (Y1 J oS m0 (wa J 4 (Z2 [] (j777 (!(l0.toList==b0.toList)) h))))
     refine Ub h (fun h=>?_) fun h=>?_
     ·exact wO J 4 h fun o0 p0 h=>Yc J YR p0 (wa J 5 (Z2 [] (j776 (o0.S,true) h)))
     refine wO J 7 h fun q0 s0 h=>YB J rS s0 (Y1 J oS s0 ?_)
     exact wO J 5 h fun t0 u0 h=>YB J rB u0 (Y1 J oB u0 (wa J 2 (Yl (Z2 [] (j776 (q0,t0) h)))))
    obtain ⟨K,h⟩|⟨K,h⟩:=oc h
    ·refine Up 0 (by exact eq_of_beq K) ?_
     refine wO J 7 h fun v0 x0 h=>Yc J (oP (oI .i64) (oI .i64)) x0 ?_
     obtain ⟨K,h⟩|⟨K,h⟩:=oc h
     ·exact Up 0 (by exact eq_of_beq K) (wa J 3 (Yl (Z2 [] (j775 (H.1,v0.1) h))))
     obtain ⟨K,h⟩|⟨K,h⟩:=oc h
     ·exact Up 1 (by exact eq_of_beq K) (wa J 3 (Yl (Z2 [] (j775 (H.1,v0.2) h))))
     cases h
    obtain ⟨K,h⟩|⟨K,h⟩:=HU h
    ·cases h
    refine Up 1 (by exact eq_of_beq K) ?_
    refine wO J 7 h fun y0 z0 h=>Yc J (oP (oI .i64) (oI .i64)) z0 ?_
    obtain ⟨K,h⟩|⟨K,h⟩:=oc h
    ·exact Up 0 (by exact eq_of_beq K) (wa J 3 (Yl (Z2 [] (j775 (H.2,y0.1) h))))
    obtain ⟨K,h⟩|⟨K,h⟩:=oc h
    ·exact Up 1 (by exact eq_of_beq K) (wa J 3 (Yl (Z2 [] (j775 (H.2,y0.2) h))))
    cases h
   exact Z2 [] (ih N (v,x,0) h)
  exact Z2 [] (ih N (m,o,0) h)
 exact Z2 [] (ih N (f,i,0) h)
theorem Zk1 (N:Nat) (c:Int) (d:Int) (r:Int) (h:LB N c d=some r) :
 Fn Tryz.prog 136 ⟨0,[.I c,.I d],[],[],0,.I r,[],[]⟩:=by
 refine Ya func136 rfl (fun E F w=>?_)
 unfold LB at h
 refine wB J 13 h (fun h=>oi h▸wr J 5 func136 []) fun h=>?_
 refine wB J 6 h (fun h=>oi h▸wr J 10 func136 []) fun h=>?_
 exact wB J 5 h (fun h=>oi h▸wr J 5 func136 []) fun h=>oi h▸wr J 7 func136 []
theorem Zvx (N:Nat) (c:Int) (r:Yi × Int) (h:z76 N c=some r) :
 Fn Tryz.prog 76 ⟨0,[.I c],[],[],1,.t [.inr (WI 0 r.1),.inl (.I r.2)],[(0,.sl (rI .i64) r.1.B)],[]⟩:=by
 refine Ya func76 rfl (fun E F w=>?_)
 unfold z76 at h
 refine wB J 11 h (fun h=>oi h▸wr J 11 func76 [(0,.nil)]) fun h=>?_
 refine wB J 4 h (fun h=>oi h▸wr J 7 func76 [(0,.nil)]) fun h=>wa J 14 (Yf (σ:=(List Int)) (fun st=>(ZlZ c st [(2,.B 0 0),(4,.B 1 0)])) (fun st=>Zcj c st=some r) ?_ (fun j1=>?_))
 ·intro d h
  unfold Zcj at h
  refine wa J 6 (Uq [2] ?_)
  cases h
  exact YW J func76 [(0,.sl 2)]
 refine wa J 1 (Yn (σ:=(List Int) × Int) (fun st=>(ZlZ c st.1 [(0,.I c),(2,.B 0 0),(4,.B 1 0),(5,.I st.2)])) (fun n st=>Se N c n st.1 st.2) (r:=r) (fun _=>rfl) ?_ (fun ih=>?_))
 ·intro n12 ih12
  rintro ⟨e,f⟩ h
  unfold Se at h
  refine Z7 J 7 h (fun h=>wa J 2 (Z2 [] (j1 e h))) fun h=>wa J 8 (Yf (σ:=(List Int)) (fun st=>(Zl0 c st [(0,.I c),(2,.B 0 0),(4,.B 1 0),(5,.I f)])) (fun st=>DW f (Se N c n12) st=some r) ?_ (fun j19=>?_))
  ·intro g h
   unfold DW at h
   exact wa J 6 (Z2 [(2,.sl 3)] (ih12 (g,(Z1 (f+1))) h))
  refine wa J 1 (Yn (σ:=(List Int) × Int) (fun st=>(Zl0 c st.1 [(0,.I c),(2,.B 0 0),(4,.B 1 0),(5,.I f),(6,.I st.2)])) (fun n st=>Mk N c f (Se N c n12) n st.1 st.2) (r:=r) (fun _=>rfl) ?_ (fun ih=>?_))
  ·intro n14 ih21
   rintro ⟨i,j⟩ h
   unfold Mk at h
   refine Z7 J 7 h (fun h=>wa J 2 (Z2 [] (j19 i h))) fun h=>?_
   refine wO J 9 h fun k l h=>Z6 (Zk1 N f j _ l) [] [] (YS J [] (oI .i64) ([k]:List Int) ?_)
   have ⟨m,o,h⟩:=ob h
   exact Xc J (rI .i64) o (wa J 2 (Yl (wa J 6 (Z2 [(3,.sl 5)] (ih21 (m,(Z1 (j+1))) h)))))
  exact Z2 [(3,.sl 2)] (ih N (e,0) h)
 exact Z2 [(2,.nil)] (ih N (([]:List Int),0) h)
theorem Zk2 (N:Nat) (c:Yi) (r:Bool) (h:LC N c=some r) :
 Fn Tryz.prog 137 ⟨1,[.a (WI 0 c)],[(0,.sl (rI .i64) c.B)],[],1,.O r,[],[]⟩:=by
 refine Ya func137 rfl (fun E F w=>?_)
 unfold LC at h
 refine wB J 12 h (fun h=>oi h▸wr J 23 func137 []) fun h=>?_
 refine wB J 5 h (fun h=>oi h▸wr J 18 func137 []) fun h=>?_
 refine wB J 13 h (fun h=>oi h▸wr J 5 func137 []) fun h=>wa J 7 (Yf (σ:=Unit) (fun st=>(D3 c.B [])) (fun st=>Ze0=some r) ?_ (fun j1=>?_))
 ·intro _ h
  unfold Ze0 at h
  exact oi h▸wr J 4 func137 []
 refine wa J 1 (Yn (σ:=Int) (fun st=>⟨[(1,.B 1 0),(3,.I st)],[(1,.box (WI 0 c) 141)],[(0,.sl (rI .i64) c.B)],2⟩) (fun n st=>Qm c n st) (r:=r) (fun _=>rfl) ?_ (fun ih=>?_))
 ·intro n2 ih3
  intro d h
  unfold Qm at h
  refine Z7 J 9 h (fun h=>wa J 2 (Z2 [] (j1 () h))) fun h=>?_
  refine wO J 9 h fun e f h=>Yc J (oI .i64) f ?_
  refine wB J 3 h (fun h=>oi h▸wr J 13 func137 []) fun h=>?_
  refine wO J 3 h fun g i h=>Yc J (oI .i64) i ?_
  exact wB J 4 h (fun h=>oi h▸wr J 5 func137 []) fun h=>wa J 8 (Z2 [] (ih3 (Z1 (d+1)) h))
 exact Z2 [] (ih N 0 h)
theorem Zk3 (N:Nat) (c:Yi) (d:Int) (r:Bool) (h:GR N c d=some r) :
 Fn Tryz.prog 138 ⟨1,[.a (WI 0 c),.I d],[(0,.sl (rI .i64) c.B)],[],1,.O r,[],[]⟩:=by
 refine Ya func138 rfl (fun E F w=>?_)
 unfold GR at h
 exact wB J 10 h (fun h=>oi h▸wr J 7 func138 []) fun h=>oi h▸wr J 7 func138 []
theorem QM (N:Nat) (c:Yi) (d:T1) (r:Yi × Int) (h:z77 N c d=some r) :
 Fn Tryz.prog 77 ⟨1,[.a (WI 0 c),.a (MA d)],[(0,.sl (rI .i64) c.B)],[],2,.t [.inr (WI 1 r.1),.inl (.I r.2)],[(1,.sl (rI .i64) r.1.B)],[]⟩:=by
 refine Ya func77 rfl (fun E F w=>?_)
 unfold z77 at h
 refine wO J 12 h fun e f h=>Z6 (Zk2 N c _ f) [] [(0,.sl 0)] ?_
 refine wB J 3 h (fun h=>oi h▸wr J 7 func77 [(1,.nil)]) fun h=>?_
 refine wO J 6 h fun g i h=>Z6 (Zk3 N c d.X _ i) [] [(0,.sl 0)] ?_
 refine wB J 2 h (fun h=>oi h▸wr J 15 func77 [(1,.nil)]) fun h=>?_
 refine wO J 3 h fun j k h=>Z6 (Zk3 N c d.Y _ k) [] [(0,.sl 0)] ?_
 refine wB J 4 h (fun h=>oi h▸wr J 7 func77 [(1,.nil)]) fun h=>wa J 7 (YS J [] (oI .i64) ([]:List Int) ?_)
 refine wO J 2 h fun l m h=>Xc J (rI .i64) m (wa J 3 (Yl ?_))
 refine wO J 23 h fun o p h=>YB J (rI .i64) p (Y1 J (oI .i64) p ?_)
 refine wO J 4 h fun q s h=>YB J (rI .i64) s (XS J [] (oI .i64) (YG o (Yy d.C (-20001))) s (Yl (wa J 6 (Uq [5] ?_))))
 cases h
 exact YW J func77 [(1,.sl 5)]
theorem Zk4 (N:Nat) (c:Yi) (r:Yi × Bool) (h:Qn N c=some r) :
 Fn Tryz.prog 139 ⟨1,[.a (WI 0 c)],[(0,.sl (rI .i64) c.B)],[],2,.t [.inr (WI 1 r.1),.inl (.b r.2)],[(1,.sl (rI .i64) r.1.B)],[]⟩:=by
 refine Ya func139 rfl (fun E F w=>?_)
 unfold Qn at h
 refine wO J 10 h fun d e h=>Z6 (Zk2 N c _ e) [] [(0,.sl 0)] ?_
 refine wB J 2 h (fun h=>oi h▸wr J 7 func139 [(1,.nil)]) fun h=>wa J 13 (YS J [] (oI .i64) ([]:List Int) ?_)
 refine wO J 2 h fun f g h=>Xc J (rI .i64) g (wa J 3 (Yl (wa J 5 (Yf (σ:=(List Int)) (fun st=>(Tz st c c.B [(2,.B 2 0),(4,.I (Z1 (c.N+1))),(5,.B 5 0)])) (fun st=>ZaU N c st=some r) ?_ (fun j1=>?_)))))
 ·intro i h
  unfold ZaU at h
  refine wa J 5 (Yf (σ:=(List Int)) (fun st=>(Tz st c c.B [(2,.B 2 0),(4,.I (Z1 (c.N+1))),(5,.B 5 0)])) (fun st=>LD N c st=some r) ?_ (fun j12=>?_))
  ·intro j h
   unfold LD at h
   refine wa J 5 (Yf (σ:=Unit) (fun st=>(Tz j c c.B [(2,.B 2 0),(5,.B 5 0)])) (fun st=>Ze1 c j=some r) ?_ (fun j77=>?_))
   ·intro _ h
    unfold Ze1 at h
    refine wa J 6 (Uq [4] ?_)
    cases h
    exact YW J func139 [(1,.sl 4)]
   refine wa J 1 (Yn (σ:=Int) (fun st=>(Tz j c c.B [(2,.B 2 0),(4,.I (Z1 (c.N+1))),(5,.B 5 0),(11,.I st)])) (fun n st=>Qo c j n st) (r:=r) (fun _=>rfl) ?_ (fun ih=>?_))
   ·intro n52 ih79
    intro k h
    unfold Qo at h
    refine Z7 J 7 h (fun h=>wa J 2 (Z2 [] (j77 () h))) fun h=>?_
    refine wO J 13 h fun l m h=>YB J (rI .i64) m (Y1 J (oI .i64) m ?_)
    exact wB J 2 h (fun h=>oi h▸wr J 7 func139 [(1,.nil)]) fun h=>wa J 8 (Z2 [] (ih79 (Z1 (k+1)) h))
   exact Z2 [] (ih N 0 h)
  refine wa J 1 (Yn (σ:=(List Int) × Int) (fun st=>(Tz st.1 c c.B [(2,.B 2 0),(4,.I (Z1 (c.N+1))),(5,.B 5 0),(8,.I st.2)])) (fun n st=>Tk N c n st.1 st.2) (r:=r) (fun _=>rfl) ?_ (fun ih=>?_))
  ·intro n81 ih80
   rintro ⟨o,p⟩ h
   unfold Tk at h
   refine Z7 J 7 h (fun h=>wa J 2 (Z2 [] (j12 o h))) fun h=>wa J 8 (Yf (σ:=(List Int)) (fun st=>(Tz st c c.B [(2,.B 2 0),(4,.I (Z1 (c.N+1))),(5,.B 5 0),(8,.I p)])) (fun st=>GU p (Tk N c n81) st=some r) ?_ (fun j123=>?_))
   ·intro q h
    unfold GU at h
    exact wa J 6 (Z2 [] (ih80 (q,(Z1 (p+1))) h))
   refine wa J 1 (Yn (σ:=(List Int) × Int) (fun st=>(Tz st.1 c c.B [(2,.B 2 0),(4,.I (Z1 (c.N+1))),(5,.B 5 0),(8,.I p),(9,.I st.2)])) (fun n st=>Tl N c p (Tk N c n81) n st.1 st.2) (r:=r) (fun _=>rfl) ?_ (fun ih=>?_))
   ·intro n93 ih134
    rintro ⟨s,u⟩ h
    unfold Tl at h
    refine Z7 J 7 h (fun h=>wa J 2 (Z2 [] (j123 s h))) fun h=>wa J 8 (Yf (σ:=(List Int)) (fun st=>(Tz st c c.B [(2,.B 2 0),(4,.I (Z1 (c.N+1))),(5,.B 5 0),(8,.I p),(9,.I u)])) (fun st=>ZaT u (Tl N c p (Tk N c n81) n93) st=some r) ?_ (fun j141=>?_))
    ·intro v h
     unfold ZaT at h
     exact wa J 6 (Z2 [] (ih134 (v,(Z1 (u+1))) h))
    refine wa J 1 (Yn (σ:=(List Int) × Int) (fun st=>(Tz st.1 c c.B [(2,.B 2 0),(4,.I (Z1 (c.N+1))),(5,.B 5 0),(8,.I p),(9,.I u),(10,.I st.2)])) (fun n st=>PL c p u (Tl N c p (Tk N c n81) n93) n st.1 st.2) (r:=r) (fun _=>rfl) ?_ (fun ih=>?_))
    ·intro n95 ih143
     rintro ⟨x,y⟩ h
     unfold PL at h
     refine Z7 J 7 h (fun h=>wa J 2 (Z2 [] (j141 x h))) fun h=>?_
     refine wO J 19 h fun z A h=>YB J (rI .i64) A (Y1 J (oI .i64) A ?_)
     refine wO J 7 h fun C D h=>YB J (rI .i64) D (Y1 J (oI .i64) D ?_)
     refine wO J 7 h fun G H h=>YB J (rI .i64) H (Y1 J (oI .i64) H ?_)
     exact wO J 3 h fun R T h=>YB J (rI .i64) T (XS J [] (oI .i64) (YG z (Yy (-20001) (Z1 (C+G)))) T (Yl (wa J 6 (Z2 [] (ih143 ((YA x (Z1 ((Z1 (u * (Z1 (c.N+1))))+y)) (YG z (Yy (-20001) (Z1 (C+G))))),(Z1 (y+1))) h)))))
    exact Z2 [] (ih N (s,0) h)
   exact Z2 [] (ih N (o,0) h)
  exact Z2 [] (ih N (i,0) h)
 refine wa J 1 (Yn (σ:=(List Int) × Int) (fun st=>(Tz st.1 c c.B [(2,.B 2 0),(4,.I (Z1 (c.N+1))),(5,.B 5 0),(6,.I st.2)])) (fun n st=>TW N c n st.1 st.2) (r:=r) (fun _=>rfl) ?_ (fun ih=>?_))
 ·intro n100 ih144
  rintro ⟨U,X⟩ h
  unfold TW at h
  refine Z7 J 7 h (fun h=>wa J 2 (Z2 [] (j1 U h))) fun h=>wa J 8 (Yf (σ:=(List Int)) (fun st=>(Tz st c c.B [(2,.B 2 0),(4,.I (Z1 (c.N+1))),(5,.B 5 0),(6,.I X)])) (fun st=>GS X (TW N c n100) st=some r) ?_ (fun j151=>?_))
  ·intro Y h
   unfold GS at h
   exact wa J 6 (Z2 [] (ih144 (Y,(Z1 (X+1))) h))
  refine wa J 1 (Yn (σ:=(List Int) × Int) (fun st=>(Tz st.1 c c.B [(2,.B 2 0),(4,.I (Z1 (c.N+1))),(5,.B 5 0),(6,.I X),(7,.I st.2)])) (fun n st=>PK N c X (TW N c n100) n st.1 st.2) (r:=r) (fun _=>rfl) ?_ (fun ih=>?_))
  ·intro n102 ih153
   rintro ⟨Z,a0⟩ h
   unfold PK at h
   refine Z7 J 7 h (fun h=>wa J 2 (Z2 [] (j151 Z h))) fun h=>?_
   refine wO J 19 h fun b0 c0 h=>YB J (rI .i64) c0 (Y1 J (oI .i64) c0 ?_)
   refine wO J 2 h fun d0 e0 h=>Z6 (Zk1 N X a0 _ e0) [] [] ?_
   exact wO J 1 h fun f0 g0 h=>YB J (rI .i64) g0 (XS J [] (oI .i64) (YG b0 d0) g0 (Yl (wa J 6 (Z2 [] (ih153 ((YA Z (Z1 ((Z1 (X * (Z1 (c.N+1))))+a0)) (YG b0 d0)),(Z1 (a0+1))) h)))))
  exact Z2 [] (ih N (U,0) h)
 exact Z2 [] (ih N (f,0) h)
theorem Zvy (N:Nat) (c:Yi) (r:(List Int) × Bool) (h:Hn N c=some r) :
 Fn Tryz.prog 80 ⟨1,[.a (WI 0 c)],[(0,.sl (rI .i64) c.B)],[],2,.t [.inl (.sl 1),.inl (.b r.2)],[],[(1,.own (rI .i64) r.1 true)]⟩:=by
 refine Ya func80 rfl (fun E F w=>?_)
 unfold Hn at h
 refine wO J 9 h fun d e h=>Z6 (Zk4 N c _ e) [] [(0,.sl 0)] ?_
 refine wB J 13 h (fun h=>oi h▸wr J 6 func80 [(1,.nil)]) fun h=>wa J 11 (Yf (σ:=(List Int)) (fun st=>⟨[(6,.S 4)],[(4,.own (rI .i64) st true)],[(0,.sl (rI .i64) c.B)],5⟩) (fun st=>Zgi st=some r) ?_ (fun j1=>?_))
 ·intro f h
  unfold Zgi at h
  exact oi h▸wr J 6 func80 [(1,.sl 4)]
 refine wa J 1 (Yn (σ:=Int × (List Int) × (List Int) × Int) (fun st=>⟨[(1,.B 1 0),(4,.B 3 0),(6,.S 5),(7,.I st.2.2.2)],[(1,.box (WI 0 c) 141),(3,.box [.I st.1,.sl 4] 141),(5,.own (rI .i64) st.2.2.1 true)],[(0,.sl (rI .i64) c.B),(4,.sl (rI .i64) st.2.1)],6⟩) (fun n st=>Ml N c n st.1 st.2.1 st.2.2.1 st.2.2.2) (r:=r) (fun _=>rfl) ?_ (fun ih=>?_))
 ·intro n2 ih3
  rintro ⟨g,i,j,k⟩ h
  unfold Ml at h
  refine Z7 J 8 h (fun h=>wa J 2 (Z2 [(4,.sl 5)] (j1 j h))) fun h=>?_
  refine wO J 10 h fun l m h=>Yc J (oI .i64) m (wa J 8 (YS J [] (oI .i64) ([(Z1 (0-l))]:List Int) ?_))
  have ⟨o,p,h⟩:=ob h
  refine Xc J (rI .i64) p ?_
  refine wO J 8 h fun q s h=>Z6 (QM N (⟨g,i⟩:Yi) (⟨k,(-1),(Z1 (0-l))⟩:T1) _ s) [] [(0,.sl 4)] ?_
  exact wO J 7 h fun u v h=>Z6 (Zk4 N q.1 _ v) [] [(0,.sl 9)] (wa J 11 (Z2 [(4,.sl 10),(5,.sl 8)] (ih3 (u.1.N,u.1.B,o,(Z1 (k+1))) h)))
 exact Z2 [(4,.sl 2),(5,.nil)] (ih N (d.1.N,d.1.B,([]:List Int),0) h)
theorem Zvz (N:Nat) (d:Int) (r:ByteArray) (h:z81 N d=some r) :
 Fn Tryz.prog 81 ⟨0,[.I d],[],[],0,.c (.s r),[],[]⟩:=by
 refine Ya func81 rfl (fun E F w=>?_)
 unfold z81 at h
 refine wa J 13 (Yf (σ:=ByteArray) (fun st=>(Un [(3,.c (.s st))])) (fun st=>Zgj st=some r) ?_ (fun j1=>?_))
 ·intro e h
  unfold Zgj at h
  exact oi h▸wr J 5 func81 []
 refine wa J 1 (Yn (σ:=ByteArray × Int) (fun st=>(Un [(0,.I d),(3,.c (.s st.1)),(4,.I st.2)])) (fun n st=>Mm d n st.1 st.2) (r:=r) (fun _=>rfl) ?_ (fun ih=>?_))
 ·intro n2 ih3
  rintro ⟨f,g⟩ h
  unfold Mm at h
  refine Z7 J 7 h (fun h=>wa J 2 (Z2 [] (j1 f h))) fun h=>?_
  exact wO J 6 h fun i j h=>YO j (wa J 8 (Z2 [] (ih3 (i,(Z1 (g+1))) h)))
 exact Z2 [] (ih N ((str []),0) h)
theorem Zu6 (N:Nat) (c:(List T0)) (d:Int) (e:(List T12)) (r:(List T12) × Bool) (h:V5 N c d e=some r) :
 Fn Tryz.prog 32 ⟨2,[.S 0,.I d,.S 1],[(0,.sl Ys c),(1,.sl Ym e)],[],3,.t [.inl (.sl 2),.inl (.b r.2)],[],[(2,.own Ym r.1 true)]⟩:=by
 refine Ya func32 rfl (fun E F w=>?_)
 unfold V5 at h
 refine wO J 10 h fun f g h=>Z6 (Zce N c d _ g) [] [(0,.sl 0)] ?_
 refine wB J 2 h (fun h=>oi h▸wr J 12 func32 [(2,.nil)]) fun h=>?_
 refine wO J 2 h fun i j h=>Z6 (Zcb N c e _ j) [] [(0,.sl 0),(1,.sl 1)] ?_
 refine wB J 3 h (fun h=>oi h▸wr J 6 func32 [(2,.nil)]) fun h=>?_
 refine wO J 6 h fun k l h=>Yc J Xu l ?_
 refine wO J 8 h fun m o h=>Z6 (Zvv N c d _ o) [] [(0,.sl 0)] (wa J 11 (Yf (σ:=Unit) (fun st=>(Zl1 k m.1 c e [(2,.S 1),(8,.B 6 0),(9,.S 7)])) (fun st=>L9 N e k m=some r) ?_ (fun j1=>?_)))
 ·intro _ h
  unfold L9 at h
  refine wO J 4 h fun p q h=>Z6 (Zvw N k e _ q) [] [(0,.sl 3),(1,.sl 4),(2,.sl 5),(3,.sl 1)] ?_
  refine wB J 14 h (fun h=>oi h▸wr J 6 func32 [(2,.nil)]) fun h=>?_
  refine wO J 6 h fun s u h=>Z6 (Zvx N (e.length:Int) _ u) [] [] (wa J 12 (Yf (σ:=Int × (List Int)) (fun st=>⟨[(2,.S 1),(8,.B 6 0),(12,.S 8),(13,.S 9),(15,.B 11 0)],[(6,.box (Y5 3 4 5 k) 59),(8,.own rS p.1 true),(9,.own rB p.2.1 true),(11,.box [.I st.1,.sl 12] 141)],((0,.sl Ys c)::(1,.sl Ym e)::Y3 3 4 5 k [(12,.sl (rI .i64) st.2)]),13⟩) (fun st=>L8 N e k p st.1 st.2=some r) ?_ (fun j3=>?_)))
  ·rintro ⟨v,x⟩ h
   unfold L8 at h
   refine wa J 5 (Yf (σ:=Int × (List Int)) (fun st=>(Zl2 k p.1 p.2.1 st.1 c e st.2 [(2,.S 1),(8,.B 6 0),(12,.S 8),(13,.S 9),(15,.B 11 0)])) (fun st=>QA N e k p st.1 st.2=some r) ?_ (fun j5=>?_))
   ·rintro ⟨y,z⟩ h
    unfold QA at h
    refine wO J 3 h fun A C h=>Z6 (Zvy N (⟨y,z⟩:Yi) _ C) [] [(0,.sl 13)] ?_
    refine wB J 12 h (fun h=>oi h▸wr J 6 func32 [(2,.nil)]) fun h=>wa J 11 (Yf (σ:=(List T12)) (fun st=>⟨[(2,.S 1),(8,.B 6 0),(23,.S 15)],[(6,.box (Y5 3 4 5 k) 59),(15,.own Ym st true)],((0,.sl Ys c)::(1,.sl Ym e)::Y3 3 4 5 k []),16⟩) (fun st=>L6 N e k st=some r) ?_ (fun j13=>?_))
    ·intro D h
     unfold L6 at h
     refine wO J 8 h fun G H h=>X2 (Zge N k D e _ H) [] [(0,.sl 3),(1,.sl 4),(2,.sl 5),(3,.sl 15),(4,.sl 1)] [15] (.inr ⟨rfl,⟨(Zjs (Zam (MY _) (Zam (MY _) Zju))),trivial⟩⟩) ?_
     have ⟨R,T,h⟩:=ob h
     refine X2 (ZlD N k.ZB G _ T) [] [(0,.sl 4),(1,.sl 5),(2,.sl 16)] [16] (.inr ⟨rfl,trivial⟩) (wa J 1 (Yl ?_))
     exact eB h (fun h=>oi h▸wr J 6 func32 [(2,.nil)]) fun h=>oi h▸wr J 8 func32 [(2,.sl 15)]
    refine wa J 1 (Yn (σ:=(List T12) × Int) (fun st=>⟨[(2,.S 1),(8,.B 6 0),(12,.S 8),(13,.S 9),(21,.S 14),(23,.S 15),(24,.I st.2)],[(6,.box (Y5 3 4 5 k) 59),(8,.own rS p.1 true),(9,.own rB p.2.1 true),(14,.own (rI .i64) A.1 true),(15,.own Ym st.1 true)],((0,.sl Ys c)::(1,.sl Ym e)::Y3 3 4 5 k []),16⟩) (fun n st=>SU N e k p A n st.1 st.2) (r:=r) (fun _=>rfl) ?_ (fun ih=>?_))
    ·intro n5 ih15
     rintro ⟨U,Z⟩ h
     unfold SU at h
     refine Z7 J 9 h (fun h=>wa J 2 (Z2 [] (j13 U h))) fun h=>?_
     refine wO J 9 h fun a0 b0 h=>Yc J WE b0 ?_
     refine wB J 16 h (fun h=>?_) fun h=>?_
     ·refine wO J 7 h fun c0 d0 h=>YB J (rI .i64) d0 (Y1 J (oI .i64) d0 (wa J 7 (YS J [] YR ([(⟨a0.Zv.Zt,c0,(str [])⟩:T12)]:List T12) ?_)))
      have ⟨e0,f0,h⟩:=ob h
      exact Xc J Ym f0 (wa J 8 (Z2 [(15,.sl 20)] (ih15 (e0,(Z1 (Z+1))) h)))
     refine wO J 5 h fun g0 i0 h=>YB J rB i0 (Y1 J oB i0 ?_)
     refine wB J 2 h (fun h=>?_) fun h=>?_
     ·refine wO J 4 h fun j0 k0 h=>YB J rS k0 (Y1 J oS k0 (wa J 7 (YS J [] YR ([(⟨a0.Zv.Zt,0,j0⟩:T12)]:List T12) ?_)))
      have ⟨l0,m0,h⟩:=ob h
      exact Xc J Ym m0 (wa J 8 (Z2 [(15,.sl 21)] (ih15 (l0,(Z1 (Z+1))) h)))
     refine wO J 7 h fun o0 p0 h=>YB J (rI .i64) p0 (Y1 J (oI .i64) p0 ?_)
     have ⟨q0,s0,h⟩:=ob h
     refine Z6 (Zvz N o0 _ s0) [] [] (wa J 7 (YS J [] YR ([(⟨a0.Zv.Zt,0,q0⟩:T12)]:List T12) ?_))
     have ⟨t0,u0,h⟩:=ob h
     exact Xc J Ym u0 (wa J 8 (Z2 [(15,.sl 21)] (ih15 (t0,(Z1 (Z+1))) h)))
    exact Z2 [(15,.nil)] (ih N (([]:List T12),0) h)
   refine wa J 1 (Yn (σ:=Int × (List Int) × Int) (fun st=>(Zl2 k p.1 p.2.1 st.1 c e st.2.1 [(2,.S 1),(8,.B 6 0),(12,.S 8),(13,.S 9),(15,.B 11 0),(18,.I st.2.2)])) (fun n st=>Wz N e k p n st.1 st.2.1 st.2.2) (r:=r) (fun _=>rfl) ?_ (fun ih=>?_))
   ·intro n6 ih16
    rintro ⟨v0,x0,y0⟩ h
    unfold Wz at h
    refine Z7 J 8 h (fun h=>wa J 2 (Z2 [] (j5 (v0,x0) h))) fun h=>?_
    refine wO J 8 h fun z0 A0 h=>Yc J YR A0 ?_
    refine wO J 1 h fun B0 C0 h=>Z6 (DX N z0 _ C0) [] [] ?_
    refine wO J 2 h fun D0 G0 h=>Z6 (Hm N k y0 _ G0) [] [(0,.sl 3),(1,.sl 4),(2,.sl 5)] ?_
    refine Z7 J 2 h (fun h=>wa J 9 (Yl ?_)) fun h=>?_
    ·refine wO J 5 h fun H0 I0 h=>Z6 (Hm N k y0 _ I0) [] [(0,.sl 3),(1,.sl 4),(2,.sl 5)] ?_
     refine Z7 J 1 h (fun h=>wa J 23 (Z2 [] (ih16 (v0,x0,(Z1 (y0+1))) h))) fun h=>?_
     refine wO J 5 h fun L0 M0 h=>YB J rB M0 (Y1 J oB M0 (wa J 2 (Yf (σ:=Int × Bool) (fun st=>⟨[(2,.S 1),(8,.B 6 0),(12,.S 8),(13,.S 9),(15,.B 11 0),(18,.I y0),(19,.I st.1),(20,.O st.2)],[(6,.box (Y5 3 4 5 k) 59),(8,.own rS p.1 true),(9,.own rB p.2.1 true),(11,.box [.I v0,.sl 13] 141)],((0,.sl Ys c)::(1,.sl Ym e)::Y3 3 4 5 k [(13,.sl (rI .i64) x0)]),16⟩) (fun st=>L7 N v0 x0 y0 (Wz N e k p n6) st.1 st.2=some r) ?_ (fun j22=>?_))))
     ·rintro ⟨O0,R0⟩ h
      unfold L7 at h
      refine Z7 J 4 h (fun h=>wa J 8 (Z2 [] (ih16 (v0,x0,(Z1 (y0+1))) h))) fun h=>?_
      refine wO J 7 h fun S0 T0 h=>Z6 (QM N (⟨v0,x0⟩:Yi) (⟨y0,(-1),O0⟩:T1) _ T0) [] [(0,.sl 13)] ?_
      exact wO J 11 h fun U0 V0 h=>Z6 (QM N S0.1 (⟨(-1),y0,(Z1 (0-O0))⟩:T1) _ V0) [] [(0,.sl 16)] (wa J 11 (Z2 [(13,.sl 17)] (ih16 (U0.1.N,U0.1.B,(Z1 (y0+1))) h)))
     refine Ub h (fun h=>wa J 2 (Z2 [] (j22 (B0,false) h))) fun h=>?_
     exact wO J 7 h fun X0 Y0 h=>YB J rS Y0 (Y1 J oS Y0 (wa J 4 (Z2 [] (j22 ((X0.size:Int),true) h))))
    refine wO J 2 h fun Z0 a1 h=>Yc J YR a1 (wa J 6 (Yl ?_))
    refine wO J 5 h fun b1 c1 h=>Z6 (Hm N k y0 _ c1) [] [(0,.sl 3),(1,.sl 4),(2,.sl 5)] ?_
    refine Z7 J 1 h (fun h=>?_) fun h=>?_
    ·refine Z7 J 15 h (fun h=>wa J 8 (Z2 [] (ih16 (v0,x0,(Z1 (y0+1))) h))) fun h=>?_
     refine wO J 7 h fun d1 e1 h=>Z6 (QM N (⟨v0,x0⟩:Yi) (⟨y0,(-1),B0⟩:T1) _ e1) [] [(0,.sl 13)] ?_
     exact wO J 11 h fun f1 g1 h=>Z6 (QM N d1.1 (⟨(-1),y0,(Z1 (0-B0))⟩:T1) _ g1) [] [(0,.sl 16)] (wa J 11 (Z2 [(13,.sl 17)] (ih16 (f1.1.N,f1.1.B,(Z1 (y0+1))) h)))
    refine wO J 5 h fun i1 k1 h=>YB J rB k1 (Y1 J oB k1 (wa J 2 (Yf (σ:=Int × Bool) (fun st=>⟨[(2,.S 1),(8,.B 6 0),(12,.S 8),(13,.S 9),(15,.B 11 0),(18,.I y0),(19,.I st.1),(20,.O st.2)],[(6,.box (Y5 3 4 5 k) 59),(8,.own rS p.1 true),(9,.own rB p.2.1 true),(11,.box [.I v0,.sl 13] 141)],((0,.sl Ys c)::(1,.sl Ym e)::Y3 3 4 5 k [(13,.sl (rI .i64) x0)]),17⟩) (fun st=>Zb0 N v0 x0 y0 (Wz N e k p n6) st.1 st.2=some r) ?_ (fun j21=>?_))))
    ·rintro ⟨l1,m1⟩ h
     unfold Zb0 at h
     refine Z7 J 4 h (fun h=>wa J 8 (Z2 [] (ih16 (v0,x0,(Z1 (y0+1))) h))) fun h=>?_
     refine wO J 7 h fun o1 p1 h=>Z6 (QM N (⟨v0,x0⟩:Yi) (⟨y0,(-1),l1⟩:T1) _ p1) [] [(0,.sl 13)] ?_
     exact wO J 11 h fun q1 s1 h=>Z6 (QM N o1.1 (⟨(-1),y0,(Z1 (0-l1))⟩:T1) _ s1) [] [(0,.sl 17)] (wa J 11 (Z2 [(13,.sl 18)] (ih16 (q1.1.N,q1.1.B,(Z1 (y0+1))) h)))
    refine Ub h (fun h=>wa J 2 (Z2 [] (j21 (B0,(Z0.Zt != 0)) h))) fun h=>?_
    exact wO J 7 h fun t1 u1 h=>YB J rS u1 (Y1 J oS u1 (wa J 4 (Z2 [] (j21 ((t1.size:Int),true) h))))
   exact Z2 [(13,.sl 12)] (ih N (v,x,0) h)
  refine wa J 1 (Yn (σ:=Int × (List Int) × Int) (fun st=>⟨[(2,.S 1),(8,.B 6 0),(9,.S 7),(12,.S 8),(13,.S 9),(15,.B 11 0),(17,.I st.2.2)],[(6,.box (Y5 3 4 5 k) 59),(7,.own Xe m.1 true),(8,.own rS p.1 true),(9,.own rB p.2.1 true),(11,.box [.I st.1,.sl 12] 141)],((0,.sl Ys c)::(1,.sl Ym e)::Y3 3 4 5 k [(12,.sl (rI .i64) st.2.1)]),13⟩) (fun n st=>QC N e k m p n st.1 st.2.1 st.2.2) (r:=r) (fun _=>rfl) ?_ (fun ih=>?_))
  ·intro n7 ih23
   rintro ⟨v1,y1,z1⟩ h
   unfold QC at h
   refine Z7 J 8 h (fun h=>wa J 2 (Z2 [] (j3 (v1,y1) h))) fun h=>?_
   refine wO J 8 h fun A1 B1 h=>YB J Xe B1 (Y1 J Uv B1 ?_)
   have ⟨C1,D1,h⟩:=ob h
   exact Z6 (QM N (⟨v1,y1⟩:Yi) A1 _ D1) [] [(0,.sl 12)] (wa J 4 (Yl (wa J 6 (Z2 [(12,.sl 14)] (ih23 (C1.1.N,C1.1.B,(Z1 (z1+1))) h)))))
  exact Z2 [(12,.sl 10)] (ih N (s.1.N,s.1.B,0) h)
 refine wa J 1 (Yn (σ:=Int) (fun st=>(Zl1 k m.1 c e [(2,.S 1),(8,.B 6 0),(9,.S 7),(11,.I st)])) (fun n st=>SS N e k m n st) (r:=r) (fun _=>rfl) ?_ (fun ih=>?_))
 ·intro n8 ih24
  intro G1 h
  unfold SS at h
  refine Z7 J 8 h (fun h=>wa J 2 (Z2 [] (j1 () h))) fun h=>?_
  refine wO J 10 h fun H1 I1 h=>YB J Xe I1 (wa J 1 (Y1 J Uv I1 ?_))
  have ⟨L1,M1,h⟩:=ob h
  refine Z6 (ZlE N k e H1.X _ M1) [] [(0,.sl 3),(1,.sl 4),(2,.sl 5),(3,.sl 1)] ?_
  refine wB J 1 h (fun h=>wa J 9 (Yl (oi h▸wr J 6 func32 [(2,.nil)]))) fun h=>?_
  refine wO J 4 h fun O1 R1 h=>YB J Xe R1 (wa J 1 (Y1 J Uv R1 ?_))
  have ⟨S1,T1,h⟩:=ob h
  refine Z6 (ZlE N k e O1.Y _ T1) [] [(0,.sl 3),(1,.sl 4),(2,.sl 5),(3,.sl 1)] (wa J 1 (Yl ?_))
  exact eB h (fun h=>oi h▸wr J 6 func32 [(2,.nil)]) fun h=>wa J 8 (Z2 [] (ih24 (Z1 (G1+1)) h))
 exact Z2 [] (ih N 0 h)
theorem ZvP (N:Nat) (c:T5) (d:T8) (e:Yt) (r:(List T3)) (h:z9 N c d e=some r) :
 Fn Tryz.prog 9 ⟨9,[.a (YH 0 1 2 3 c),.a (YM 4 5 6 d),.a (X8 7 8 e)],((0,.sl rS c.ZI)::(1,.sl Ys c.ZJ)::(2,.sl Xb c.ZO)::(3,.sl YN c.ZP)::(4,.sl rB d.ZT)::(5,.sl Wh d.ZU)::(6,.sl YN d.ZP)::Wm 7 8 e []),[],10,.S 9,[],[(9,.own Xf r true)]⟩:=by
 refine Ya func9 rfl (fun E F w=>?_)
 unfold z9 at h
 refine wO J 13 h fun f g h=>Z6 (Zlr N c d e _ g) [] [(0,.sl 0),(1,.sl 1),(2,.sl 2),(3,.sl 3),(4,.sl 4),(5,.sl 5),(6,.sl 6),(7,.sl 7),(8,.sl 8)] ?_
 refine wB J 2 h (fun h=>oi h▸wr J 5 func9 [(9,.nil)]) fun h=>?_
 refine wO J 11 h fun i j h=>Z6 (Zu5 N d e.At _ j) [] [(0,.sl 4),(1,.sl 5),(2,.sl 6)] (wa J 7 (Yf (σ:=(List T3)) (fun st=>(ZlW st c.ZI c.ZJ c.ZO c.ZP d.ZT d.ZU d.ZP e [(7,.S 13)])) (fun st=>Zcr st=some r) ?_ (fun j1=>?_)))
 ·intro k h
  unfold Zcr at h
  exact oi h▸wr J 5 func9 [(9,.sl 13)]
 refine wa J 1 (Yn (σ:=(List T3) × Int) (fun st=>⟨[(3,.B 9 0),(4,.B 10 0),(5,.B 11 0),(7,.S 13),(8,.S 12),(9,.I st.2)],[(9,.box (YH 0 1 2 3 c) 27),(10,.box (YM 4 5 6 d) 31),(11,.box (X8 7 8 e) 37),(12,.own (rI .i64) i true),(13,.own Xf st.1 true)],((0,.sl rS c.ZI)::(1,.sl Ys c.ZJ)::(2,.sl Xb c.ZO)::(3,.sl YN c.ZP)::(4,.sl rB d.ZT)::(5,.sl Wh d.ZU)::(6,.sl YN d.ZP)::Wm 7 8 e []),14⟩) (fun n st=>Tv N c d e i n st.1 st.2) (r:=r) (fun _=>rfl) ?_ (fun ih=>?_))
 ·intro n2 ih3
  rintro ⟨l,m⟩ h
  unfold Tv at h
  refine Z7 J 8 h (fun h=>wa J 2 (Z2 [] (j1 l h))) fun h=>?_
  refine wO J 10 h fun o p h=>YB J (rI .i64) p (Y1 J (oI .i64) p ?_)
  have ⟨q,s,h⟩:=ob h
  refine Yc J XM s (wa J 3 (Yl ?_))
  refine wO J 26 h fun t u h=>Z6 (Zls N c.ZJ q.ZD e.ZX e.ZW _ u) [] [(0,.sl 1),(1,.sl 8),(2,.sl 7)] ?_
  refine Z7 J 9 h (fun h=>?_) fun h=>?_
  ·refine Z7 J 6 h (fun h=>wa J 8 (Z2 [] (ih3 (l,(Z1 (m+1))) h))) fun h=>wa J 4 (YS J [] Uw ([(⟨d.ZS,q.ZQ,q.ZR,q.ZD,e.ZX⟩:T3)]:List T3) ?_)
   have ⟨v,x,h⟩:=ob h
   exact Xc J Xf x (wa J 8 (Z2 [(13,.sl 19)] (ih3 (v,(Z1 (m+1))) h)))
  refine wO J 8 h fun y z h=>Z6 (Zu6 N c.ZJ q.ZD e.ZW _ z) [] [(0,.sl 1),(1,.sl 7)] ?_
  refine Z7 J 11 h (fun h=>wa J 8 (Z2 [] (ih3 (l,(Z1 (m+1))) h))) fun h=>wa J 4 (YS J [18] Uw ([(⟨d.ZS,q.ZQ,q.ZR,q.ZD,y.1⟩:T3)]:List T3) ?_)
  have ⟨A,C,h⟩:=ob h
  exact Xc J Xf C (wa J 8 (Z2 [(13,.sl 20)] (ih3 (A,(Z1 (m+1))) h)))
 exact Z2 [(13,.nil)] (ih N (([]:List T3),0) h)
theorem Zvr (N:Nat) (c:(List T12)) (d:(List T12)) (r:Bool) (h:DU N c d=some r) :
 Fn Tryz.prog 65 ⟨2,[.S 0,.S 1],[(0,.sl Ym c),(1,.sl Ym d)],[],2,.O r,[],[]⟩:=by
 refine Ya func65 rfl (fun E F w=>?_)
 unfold DU at h
 refine wB J 13 h (fun h=>oi h▸wr J 5 func65 []) fun h=>wa J 7 (Yf (σ:=Unit) (fun st=>(QS c d [])) (fun st=>Zf9=some r) ?_ (fun j1=>?_))
 ·intro _ h
  unfold Zf9 at h
  exact oi h▸wr J 4 func65 []
 refine wa J 1 (Yn (σ:=Int) (fun st=>(QS c d [(0,.S 0),(1,.S 1),(5,.I st)])) (fun n st=>Mg c d n st) (r:=r) (fun _=>rfl) ?_ (fun ih=>?_))
 ·intro n2 ih3
  intro e h
  unfold Mg at h
  refine Z7 J 8 h (fun h=>wa J 2 (Z2 [] (j1 () h))) fun h=>?_
  refine wO J 8 h fun f g h=>Yc J YR g ?_
  refine wO J 3 h fun i j h=>Yc J YR j (wa J 1 (RT (Yl ?_)))
  exact eB h (fun h=>oi h▸wr J 5 func65 []) fun h=>wa J 8 (Z2 [] (ih3 (Z1 (e+1)) h))
 exact Z2 [] (ih N 0 h)
theorem Zu4 (N:Nat) (c:T3) (d:T3) (r:Bool) (h:DK N c d=some r) :
 Fn Tryz.prog 28 ⟨2,[.a (W6 0 c),.a (W6 1 d)],[(0,.sl Ym c.ZV),(1,.sl Ym d.ZV)],[],2,.O r,[],[]⟩:=by
 refine Ya func28 rfl (fun E F w=>?_)
 unfold DK at h
 refine Z7 J 14 h (fun h=>oi h▸wr J 29 func28 []) fun h=>?_
 refine Z7 J 7 h (fun h=>oi h▸wr J 22 func28 []) fun h=>?_
 refine Z7 J 7 h (fun h=>oi h▸wr J 15 func28 []) fun h=>?_
 refine Z7 J 7 h (fun h=>oi h▸wr J 8 func28 []) fun h=>?_
 refine wO J 4 h fun e f h=>Z6 (Zvr N c.ZV d.ZV _ f) [] [(0,.sl 0),(1,.sl 1)] ?_
 exact oi h▸wr J 3 func28 []
theorem ZvH (N:Nat) (c:(List T3)) (d:(List T3)) (r:Bool) (h:z8 N c d=some r) :
 Fn Tryz.prog 8 ⟨2,[.S 0,.S 1],[(0,.sl Xf c),(1,.sl Xf d)],[],2,.O r,[],[]⟩:=by
 refine Ya func8 rfl (fun E F w=>?_)
 unfold z8 at h
 refine wB J 13 h (fun h=>oi h▸wr J 5 func8 []) fun h=>wa J 7 (Yf (σ:=Unit) (fun st=>⟨[],[],[(0,.sl Xf c),(1,.sl Xf d)],2⟩) (fun st=>Zgp=some r) ?_ (fun j1=>?_))
 ·intro _ h
  unfold Zgp at h
  exact oi h▸wr J 4 func8 []
 refine wa J 1 (Yn (σ:=Int) (fun st=>⟨[(0,.S 0),(1,.S 1),(5,.I st)],[],[(0,.sl Xf c),(1,.sl Xf d)],2⟩) (fun n st=>Mo N c d n st) (r:=r) (fun _=>rfl) ?_ (fun ih=>?_))
 ·intro n2 ih3
  intro e h
  unfold Mo at h
  refine Z7 J 8 h (fun h=>wa J 2 (Z2 [] (j1 () h))) fun h=>?_
  refine wO J 8 h fun f g h=>Yc J Uw g ?_
  refine wO J 3 h fun i j h=>Yc J Uw j ?_
  refine wO J 1 h fun k l h=>Z6 (Zu4 N f i _ l) [] [(0,.sl 3),(1,.sl 5)] (wa J 1 (Yl ?_))
  exact eB h (fun h=>oi h▸wr J 5 func8 []) fun h=>wa J 8 (Z2 [] (ih3 (Z1 (e+1)) h))
 exact Z2 [] (ih N 0 h)
theorem Ztp (N:Nat) (c:T5) (d:T8) (e:Yt) (f:T3) (r:Yt × Int) (h:Qb N c d e f=some r) :
 Fn Tryz.prog 10 ⟨10,[.a (YH 0 1 2 3 c),.a (YM 4 5 6 d),.a (X8 7 8 e),.a (W6 9 f)],((0,.sl rS c.ZI)::(1,.sl Ys c.ZJ)::(2,.sl Xb c.ZO)::(3,.sl YN c.ZP)::(4,.sl rB d.ZT)::(5,.sl Wh d.ZU)::(6,.sl YN d.ZP)::Wm 7 8 e [(9,.sl Ym f.ZV)]),[],12,.t [.inr (X8 10 11 r.1),.inl (.I r.2)],(Wm 10 11 r.1 []),[]⟩:=by
 refine Ya func10 rfl (fun E F w=>?_)
 unfold Qb at h
 refine wO J 15 h fun g i h=>Z6 (ZbK N c d e _ i) [] [(0,.sl 0),(1,.sl 1),(2,.sl 2),(3,.sl 3),(4,.sl 4),(5,.sl 5),(6,.sl 6),(7,.sl 7),(8,.sl 8)] ?_
 refine wB J 2 h (fun h=>oi h▸wr J 7 func10 [(10,.nil),(11,.nil)]) fun h=>?_
 refine wO J 8 h fun j k h=>Z6 (Zlt N c d e f _ k) [] [(0,.sl 0),(1,.sl 1),(2,.sl 2),(3,.sl 3),(4,.sl 4),(5,.sl 5),(6,.sl 6),(7,.sl 7),(8,.sl 8),(9,.sl 9)] ?_
 exact oi h▸wr J 5 func10 [(10,.sl 15),(11,.sl 16)]
theorem ZoS (N:Nat) (c:T5) (d:T8) (e:(List T3)) (r:Bool) (h:Rk N c d e=some r) :
 Fn Tryz.prog 3 ⟨9,[.a (YH 0 1 2 3 c),.a (YM 4 5 6 d),.S 7],((0,.sl rS c.ZI)::(1,.sl Ys c.ZJ)::(2,.sl Xb c.ZO)::(3,.sl YN c.ZP)::YP 4 5 6 d [(7,.sl Xf e)]),[(8,.abs powT)],9,.O r,[],[(8,.abs powT)]⟩:=by
 refine Ya func3 rfl (fun E F w=>?_)
 unfold Rk at h
 refine wO J 9 h fun f g h=>Z6 (Zvh N _ g) [] [(0,.sl 8)] ?_
 refine wB J 2 h (fun h=>oi h▸wr J 5 func3 []) fun h=>?_
 refine wO J 8 h fun i j h=>Z6 (Zvo N c d e _ j) [] [(0,.sl 0),(1,.sl 1),(2,.sl 2),(3,.sl 3),(4,.sl 4),(5,.sl 5),(6,.sl 6),(7,.sl 7)] ?_
 refine wB J 2 h (fun h=>oi h▸wr J 5 func3 []) fun h=>?_
 refine wO J 7 h fun k l h=>Z6 (Zvu N c d e _ l) [] [(0,.sl 0),(1,.sl 1),(2,.sl 2),(3,.sl 3),(4,.sl 4),(5,.sl 5),(6,.sl 6),(7,.sl 7)] ?_
 refine wO J 14 h fun m o h=>Z6 (ZlF N c d k.1 _ o) [] [(0,.sl 0),(1,.sl 1),(2,.sl 2),(3,.sl 3),(4,.sl 4),(5,.sl 5),(6,.sl 6),(7,.sl 11),(8,.sl 12)] ?_
 refine wO J 9 h fun p q h=>Z6 (ZvP N c d k.1 _ q) [] [(0,.sl 0),(1,.sl 1),(2,.sl 2),(3,.sl 3),(4,.sl 4),(5,.sl 5),(6,.sl 6),(7,.sl 11),(8,.sl 12)] ?_
 have ⟨s,t,h⟩:=ob h
 refine X2 (ZvH N m p _ t) [] [(0,.sl 14),(1,.sl 15)] [14,15] (.inr ⟨rfl,trivial⟩) ?_
 refine wB J 2 h (fun h=>oi h▸wr J 5 func3 []) fun h=>wa J 7 (Yf (σ:=Unit) (fun st=>⟨[],[(8,.abs powT)],((0,.sl rS c.ZI)::(1,.sl Ys c.ZJ)::(2,.sl Xb c.ZO)::(3,.sl YN c.ZP)::YP 4 5 6 d [(7,.sl Xf e)]),16⟩) (fun st=>ZdI=some r) ?_ (fun j1=>?_))
 ·intro _ h
  unfold ZdI at h
  exact oi h▸wr J 4 func3 []
 refine wa J 1 (Yn (σ:=Int) (fun st=>⟨[(3,.B 9 0),(4,.B 10 0),(7,.B 13 0),(10,.S 14),(11,.I st)],[(8,.abs powT),(9,.box (YH 0 1 2 3 c) 27),(10,.box (YM 4 5 6 d) 31),(13,.box (X8 11 12 k.1) 37),(14,.own Xf m true)],((0,.sl rS c.ZI)::(1,.sl Ys c.ZJ)::(2,.sl Xb c.ZO)::(3,.sl YN c.ZP)::(4,.sl rB d.ZT)::(5,.sl Wh d.ZU)::(6,.sl YN d.ZP)::(7,.sl Xf e)::Wm 11 12 k.1 []),16⟩) (fun n st=>Pc N c d k m n st) (r:=r) (fun _=>rfl) ?_ (fun ih=>?_))
 ·intro n2 ih3
  intro u h
  unfold Pc at h
  refine Z7 J 8 h (fun h=>wa J 2 (Z2 [] (j1 () h))) fun h=>?_
  refine wO J 11 h fun v x h=>YB J Xf x (Y1 J Uw x ?_)
  have ⟨y,z,h⟩:=ob h
  refine Z6 (Ztp N c d k.1 v _ z) [] [(0,.sl 0),(1,.sl 1),(2,.sl 2),(3,.sl 3),(4,.sl 4),(5,.sl 5),(6,.sl 6),(7,.sl 11),(8,.sl 12),(9,.sl 17)] (wa J 6 (Yl ?_))
  exact wB J 5 h (fun h=>oi h▸wr J 5 func3 []) fun h=>wa J 8 (Z2 [] (ih3 (Z1 (u+1)) h))
 exact Z2 [] (ih N 0 h)
end Gx
end
