/- Each function of the statement computes what its plain definition says, part 2. -/
import Derived.Test.YthmedickagkdoaaGreatDoorGuardDeclsWalk1
set_option linter.all false
section
set_option maxRecDepth 10000
set_option maxHeartbeats 4000000
open Go Go.Kx Go.Proofs Tryz
namespace Gx
theorem ZuV (N:Nat) (c:ZX) (r:ZX) (h:D6 N c=some r) :
 Fn Tryz.prog 47 ⟨6,[.B 0 0],((1,.sl Ys c.all')::YS 2 3 4 c.p' []),[(0,.box (Xw 1 2 3 4 5 c) 131),(5,.own rS c.calls' false)],11,.t [],((6,.sl Ys r.all')::YS 7 8 9 r.p' []),[(5,.gone),(10,.own rS r.calls' false),(0,.box (Xw 6 7 8 9 10 r) 131)]⟩:=by
 refine Z5 func47 rfl (fun E F w=>?_)
 unfold D6 at h
 refine wa J 10 (Z4 (σ:=(List ZT) × ByteArray × (List ByteArray) × (List Z2) × (List ZS) × (List ByteArray) × ByteArray × ByteArray × Int) (fun st=>(ZdZ st.2.1 st.2.2.2.2.2.2.1 st.2.2.2.2.2.2.2.1 st.2.2.2.2.2.2.2.2 st.2.2.2.2.2.1 c.all' c.p' st.1 st.2.2.1 st.2.2.2.1 st.2.2.2.2.1 [])) (fun st=>D7 st.1 st.2.1 st.2.2.1 st.2.2.2.1 st.2.2.2.2.1 st.2.2.2.2.2.1 st.2.2.2.2.2.2.1 st.2.2.2.2.2.2.2.1 st.2.2.2.2.2.2.2.2=some r) ?_ (fun j1=>?_))
 ·rintro ⟨d,e,f,g,i,j,k,l,m⟩ h
  unfold D7 at h
  cases h
  exact Y2 J func47 [(6,.sl 6),(7,.sl 7),(8,.sl 8),(9,.sl 9),(10,.sl 10)]
 refine wa J 1 (Ye (σ:=(List ZT) × ByteArray × (List ByteArray) × (List Z2) × (List ZS) × (List ByteArray) × ByteArray × ByteArray × Int × Int) (fun st=>(ZdZ st.2.1 st.2.2.2.2.2.2.1 st.2.2.2.2.2.2.2.1 st.2.2.2.2.2.2.2.2.1 st.2.2.2.2.2.1 c.all' c.p' st.1 st.2.2.1 st.2.2.2.1 st.2.2.2.2.1 [(0,.B 0 0),(12,.S 3),(13,.I (c.p'.ZE.length:Int)),(14,.I st.2.2.2.2.2.2.2.2.2)])) (fun n st=>Ud N c n st.1 st.2.1 st.2.2.1 st.2.2.2.1 st.2.2.2.2.1 st.2.2.2.2.2.1 st.2.2.2.2.2.2.1 st.2.2.2.2.2.2.2.1 st.2.2.2.2.2.2.2.2.1 st.2.2.2.2.2.2.2.2.2) (r:=r) (fun _=>rfl) ?_ (fun ih=>?_))
 ·intro n12 ih51
  rintro ⟨o,p,q,u,v,x,y,z,A,C⟩ h
  unfold Ud at h
  refine ZU J 5 h (fun h=>wa J 2 (ZO [] (j1 (o,p,q,u,v,x,y,z,A) h))) fun h=>?_
  refine wO J 7 h fun D G h=>Ya J Ut G ?_
  refine wO J 14 h fun H R h=>SU J YX R ?_
  refine wO J 1 h fun T U h=>ZR (ZsS N H D _ U) [] [(0,.sl 15),(1,.bp 14 0),(2,.sl 12),(3,.sl 13)] (wa J 1 (Z4 (σ:=(List ZT) × ByteArray × (List ByteArray) × (List Z2) × (List ZS) × (List ByteArray) × ByteArray × ByteArray × Int) (fun st=>⟨[(0,.B 0 0),(3,.B 14 0),(12,.S 3),(13,.I (c.p'.ZE.length:Int)),(14,.I C)],[(0,.box [.sl 16,.s st.2.1,.sl 17,.sl 18,.sl 19,.sl 20,.s st.2.2.2.2.2.2.1,.s st.2.2.2.2.2.2.2.1,.I st.2.2.2.2.2.2.2.2] 131),(14,.box [.s D.Zt,.sl 12,.sl 13] 64),(20,.own rS st.2.2.2.2.2.1 false)],((1,.sl Ys c.all')::YS 2 3 4 c.p' (XC 12 13 D [(16,.sl Ys st.1),(17,.sl rS st.2.2.1),(18,.sl YX st.2.2.2.1),(19,.sl Yi st.2.2.2.2.1)])),21⟩) (fun st=>Hw N C (Ud N c n12) D st.1 st.2.1 st.2.2.1 st.2.2.2.1 st.2.2.2.2.1 st.2.2.2.2.2.1 st.2.2.2.2.2.2.1 st.2.2.2.2.2.2.2.1 st.2.2.2.2.2.2.2.2=some r) ?_ (fun j84=>?_)))
  ·rintro ⟨X,Y,Z,a0,b0,c0,e0,g0,i0⟩ h
   unfold Hw at h
   refine wa J 7 (Z4 (σ:=(List ZT) × ByteArray × (List ByteArray) × (List Z2) × (List ZS) × (List ByteArray) × ByteArray × ByteArray × Int) (fun st=>⟨[(0,.B 0 0),(12,.S 3),(13,.I (c.p'.ZE.length:Int)),(14,.I C)],[(0,.box [.sl 21,.s st.2.1,.sl 22,.sl 23,.sl 24,.sl 25,.s st.2.2.2.2.2.2.1,.s st.2.2.2.2.2.2.2.1,.I st.2.2.2.2.2.2.2.2] 131),(25,.own rS st.2.2.2.2.2.1 false)],((1,.sl Ys c.all')::YS 2 3 4 c.p' [(21,.sl Ys st.1),(22,.sl rS st.2.2.1),(23,.sl YX st.2.2.2.1),(24,.sl Yi st.2.2.2.2.1)]),26⟩) (fun st=>D8 C (Ud N c n12) st.1 st.2.1 st.2.2.1 st.2.2.2.1 st.2.2.2.2.1 st.2.2.2.2.2.1 st.2.2.2.2.2.2.1 st.2.2.2.2.2.2.2.1 st.2.2.2.2.2.2.2.2=some r) ?_ (fun j85=>?_))
   ·rintro ⟨j0,k0,l0,m0,o0,p0,q0,s0,t0⟩ h
    unfold D8 at h
    exact wa J 5 (ZO [(6,.sl 21),(7,.sl 22),(8,.sl 23),(9,.sl 24),(10,.sl 25)] (ih51 (j0,k0,l0,m0,o0,p0,q0,s0,t0,(ZN (C+1))) h))
   refine wa J 1 (Ye (σ:=(List ZT) × ByteArray × (List ByteArray) × (List Z2) × (List ZS) × (List ByteArray) × ByteArray × ByteArray × Int × Int) (fun st=>⟨[(0,.B 0 0),(3,.B 14 0),(12,.S 3),(13,.I (c.p'.ZE.length:Int)),(14,.I C),(33,.S 12),(34,.I (D.Zy.length:Int)),(35,.I st.2.2.2.2.2.2.2.2.2)],[(0,.box [.sl 21,.s st.2.1,.sl 22,.sl 23,.sl 24,.sl 25,.s st.2.2.2.2.2.2.1,.s st.2.2.2.2.2.2.2.1,.I st.2.2.2.2.2.2.2.2.1] 131),(14,.box [.s D.Zt,.sl 12,.sl 13] 64),(25,.own rS st.2.2.2.2.2.1 false)],((1,.sl Ys c.all')::YS 2 3 4 c.p' (XC 12 13 D [(21,.sl Ys st.1),(22,.sl rS st.2.2.1),(23,.sl YX st.2.2.2.1),(24,.sl Yi st.2.2.2.2.1)])),26⟩) (fun n st=>TG N C (Ud N c n12) D n st.1 st.2.1 st.2.2.1 st.2.2.2.1 st.2.2.2.2.1 st.2.2.2.2.2.1 st.2.2.2.2.2.2.1 st.2.2.2.2.2.2.2.1 st.2.2.2.2.2.2.2.2.1 st.2.2.2.2.2.2.2.2.2) (r:=r) (fun _=>rfl) ?_ (fun ih=>?_))
   ·intro n14 ih93
    rintro ⟨u0,v0,x0,y0,z0,A0,B0,C0,D0,G0⟩ h
    unfold TG at h
    refine ZU J 5 h (fun h=>wa J 2 (ZO [] (j85 (u0,v0,x0,y0,z0,A0,B0,C0,D0) h))) fun h=>?_
    refine wO J 7 h fun H0 I0 h=>Ya J XK I0 ?_
    refine wO J 11 h fun L0 M0 h=>SU J YU M0 ?_
    refine wO J 1 h fun O0 R0 h=>ZR (Zvd N L0 H0 _ R0) [] [(0,.sl 28),(1,.bp 27 0)] (wa J 1 (Z4 (σ:=(List ZT) × ByteArray × (List ByteArray) × (List Z2) × (List ZS) × (List ByteArray) × ByteArray × ByteArray × Int) (fun st=>(ZmN st.2.1 st.2.2.2.2.2.2.1 st.2.2.2.2.2.2.2.1 st.2.2.2.2.2.2.2.2 D.Zt H0 st.2.2.2.2.2.1 c.all' c.p' D st.1 st.2.2.1 st.2.2.2.1 st.2.2.2.2.1 [(0,.B 0 0),(3,.B 14 0),(5,.B 27 0),(12,.S 3),(13,.I (c.p'.ZE.length:Int)),(14,.I C),(33,.S 12),(34,.I (D.Zy.length:Int)),(35,.I G0)])) (fun st=>Hv N G0 (TG N C (Ud N c n12) D n14) H0 st.1 st.2.1 st.2.2.1 st.2.2.2.1 st.2.2.2.2.1 st.2.2.2.2.2.1 st.2.2.2.2.2.2.1 st.2.2.2.2.2.2.2.1 st.2.2.2.2.2.2.2.2=some r) ?_ (fun j98=>?_)))
    ·rintro ⟨S0,U0,V0,X0,Y0,Z0,a1,b1,c1⟩ h
     unfold Hv at h
     refine wa J 13 (Z4 (σ:=Int × Int) (fun st=>(ZmN U0 a1 b1 c1 D.Zt H0 Z0 c.all' c.p' D S0 V0 X0 Y0 [(0,.B 0 0),(3,.B 14 0),(5,.B 27 0),(6,.I st.1),(7,.I st.2),(12,.S 3),(13,.I (c.p'.ZE.length:Int)),(14,.I C),(33,.S 12),(34,.I (D.Zy.length:Int)),(35,.I G0)])) (fun st=>Hu N G0 (TG N C (Ud N c n12) D n14) H0 S0 U0 V0 X0 Y0 Z0 a1 b1 c1 st.1 st.2=some r) ?_ (fun j99=>?_))
     ·rintro ⟨e1,g1⟩ h
      unfold Hu at h
      refine wB J 10 h (fun h=>?_) fun h=>?_
      ·exact wO J 19 h fun i1 k1 h=>ZR (Wb N (⟨S0,(⟨U0,V0,X0,Y0⟩:ZT),Z0,(⟨a1,b1,c1⟩:T9)⟩:ZX) H0.Zt 2 _ k1) [] [(0,.bp 0 0),(1,.sl 29),(2,.sl 30),(3,.sl 31),(4,.sl 32),(5,.sl 33)] (wa J 6 (ZO [(21,.sl 34),(22,.sl 35),(23,.sl 36),(24,.sl 37),(25,.sl 38)] (ih93 (i1.all',i1.p'.Zt,i1.p'.ZD,i1.p'.ZE,i1.p'.ZF,i1.calls',i1.out'.ZL,i1.out'.Zt,i1.out'.ZM,(ZN (G0+1))) h)))
      refine wB J 7 h (fun h=>?_) fun h=>?_
      ·exact wO J 12 h fun l1 m1 h=>ZR (Wb N (⟨S0,(⟨U0,V0,X0,Y0⟩:ZT),Z0,(⟨a1,b1,c1⟩:T9)⟩:ZX) H0.Zt 2 _ m1) [] [(0,.bp 0 0),(1,.sl 29),(2,.sl 30),(3,.sl 31),(4,.sl 32),(5,.sl 33)] (wa J 6 (ZO [(21,.sl 34),(22,.sl 35),(23,.sl 36),(24,.sl 37),(25,.sl 38)] (ih93 (l1.all',l1.p'.Zt,l1.p'.ZD,l1.p'.ZE,l1.p'.ZF,l1.calls',l1.out'.ZL,l1.out'.Zt,l1.out'.ZM,(ZN (G0+1))) h)))
      refine ZU J 7 h (fun h=>wa J 7 (ZO [(21,.sl 29),(22,.sl 30),(23,.sl 31),(24,.sl 32),(25,.sl 33)] (ih93 (S0,U0,V0,X0,Y0,Z0,a1,b1,c1,(ZN (G0+1))) h))) fun h=>?_
      exact wO J 5 h fun o1 p1 h=>ZR (Wb N (⟨S0,(⟨U0,V0,X0,Y0⟩:ZT),Z0,(⟨a1,b1,c1⟩:T9)⟩:ZX) H0.Zt 2 _ p1) [] [(0,.bp 0 0),(1,.sl 29),(2,.sl 30),(3,.sl 31),(4,.sl 32),(5,.sl 33)] (wa J 6 (ZO [(21,.sl 34),(22,.sl 35),(23,.sl 36),(24,.sl 37),(25,.sl 38)] (ih93 (o1.all',o1.p'.Zt,o1.p'.ZD,o1.p'.ZE,o1.p'.ZF,o1.calls',o1.out'.ZL,o1.out'.Zt,o1.out'.ZM,(ZN (G0+1))) h)))
     exact eB h (fun h=>wa J 5 (ZO [] (j99 (0,40) h))) fun h=>wa J 2 (ZO [] (j99 ((-1000),1000) h))
    refine Xf h (fun h=>wa J 2 (ZO [(29,.sl 21),(30,.sl 22),(31,.sl 23),(32,.sl 24),(33,.sl 25)] (j98 (u0,v0,x0,y0,z0,A0,B0,C0,D0) h))) fun h=>?_
    exact wO J 5 h fun q1 s1 h=>ZR (Wb N (⟨u0,(⟨v0,x0,y0,z0⟩:ZT),A0,(⟨B0,C0,D0⟩:T9)⟩:ZX) H0.Zt 9 _ s1) [] [(0,.bp 0 0),(1,.sl 21),(2,.sl 22),(3,.sl 23),(4,.sl 24),(5,.sl 25)] (wa J 1 (ZO [] (j98 (q1.all',q1.p'.Zt,q1.p'.ZD,q1.p'.ZE,q1.p'.ZF,q1.calls',q1.out'.ZL,q1.out'.Zt,q1.out'.ZM) h)))
   exact ZO [(21,.sl 16),(22,.sl 17),(23,.sl 18),(24,.sl 19),(25,.sl 20)] (ih N (X,Y,Z,a0,b0,c0,e0,g0,i0,0) h)
  refine Xf h (fun h=>wa J 2 (ZO [(16,.sl 6),(17,.sl 7),(18,.sl 8),(19,.sl 9),(20,.sl 10)] (j84 (o,p,q,u,v,x,y,z,A) h))) fun h=>?_
  exact wO J 5 h fun t1 u1 h=>ZR (Wb N (⟨o,(⟨p,q,u,v⟩:ZT),x,(⟨y,z,A⟩:T9)⟩:ZX) D.Zt 9 _ u1) [] [(0,.bp 0 0),(1,.sl 6),(2,.sl 7),(3,.sl 8),(4,.sl 9),(5,.sl 10)] (wa J 1 (ZO [] (j84 (t1.all',t1.p'.Zt,t1.p'.ZD,t1.p'.ZE,t1.p'.ZF,t1.calls',t1.out'.ZL,t1.out'.Zt,t1.out'.ZM) h)))
 exact ZO [(6,.sl 1),(7,.sl 2),(8,.sl 3),(9,.sl 4),(10,.sl 5)] (ih N (c.all',c.p'.Zt,c.p'.ZD,c.p'.ZE,c.p'.ZF,c.calls',c.out'.ZL,c.out'.Zt,c.out'.ZM,0) h)
theorem ZuW (N:Nat) (c:ZX) (r:ZX) (h:D9 N c=some r) :
 Fn Tryz.prog 48 ⟨6,[.B 0 0],((1,.sl Ys c.all')::YS 2 3 4 c.p' []),[(0,.box (Xw 1 2 3 4 5 c) 131),(5,.own rS c.calls' false)],11,.t [],((6,.sl Ys r.all')::YS 7 8 9 r.p' []),[(5,.gone),(10,.own rS r.calls' false),(0,.box (Xw 6 7 8 9 10 r) 131)]⟩:=by
 refine Z5 func48 rfl (fun E F w=>?_)
 unfold D9 at h
 refine wa J 10 (Z4 (σ:=(List ZT) × ByteArray × (List ByteArray) × (List Z2) × (List ZS) × (List ByteArray) × ByteArray × ByteArray × Int) (fun st=>(ZdZ st.2.1 st.2.2.2.2.2.2.1 st.2.2.2.2.2.2.2.1 st.2.2.2.2.2.2.2.2 st.2.2.2.2.2.1 c.all' c.p' st.1 st.2.2.1 st.2.2.2.1 st.2.2.2.2.1 [])) (fun st=>Ba st.1 st.2.1 st.2.2.1 st.2.2.2.1 st.2.2.2.2.1 st.2.2.2.2.2.1 st.2.2.2.2.2.2.1 st.2.2.2.2.2.2.2.1 st.2.2.2.2.2.2.2.2=some r) ?_ (fun j1=>?_))
 ·rintro ⟨d,e,f,g,i,j,k,l,m⟩ h
  unfold Ba at h
  cases h
  exact Y2 J func48 [(6,.sl 6),(7,.sl 7),(8,.sl 8),(9,.sl 9),(10,.sl 10)]
 refine wa J 1 (Ye (σ:=(List ZT) × ByteArray × (List ByteArray) × (List Z2) × (List ZS) × (List ByteArray) × ByteArray × ByteArray × Int × Int) (fun st=>(ZdZ st.2.1 st.2.2.2.2.2.2.1 st.2.2.2.2.2.2.2.1 st.2.2.2.2.2.2.2.2.1 st.2.2.2.2.2.1 c.all' c.p' st.1 st.2.2.1 st.2.2.2.1 st.2.2.2.2.1 [(0,.B 0 0),(17,.S 3),(18,.I (c.p'.ZE.length:Int)),(19,.I st.2.2.2.2.2.2.2.2.2)])) (fun n st=>WY N c n st.1 st.2.1 st.2.2.1 st.2.2.2.1 st.2.2.2.2.1 st.2.2.2.2.2.1 st.2.2.2.2.2.2.1 st.2.2.2.2.2.2.2.1 st.2.2.2.2.2.2.2.2.1 st.2.2.2.2.2.2.2.2.2) (r:=r) (fun _=>rfl) ?_ (fun ih=>?_))
 ·intro n132 ih516
  rintro ⟨o,p,q,u,v,x,y,z,A,C⟩ h
  unfold WY at h
  refine ZU J 5 h (fun h=>wa J 2 (ZO [] (j1 (o,p,q,u,v,x,y,z,A) h))) fun h=>?_
  refine wO J 6 h fun D G h=>Ya J Ut G (wa J 11 (Z4 (σ:=(List ZT) × ByteArray × (List ByteArray) × (List Z2) × (List ZS) × (List ByteArray) × ByteArray × ByteArray × Int) (fun st=>⟨[(0,.B 0 0),(17,.S 3),(18,.I (c.p'.ZE.length:Int)),(19,.I C)],[(0,.box [.sl 15,.s st.2.1,.sl 16,.sl 17,.sl 18,.sl 19,.s st.2.2.2.2.2.2.1,.s st.2.2.2.2.2.2.2.1,.I st.2.2.2.2.2.2.2.2] 131),(19,.own rS st.2.2.2.2.2.1 false)],((1,.sl Ys c.all')::YS 2 3 4 c.p' [(15,.sl Ys st.1),(16,.sl rS st.2.2.1),(17,.sl YX st.2.2.2.1),(18,.sl Yi st.2.2.2.2.1)]),20⟩) (fun st=>Bb C (WY N c n132) st.1 st.2.1 st.2.2.1 st.2.2.2.1 st.2.2.2.2.1 st.2.2.2.2.2.1 st.2.2.2.2.2.2.1 st.2.2.2.2.2.2.2.1 st.2.2.2.2.2.2.2.2=some r) ?_ (fun j859=>?_)))
  ·rintro ⟨H,R,T,U,X,Y,Z,a0,b0⟩ h
   unfold Bb at h
   exact wa J 5 (ZO [(6,.sl 15),(7,.sl 16),(8,.sl 17),(9,.sl 18),(10,.sl 19)] (ih516 (H,R,T,U,X,Y,Z,a0,b0,(ZN (C+1))) h))
  refine wa J 1 (Ye (σ:=(List ZT) × ByteArray × (List ByteArray) × (List Z2) × (List ZS) × (List ByteArray) × ByteArray × ByteArray × Int × Int) (fun st=>⟨[(0,.B 0 0),(3,.B 14 0),(17,.S 3),(18,.I (c.p'.ZE.length:Int)),(19,.I C),(24,.S 13),(25,.I (D.Zz.length:Int)),(26,.I st.2.2.2.2.2.2.2.2.2)],[(0,.box [.sl 15,.s st.2.1,.sl 16,.sl 17,.sl 18,.sl 19,.s st.2.2.2.2.2.2.1,.s st.2.2.2.2.2.2.2.1,.I st.2.2.2.2.2.2.2.2.1] 131),(14,.box [.s D.Zt,.sl 12,.sl 13] 64),(19,.own rS st.2.2.2.2.2.1 false)],((1,.sl Ys c.all')::YS 2 3 4 c.p' (XC 12 13 D [(15,.sl Ys st.1),(16,.sl rS st.2.2.1),(17,.sl YX st.2.2.2.1),(18,.sl Yi st.2.2.2.2.1)])),20⟩) (fun n st=>VT N C (WY N c n132) D n st.1 st.2.1 st.2.2.1 st.2.2.2.1 st.2.2.2.2.1 st.2.2.2.2.2.1 st.2.2.2.2.2.2.1 st.2.2.2.2.2.2.2.1 st.2.2.2.2.2.2.2.2.1 st.2.2.2.2.2.2.2.2.2) (r:=r) (fun _=>rfl) ?_ (fun ih=>?_))
  ·intro n154 ih945
   rintro ⟨c0,e0,g0,i0,j0,k0,l0,m0,o0,p0⟩ h
   unfold VT at h
   refine ZU J 5 h (fun h=>wa J 2 (ZO [] (j859 (c0,e0,g0,i0,j0,k0,l0,m0,o0) h))) fun h=>?_
   refine wO J 6 h fun q0 s0 h=>Ya J Q3 s0 (wa J 24 (Z4 (σ:=(List ZT) × ByteArray × (List ByteArray) × (List Z2) × (List ZS) × (List ByteArray) × ByteArray × ByteArray × Int × Int × Int) (fun st=>(ZmO st.2.1 st.2.2.2.2.2.2.1 st.2.2.2.2.2.2.2.1 st.2.2.2.2.2.2.2.2.1 D.Zt q0.Zw.Zq q0.Zw.Zv q0.Zw.Field q0.Zw.N q0.Op q0.Zx.Zq q0.Zx.Zv q0.Zx.Field q0.Zx.N st.2.2.2.2.2.2.2.2.2.1 st.2.2.2.2.2.2.2.2.2.2 st.2.2.2.2.2.1 c.all' c.p' D st.1 st.2.2.1 st.2.2.2.1 st.2.2.2.2.1 [(0,.B 0 0),(3,.B 14 0),(5,.B 21 0),(6,.B 22 0),(7,.B 23 0),(17,.S 3),(18,.I (c.p'.ZE.length:Int)),(19,.I C),(24,.S 13),(25,.I (D.Zz.length:Int)),(26,.I p0)])) (fun st=>Zda N D p0 (VT N C (WY N c n132) D n154) q0 st.1 st.2.1 st.2.2.1 st.2.2.2.1 st.2.2.2.2.1 st.2.2.2.2.2.1 st.2.2.2.2.2.2.1 st.2.2.2.2.2.2.2.1 st.2.2.2.2.2.2.2.2.1 st.2.2.2.2.2.2.2.2.2.1 st.2.2.2.2.2.2.2.2.2.2=some r) ?_ (fun j1002=>?_)))
   ·rintro ⟨t0,u0,v0,x0,y0,z0,A0,B0,C0,D0,G0⟩ h
    unfold Zda at h
    refine wa J 10 (Z4 (σ:=(List ZT) × ByteArray × (List ByteArray) × (List Z2) × (List ZS) × (List ByteArray) × ByteArray × ByteArray × Int × Int) (fun st=>⟨[(0,.B 0 0),(3,.B 14 0),(5,.B 21 0),(10,.I st.2.2.2.2.2.2.2.2.2),(17,.S 3),(18,.I (c.p'.ZE.length:Int)),(19,.I C),(24,.S 13),(25,.I (D.Zz.length:Int)),(26,.I p0)],[(0,.box [.sl 29,.s st.2.1,.sl 30,.sl 31,.sl 32,.sl 33,.s st.2.2.2.2.2.2.1,.s st.2.2.2.2.2.2.2.1,.I st.2.2.2.2.2.2.2.2.1] 131),(14,.box [.s D.Zt,.sl 12,.sl 13] 64),(21,.box [.I q0.Zw.Zq,.s q0.Zw.Zv,.s q0.Zw.Field,.I q0.Zw.N,.s q0.Op,.I q0.Zx.Zq,.s q0.Zx.Zv,.s q0.Zx.Field,.I q0.Zx.N] 86),(33,.own rS st.2.2.2.2.2.1 false)],((1,.sl Ys c.all')::YS 2 3 4 c.p' (XC 12 13 D [(29,.sl Ys st.1),(30,.sl rS st.2.2.1),(31,.sl YX st.2.2.2.1),(32,.sl Yi st.2.2.2.2.1)])),34⟩) (fun st=>Bc N D p0 (VT N C (WY N c n132) D n154) q0 st.1 st.2.1 st.2.2.1 st.2.2.2.1 st.2.2.2.2.1 st.2.2.2.2.2.1 st.2.2.2.2.2.2.1 st.2.2.2.2.2.2.2.1 st.2.2.2.2.2.2.2.2.1 st.2.2.2.2.2.2.2.2.2=some r) ?_ (fun j1007=>?_))
    ·rintro ⟨H0,I0,L0,M0,O0,R0,S0,U0,V0,X0⟩ h
     unfold Bc at h
     refine wB J 5 h (fun h=>?_) fun h=>?_
     ·exact wO J 26 h fun Y0 Z0 h=>ZR (Wb N (⟨H0,(⟨I0,L0,M0,O0⟩:ZT),R0,(⟨S0,U0,V0⟩:T9)⟩:ZX) D.Zt 11 _ Z0) [] [(0,.bp 0 0),(1,.sl 29),(2,.sl 30),(3,.sl 31),(4,.sl 32),(5,.sl 33)] (wa J 6 (ZO [(15,.sl 34),(16,.sl 35),(17,.sl 36),(18,.sl 37),(19,.sl 38)] (ih945 (Y0.all',Y0.p'.Zt,Y0.p'.ZD,Y0.p'.ZE,Y0.p'.ZF,Y0.calls',Y0.out'.ZL,Y0.out'.Zt,Y0.out'.ZM,(ZN (p0+1))) h)))
     refine ZU J 3 h (fun h=>wa J 25 (ZO [(15,.sl 29),(16,.sl 30),(17,.sl 31),(18,.sl 32),(19,.sl 33)] (ih945 (H0,I0,L0,M0,O0,R0,S0,U0,V0,(ZN (p0+1))) h))) fun h=>?_
     refine wB J 4 h (fun h=>?_) fun h=>?_
     ·exact wO J 19 h fun a1 b1 h=>ZR (Wb N (⟨H0,(⟨I0,L0,M0,O0⟩:ZT),R0,(⟨S0,U0,V0⟩:T9)⟩:ZX) D.Zt 11 _ b1) [] [(0,.bp 0 0),(1,.sl 29),(2,.sl 30),(3,.sl 31),(4,.sl 32),(5,.sl 33)] (wa J 6 (ZO [(15,.sl 34),(16,.sl 35),(17,.sl 36),(18,.sl 37),(19,.sl 38)] (ih945 (a1.all',a1.p'.Zt,a1.p'.ZD,a1.p'.ZE,a1.p'.ZF,a1.calls',a1.out'.ZL,a1.out'.Zt,a1.out'.ZM,(ZN (p0+1))) h)))
     refine wB J 6 h (fun h=>?_) fun h=>?_
     ·exact wO J 13 h fun c1 e1 h=>ZR (Wb N (⟨H0,(⟨I0,L0,M0,O0⟩:ZT),R0,(⟨S0,U0,V0⟩:T9)⟩:ZX) D.Zt 11 _ e1) [] [(0,.bp 0 0),(1,.sl 29),(2,.sl 30),(3,.sl 31),(4,.sl 32),(5,.sl 33)] (wa J 6 (ZO [(15,.sl 34),(16,.sl 35),(17,.sl 36),(18,.sl 37),(19,.sl 38)] (ih945 (c1.all',c1.p'.Zt,c1.p'.ZD,c1.p'.ZE,c1.p'.ZF,c1.calls',c1.out'.ZL,c1.out'.Zt,c1.out'.ZM,(ZN (p0+1))) h)))
     refine ZU J 8 h (fun h=>wa J 7 (ZO [(15,.sl 29),(16,.sl 30),(17,.sl 31),(18,.sl 32),(19,.sl 33)] (ih945 (H0,I0,L0,M0,O0,R0,S0,U0,V0,(ZN (p0+1))) h))) fun h=>?_
     exact wO J 5 h fun g1 i1 h=>ZR (Wb N (⟨H0,(⟨I0,L0,M0,O0⟩:ZT),R0,(⟨S0,U0,V0⟩:T9)⟩:ZX) D.Zt 11 _ i1) [] [(0,.bp 0 0),(1,.sl 29),(2,.sl 30),(3,.sl 31),(4,.sl 32),(5,.sl 33)] (wa J 6 (ZO [(15,.sl 34),(16,.sl 35),(17,.sl 36),(18,.sl 37),(19,.sl 38)] (ih945 (g1.all',g1.p'.Zt,g1.p'.ZD,g1.p'.ZE,g1.p'.ZF,g1.calls',g1.out'.ZL,g1.out'.Zt,g1.out'.ZM,(ZN (p0+1))) h)))
    refine wa J 1 (Ye (σ:=(List ZT) × ByteArray × (List ByteArray) × (List Z2) × (List ZS) × (List ByteArray) × ByteArray × ByteArray × Int × Int × Int) (fun st=>⟨[(0,.B 0 0),(3,.B 14 0),(5,.B 21 0),(7,.B 23 0),(10,.I st.2.2.2.2.2.2.2.2.2.1),(17,.S 3),(18,.I (c.p'.ZE.length:Int)),(19,.I C),(24,.S 13),(25,.I (D.Zz.length:Int)),(26,.I p0),(58,.a [.I q0.Zw.Zq,.s q0.Zw.Zv,.s q0.Zw.Field,.I q0.Zw.N,.I q0.Zx.Zq,.s q0.Zx.Zv,.s q0.Zx.Field,.I q0.Zx.N]),(59,.I st.2.2.2.2.2.2.2.2.2.2)],[(0,.box [.sl 29,.s st.2.1,.sl 30,.sl 31,.sl 32,.sl 33,.s st.2.2.2.2.2.2.1,.s st.2.2.2.2.2.2.2.1,.I st.2.2.2.2.2.2.2.2.1] 131),(14,.box [.s D.Zt,.sl 12,.sl 13] 64),(21,.box [.I q0.Zw.Zq,.s q0.Zw.Zv,.s q0.Zw.Field,.I q0.Zw.N,.s q0.Op,.I q0.Zx.Zq,.s q0.Zx.Zv,.s q0.Zx.Field,.I q0.Zx.N] 86),(23,.box [.I D0,.I G0] 88),(33,.own rS st.2.2.2.2.2.1 false)],((1,.sl Ys c.all')::YS 2 3 4 c.p' (XC 12 13 D [(29,.sl Ys st.1),(30,.sl rS st.2.2.1),(31,.sl YX st.2.2.2.1),(32,.sl Yi st.2.2.2.2.1)])),34⟩) (fun n st=>TH N D p0 (VT N C (WY N c n132) D n154) q0 D0 G0 n st.1 st.2.1 st.2.2.1 st.2.2.2.1 st.2.2.2.2.1 st.2.2.2.2.2.1 st.2.2.2.2.2.2.1 st.2.2.2.2.2.2.2.1 st.2.2.2.2.2.2.2.2.1 st.2.2.2.2.2.2.2.2.2.1 st.2.2.2.2.2.2.2.2.2.2) (r:=r) (fun _=>rfl) ?_ (fun ih=>?_))
    ·intro n157 ih1017
     rintro ⟨k1,l1,m1,o1,p1,q1,s1,t1,u1,v1,x1⟩ h
     unfold TH at h
     refine ZU J 5 h (fun h=>wa J 2 (ZO [] (j1007 (k1,l1,m1,o1,p1,q1,s1,t1,u1,v1) h))) fun h=>?_
     refine wa J 7 (Z4 (σ:=Int × ByteArray × ByteArray × Int) (fun st=>(ZmP l1 s1 t1 u1 D.Zt q0.Zw.Zq q0.Zw.Zv q0.Zw.Field q0.Zw.N q0.Op q0.Zx.Zq q0.Zx.Zv q0.Zx.Field q0.Zx.N D0 G0 q1 st.1 st.2.1 st.2.2.1 st.2.2.2 c.all' c.p' D k1 m1 o1 p1 [(0,.B 0 0),(3,.B 14 0),(5,.B 21 0),(7,.B 23 0),(10,.I v1),(11,.I x1),(12,.B 34 0),(17,.S 3),(18,.I (c.p'.ZE.length:Int)),(19,.I C),(24,.S 13),(25,.I (D.Zz.length:Int)),(26,.I p0),(58,.a [.I q0.Zw.Zq,.s q0.Zw.Zv,.s q0.Zw.Field,.I q0.Zw.N,.I q0.Zx.Zq,.s q0.Zx.Zv,.s q0.Zx.Field,.I q0.Zx.N]),(59,.I x1)])) (fun st=>HA N D D0 G0 k1 l1 m1 o1 p1 q1 s1 t1 u1 v1 x1 (TH N D p0 (VT N C (WY N c n132) D n154) q0 D0 G0 n157) st.1 st.2.1 st.2.2.1 st.2.2.2=some r) ?_ (fun j1023=>?_))
     ·rintro ⟨y1,z1,A1,B1⟩ h
      unfold HA at h
      refine wa J 7 (Z4 (σ:=Bool) (fun st=>(ZmP l1 s1 t1 u1 D.Zt q0.Zw.Zq q0.Zw.Zv q0.Zw.Field q0.Zw.N q0.Op q0.Zx.Zq q0.Zx.Zv q0.Zx.Field q0.Zx.N D0 G0 q1 y1 z1 A1 B1 c.all' c.p' D k1 m1 o1 p1 [(0,.B 0 0),(3,.B 14 0),(5,.B 21 0),(7,.B 23 0),(10,.I v1),(11,.I x1),(12,.B 34 0),(17,.S 3),(18,.I (c.p'.ZE.length:Int)),(19,.I C),(24,.S 13),(25,.I (D.Zz.length:Int)),(26,.I p0),(58,.a [.I q0.Zw.Zq,.s q0.Zw.Zv,.s q0.Zw.Field,.I q0.Zw.N,.I q0.Zx.Zq,.s q0.Zx.Zv,.s q0.Zx.Field,.I q0.Zx.N]),(59,.I x1),(71,.O st)])) (fun st=>Hz N D D0 G0 k1 l1 m1 o1 p1 q1 s1 t1 u1 v1 x1 (TH N D p0 (VT N C (WY N c n132) D n154) q0 D0 G0 n157) y1 st=some r) ?_ (fun j1024=>?_))
      ·intro C1 h
       unfold Hz at h
       refine Z4 (σ:=(List ZT) × ByteArray × (List ByteArray) × (List Z2) × (List ZS) × (List ByteArray) × ByteArray × ByteArray × Int) (fun st=>⟨[(0,.B 0 0),(3,.B 14 0),(5,.B 21 0),(7,.B 23 0),(10,.I v1),(11,.I x1),(12,.B 34 0),(17,.S 3),(18,.I (c.p'.ZE.length:Int)),(19,.I C),(24,.S 13),(25,.I (D.Zz.length:Int)),(26,.I p0),(58,.a [.I q0.Zw.Zq,.s q0.Zw.Zv,.s q0.Zw.Field,.I q0.Zw.N,.I q0.Zx.Zq,.s q0.Zx.Zv,.s q0.Zx.Field,.I q0.Zx.N]),(59,.I x1)],[(0,.box [.sl 35,.s st.2.1,.sl 36,.sl 37,.sl 38,.sl 39,.s st.2.2.2.2.2.2.1,.s st.2.2.2.2.2.2.2.1,.I st.2.2.2.2.2.2.2.2] 131),(14,.box [.s D.Zt,.sl 12,.sl 13] 64),(21,.box [.I q0.Zw.Zq,.s q0.Zw.Zv,.s q0.Zw.Field,.I q0.Zw.N,.s q0.Op,.I q0.Zx.Zq,.s q0.Zx.Zv,.s q0.Zx.Field,.I q0.Zx.N] 86),(23,.box [.I D0,.I G0] 88),(34,.box [.I y1,.s z1,.s A1,.I B1] 76),(39,.own rS st.2.2.2.2.2.1 false)],((1,.sl Ys c.all')::YS 2 3 4 c.p' (XC 12 13 D [(35,.sl Ys st.1),(36,.sl rS st.2.2.1),(37,.sl YX st.2.2.2.1),(38,.sl Yi st.2.2.2.2.1)])),40⟩) (fun st=>Hy D0 G0 v1 x1 (TH N D p0 (VT N C (WY N c n132) D n154) q0 D0 G0 n157) y1 st.1 st.2.1 st.2.2.1 st.2.2.2.1 st.2.2.2.2.1 st.2.2.2.2.2.1 st.2.2.2.2.2.2.1 st.2.2.2.2.2.2.2.1 st.2.2.2.2.2.2.2.2=some r) ?_ (fun j1025=>?_)
       ·rintro ⟨D1,G1,H1,I1,L1,M1,O1,R1,S1⟩ h
        unfold Hy at h
        refine ZU J 6 h (fun h=>wa J 13 (ZO [(29,.sl 35),(30,.sl 36),(31,.sl 37),(32,.sl 38),(33,.sl 39)] (ih1017 (D1,G1,H1,I1,L1,M1,O1,R1,S1,v1,(ZN (x1+1))) h))) fun h=>?_
        obtain ⟨K,h⟩|⟨K,h⟩:=oc h
        ·refine wa J 1 (XI 0 (by exact eq_of_beq K) ?_)
         exact wB J 4 h (fun h=>wa J 11 (ZO [(29,.sl 35),(30,.sl 36),(31,.sl 37),(32,.sl 38),(33,.sl 39)] (ih1017 (D1,G1,H1,I1,L1,M1,O1,R1,S1,(ZN (v1+1)),(ZN (x1+1))) h))) fun h=>wa J 7 (ZO [(29,.sl 35),(30,.sl 36),(31,.sl 37),(32,.sl 38),(33,.sl 39)] (ih1017 (D1,G1,H1,I1,L1,M1,O1,R1,S1,v1,(ZN (x1+1))) h))
        obtain ⟨K,h⟩|⟨K,h⟩:=US h
        ·cases h
        refine wa J 1 (XI 1 (by exact eq_of_beq K) ?_)
        exact wB J 4 h (fun h=>wa J 11 (ZO [(29,.sl 35),(30,.sl 36),(31,.sl 37),(32,.sl 38),(33,.sl 39)] (ih1017 (D1,G1,H1,I1,L1,M1,O1,R1,S1,(ZN (v1+1)),(ZN (x1+1))) h))) fun h=>wa J 7 (ZO [(29,.sl 35),(30,.sl 36),(31,.sl 37),(32,.sl 38),(33,.sl 39)] (ih1017 (D1,G1,H1,I1,L1,M1,O1,R1,S1,v1,(ZN (x1+1))) h))
       refine Xf h (fun h=>wa J 2 (ZO [(35,.sl 29),(36,.sl 30),(37,.sl 31),(38,.sl 32),(39,.sl 33)] (j1025 (k1,l1,m1,o1,p1,q1,s1,t1,u1) h))) fun h=>?_
       exact wO J 5 h fun U1 V1 h=>ZR (Wb N (⟨k1,(⟨l1,m1,o1,p1⟩:ZT),q1,(⟨s1,t1,u1⟩:T9)⟩:ZX) D.Zt 11 _ V1) [] [(0,.bp 0 0),(1,.sl 29),(2,.sl 30),(3,.sl 31),(4,.sl 32),(5,.sl 33)] (wa J 1 (ZO [] (j1025 (U1.all',U1.p'.Zt,U1.p'.ZD,U1.p'.ZE,U1.p'.ZF,U1.calls',U1.out'.ZL,U1.out'.Zt,U1.out'.ZM) h)))
      refine Xf h (fun h=>wa J 6 (ZO [] (j1024 false h))) fun h=>?_
      obtain ⟨K,h⟩|⟨K,h⟩:=oc h
      ·exact wa J 1 (XI 0 (by exact eq_of_beq K) (wa J 4 (ZO [] (j1024 (D0 != 2) h))))
      obtain ⟨K,h⟩|⟨K,h⟩:=oc h
      ·exact wa J 1 (XI 1 (by exact eq_of_beq K) (wa J 4 (ZO [] (j1024 (G0 != 2) h))))
      cases h
     obtain ⟨K,h⟩|⟨K,h⟩:=oc h
     ·exact eAa 0 (by exact eq_of_beq K) (wa J 4 (ZO [] (j1023 (q0.Zw.Zq,q0.Zw.Zv,q0.Zw.Field,q0.Zw.N) h)))
     obtain ⟨K,h⟩|⟨K,h⟩:=oc h
     ·exact eAa 1 (by exact eq_of_beq K) (wa J 4 (ZO [] (j1023 (q0.Zx.Zq,q0.Zx.Zv,q0.Zx.Field,q0.Zx.N) h)))
     cases h
    exact ZO [(29,.sl 24),(30,.sl 25),(31,.sl 26),(32,.sl 27),(33,.sl 28)] (ih N (t0,u0,v0,x0,y0,z0,A0,B0,C0,0,0) h)
   refine wa J 1 (Ye (σ:=(List ZT) × ByteArray × (List ByteArray) × (List Z2) × (List ZS) × (List ByteArray) × ByteArray × ByteArray × Int × Int × Int × Int) (fun st=>(ZmO st.2.1 st.2.2.2.2.2.2.1 st.2.2.2.2.2.2.2.1 st.2.2.2.2.2.2.2.2.1 D.Zt q0.Zw.Zq q0.Zw.Zv q0.Zw.Field q0.Zw.N q0.Op q0.Zx.Zq q0.Zx.Zv q0.Zx.Field q0.Zx.N st.2.2.2.2.2.2.2.2.2.1 st.2.2.2.2.2.2.2.2.2.2.1 st.2.2.2.2.2.1 c.all' c.p' D st.1 st.2.2.1 st.2.2.2.1 st.2.2.2.2.1 [(0,.B 0 0),(3,.B 14 0),(5,.B 21 0),(6,.B 22 0),(7,.B 23 0),(17,.S 3),(18,.I (c.p'.ZE.length:Int)),(19,.I C),(24,.S 13),(25,.I (D.Zz.length:Int)),(26,.I p0),(35,.a [.I q0.Zw.Zq,.s q0.Zw.Zv,.s q0.Zw.Field,.I q0.Zw.N,.I q0.Zx.Zq,.s q0.Zx.Zv,.s q0.Zx.Field,.I q0.Zx.N]),(36,.I st.2.2.2.2.2.2.2.2.2.2.2)])) (fun n st=>Sx N D p0 (VT N C (WY N c n132) D n154) q0 n st.1 st.2.1 st.2.2.1 st.2.2.2.1 st.2.2.2.2.1 st.2.2.2.2.2.1 st.2.2.2.2.2.2.1 st.2.2.2.2.2.2.2.1 st.2.2.2.2.2.2.2.2.1 st.2.2.2.2.2.2.2.2.2.1 st.2.2.2.2.2.2.2.2.2.2.1 st.2.2.2.2.2.2.2.2.2.2.2) (r:=r) (fun _=>rfl) ?_ (fun ih=>?_))
   ·intro n158 ih1026
    rintro ⟨X1,Y1,Z1,a2,b2,c2,e2,g2,i2,j2,k2,l2⟩ h
    unfold Sx at h
    refine ZU J 5 h (fun h=>wa J 2 (ZO [] (j1002 (X1,Y1,Z1,a2,b2,c2,e2,g2,i2,j2,k2) h))) fun h=>?_
    refine wa J 7 (Z4 (σ:=Int × ByteArray × ByteArray × Int) (fun st=>⟨[(0,.B 0 0),(3,.B 14 0),(5,.B 21 0),(6,.B 22 0),(7,.B 23 0),(8,.I l2),(9,.B 29 0),(17,.S 3),(18,.I (c.p'.ZE.length:Int)),(19,.I C),(24,.S 13),(25,.I (D.Zz.length:Int)),(26,.I p0),(35,.a [.I q0.Zw.Zq,.s q0.Zw.Zv,.s q0.Zw.Field,.I q0.Zw.N,.I q0.Zx.Zq,.s q0.Zx.Zv,.s q0.Zx.Field,.I q0.Zx.N]),(36,.I l2)],[(0,.box [.sl 24,.s Y1,.sl 25,.sl 26,.sl 27,.sl 28,.s e2,.s g2,.I i2] 131),(14,.box [.s D.Zt,.sl 12,.sl 13] 64),(21,.box [.I q0.Zw.Zq,.s q0.Zw.Zv,.s q0.Zw.Field,.I q0.Zw.N,.s q0.Op,.I q0.Zx.Zq,.s q0.Zx.Zv,.s q0.Zx.Field,.I q0.Zx.N] 86),(22,.box [.I q0.Zw.Zq,.s q0.Zw.Zv,.s q0.Zw.Field,.I q0.Zw.N,.I q0.Zx.Zq,.s q0.Zx.Zv,.s q0.Zx.Field,.I q0.Zx.N] 200),(23,.box [.I j2,.I k2] 88),(28,.own rS c2 false),(29,.box [.I st.1,.s st.2.1,.s st.2.2.1,.I st.2.2.2] 76)],((1,.sl Ys c.all')::YS 2 3 4 c.p' (XC 12 13 D [(24,.sl Ys X1),(25,.sl rS Z1),(26,.sl YX a2),(27,.sl Yi b2)])),30⟩) (fun st=>Hx N D X1 Y1 Z1 a2 b2 c2 e2 g2 i2 j2 k2 l2 (Sx N D p0 (VT N C (WY N c n132) D n154) q0 n158) st.1 st.2.1 st.2.2.1 st.2.2.2=some r) ?_ (fun j1029=>?_))
    ·rintro ⟨m2,o2,p2,q2⟩ h
     unfold Hx at h
     refine wB J 7 h (fun h=>wa J 6 (ZO [] (ih1026 (X1,Y1,Z1,a2,b2,c2,e2,g2,i2,j2,k2,(ZN (l2+1))) h))) fun h=>?_
     refine wO J 8 h fun s2 t2 h=>XA (ZsW N (⟨X1,(⟨Y1,Z1,a2,b2⟩:ZT),c2,(⟨e2,g2,i2⟩:T9)⟩:ZX) D (⟨m2,o2,p2,q2⟩:Yq) _ t2) [] [(0,.bp 0 0),(1,.sl 24),(2,.sl 25),(3,.sl 26),(4,.sl 27),(5,.sl 28),(6,.sl 12),(7,.sl 13)] [28] (.inr ⟨rfl,trivial⟩) ?_
     obtain ⟨K,h⟩|⟨K,h⟩:=oc h
     ·refine XI 0 (by exact eq_of_beq K) ?_
      obtain ⟨K,h⟩|⟨K,h⟩:=oc h
      ·refine wa J 5 (XI 0 (by exact eq_of_beq K) ?_)
       refine ZU J 3 h (fun h=>wa J 7 (ZO [] (ih1026 (X1,Y1,Z1,a2,b2,c2,e2,g2,i2,s2,k2,(ZN (l2+1))) h))) fun h=>?_
       exact wO J 5 h fun u2 v2 h=>ZR (Wb N (⟨X1,(⟨Y1,Z1,a2,b2⟩:ZT),c2,(⟨e2,g2,i2⟩:T9)⟩:ZX) D.Zt 10 _ v2) [] [(0,.bp 0 0),(1,.sl 24),(2,.sl 25),(3,.sl 26),(4,.sl 27),(5,.sl 28)] (wa J 6 (ZO [(24,.sl 30),(25,.sl 31),(26,.sl 32),(27,.sl 33),(28,.sl 34)] (ih1026 (u2.all',u2.p'.Zt,u2.p'.ZD,u2.p'.ZE,u2.p'.ZF,u2.calls',u2.out'.ZL,u2.out'.Zt,u2.out'.ZM,s2,k2,(ZN (l2+1))) h)))
      obtain ⟨K,h⟩|⟨K,h⟩:=US h
      ·cases h
      refine wa J 5 (XI 1 (by exact eq_of_beq K) ?_)
      refine ZU J 3 h (fun h=>wa J 7 (ZO [] (ih1026 (X1,Y1,Z1,a2,b2,c2,e2,g2,i2,s2,k2,(ZN (l2+1))) h))) fun h=>?_
      exact wO J 5 h fun x2 y2 h=>ZR (Wb N (⟨X1,(⟨Y1,Z1,a2,b2⟩:ZT),c2,(⟨e2,g2,i2⟩:T9)⟩:ZX) D.Zt 10 _ y2) [] [(0,.bp 0 0),(1,.sl 24),(2,.sl 25),(3,.sl 26),(4,.sl 27),(5,.sl 28)] (wa J 6 (ZO [(24,.sl 30),(25,.sl 31),(26,.sl 32),(27,.sl 33),(28,.sl 34)] (ih1026 (x2.all',x2.p'.Zt,x2.p'.ZD,x2.p'.ZE,x2.p'.ZF,x2.calls',x2.out'.ZL,x2.out'.Zt,x2.out'.ZM,s2,k2,(ZN (l2+1))) h)))
     obtain ⟨K,h⟩|⟨K,h⟩:=US h
     ·cases h
     refine XI 1 (by exact eq_of_beq K) ?_
     obtain ⟨K,h⟩|⟨K,h⟩:=oc h
     ·refine wa J 5 (XI 0 (by exact eq_of_beq K) ?_)
      refine ZU J 3 h (fun h=>wa J 7 (ZO [] (ih1026 (X1,Y1,Z1,a2,b2,c2,e2,g2,i2,j2,s2,(ZN (l2+1))) h))) fun h=>?_
      exact wO J 5 h fun z2 A2 h=>ZR (Wb N (⟨X1,(⟨Y1,Z1,a2,b2⟩:ZT),c2,(⟨e2,g2,i2⟩:T9)⟩:ZX) D.Zt 10 _ A2) [] [(0,.bp 0 0),(1,.sl 24),(2,.sl 25),(3,.sl 26),(4,.sl 27),(5,.sl 28)] (wa J 6 (ZO [(24,.sl 30),(25,.sl 31),(26,.sl 32),(27,.sl 33),(28,.sl 34)] (ih1026 (z2.all',z2.p'.Zt,z2.p'.ZD,z2.p'.ZE,z2.p'.ZF,z2.calls',z2.out'.ZL,z2.out'.Zt,z2.out'.ZM,j2,s2,(ZN (l2+1))) h)))
     obtain ⟨K,h⟩|⟨K,h⟩:=US h
     ·cases h
     refine wa J 5 (XI 1 (by exact eq_of_beq K) ?_)
     refine ZU J 3 h (fun h=>wa J 7 (ZO [] (ih1026 (X1,Y1,Z1,a2,b2,c2,e2,g2,i2,j2,s2,(ZN (l2+1))) h))) fun h=>?_
     exact wO J 5 h fun B2 C2 h=>ZR (Wb N (⟨X1,(⟨Y1,Z1,a2,b2⟩:ZT),c2,(⟨e2,g2,i2⟩:T9)⟩:ZX) D.Zt 10 _ C2) [] [(0,.bp 0 0),(1,.sl 24),(2,.sl 25),(3,.sl 26),(4,.sl 27),(5,.sl 28)] (wa J 6 (ZO [(24,.sl 30),(25,.sl 31),(26,.sl 32),(27,.sl 33),(28,.sl 34)] (ih1026 (B2.all',B2.p'.Zt,B2.p'.ZD,B2.p'.ZE,B2.p'.ZF,B2.calls',B2.out'.ZL,B2.out'.Zt,B2.out'.ZM,j2,s2,(ZN (l2+1))) h)))
    obtain ⟨K,h⟩|⟨K,h⟩:=oc h
    ·exact eAa 0 (by exact eq_of_beq K) (wa J 4 (ZO [] (j1029 (q0.Zw.Zq,q0.Zw.Zv,q0.Zw.Field,q0.Zw.N) h)))
    obtain ⟨K,h⟩|⟨K,h⟩:=oc h
    ·exact eAa 1 (by exact eq_of_beq K) (wa J 4 (ZO [] (j1029 (q0.Zx.Zq,q0.Zx.Zv,q0.Zx.Field,q0.Zx.N) h)))
    cases h
   exact ZO [(24,.sl 15),(25,.sl 16),(26,.sl 17),(27,.sl 18),(28,.sl 19)] (ih N (c0,e0,g0,i0,j0,k0,l0,m0,o0,0,0,0) h)
  exact ZO [(15,.sl 6),(16,.sl 7),(17,.sl 8),(18,.sl 9),(19,.sl 10)] (ih N (o,p,q,u,v,x,y,z,A,0) h)
 exact ZO [(6,.sl 1),(7,.sl 2),(8,.sl 3),(9,.sl 4),(10,.sl 5)] (ih N (c.all',c.p'.Zt,c.p'.ZD,c.p'.ZE,c.p'.ZF,c.calls',c.out'.ZL,c.out'.Zt,c.out'.ZM,0) h)
theorem Zs6 (N:Nat) (c:ZT) (d:ZT) (r:Bool) (h:Zbc N c d=some r) :
 Fn Tryz.prog 115 ⟨7,[.a [.s c.Zt,.sl 0,.sl 1,.sl 2],.B 3 0],(YS 0 1 2 c (YS 4 5 6 d [])),[(3,.box [.s d.Zt,.sl 4,.sl 5,.sl 6] 37)],7,.O r,[],[(3,.box [.s d.Zt,.sl 4,.sl 5,.sl 6] 37)]⟩:=by
 refine Z5 func115 rfl (fun E F w=>?_)
 unfold Zbc at h
 exact oi h▸wr J 14 func115 []
theorem ZsQ (N:Nat) (d:(List ZT)) (e:ZT) (r:Int) (h:GS N d e=some r) :
 Fn Tryz.prog 101 ⟨5,[.S 0,.c (.cl 115 [] [1])],((0,.sl Ys d)::YS 2 3 4 e []),[(1,.box [.s e.Zt,.sl 2,.sl 3,.sl 4] 37)],5,.I r,[],[(1,.box [.s e.Zt,.sl 2,.sl 3,.sl 4] 37)]⟩:=by
 refine Z5 func101 rfl (fun E F w=>?_)
 unfold GS at h
 refine wa J 11 (Z4 (σ:=Unit) (fun st=>(ZdV e.Zt d e [])) (fun st=>Za3=some r) ?_ (fun j1=>?_))
 ·intro _ h
  unfold Za3 at h
  exact oi h▸wr J 4 func101 []
 refine wa J 1 (Ye (σ:=Int) (fun st=>(ZdV e.Zt d e [(0,.S 0),(1,.c (.cl 115 [] [1])),(7,.I (d.length:Int)),(8,.I st)])) (fun n st=>Ph N d e n st) (r:=r) (fun _=>rfl) ?_ (fun ih=>?_))
 ·intro n2 ih3
  intro f h
  unfold Ph at h
  refine ZU J 5 h (fun h=>wa J 2 (ZO [] (j1 () h))) fun h=>?_
  refine wO J 14 h fun g i h=>Ya J Vp i ?_
  refine wO J 1 h fun j k h=>ZR (Zs6 N g e _ k) [] [(0,.sl 6),(1,.sl 7),(2,.sl 8),(3,.bp 1 0),(4,.sl 2),(5,.sl 3),(6,.sl 4)] ?_
  exact wB J 1 h (fun h=>oi h▸wr J 6 func101 []) fun h=>wa J 7 (ZO [] (ih3 (ZN (f+1)) h))
 exact ZO [] (ih N 0 h)
theorem Zs7 (N:Nat) (rc:(List ZS)->Option (List ByteArray)) (rcT:(∀ (c:(List ZS)) (r:(List ByteArray)),rc c=some r->Fn Tryz.prog 116 ⟨1,[.S 0],[(0,.sl Yi c)],[],2,.S 1,[],[(1,.own rS r true)]⟩)) (c:(List ZS)) (r:(List ByteArray)) (h:G5 N rc c=some r) :
 Fn Tryz.prog 116 ⟨1,[.S 0],[(0,.sl Yi c)],[],2,.S 1,[],[(1,.own rS r true)]⟩:=by
 refine Z5 func116 rfl (fun E F w=>?_)
 unfold G5 at h
 refine wa J 15 (Z4 (σ:=(List ByteArray)) (fun st=>⟨[(3,.S 1)],[(1,.own rS st true)],[(0,.sl Yi c)],2⟩) (fun st=>Zbd st=some r) ?_ (fun j1=>?_))
 ·intro d h
  unfold Zbd at h
  exact oi h▸wr J 5 func116 [(1,.sl 1)]
 refine wa J 1 (Ye (σ:=(List ByteArray) × Int) (fun st=>⟨[(3,.S 1),(8,.S 0),(9,.I (c.length:Int)),(10,.I st.2)],[(1,.own rS st.1 true)],[(0,.sl Yi c)],2⟩) (fun n st=>Tz N rc c n st.1 st.2) (r:=r) (fun _=>rfl) ?_ (fun ih=>?_))
 ·intro n12 ih15
  rintro ⟨e,f⟩ h
  unfold Tz at h
  refine ZU J 5 h (fun h=>wa J 2 (ZO [] (j1 e h))) fun h=>?_
  refine wO J 6 h fun g i h=>Ya J Q4 i (wa J 11 (Z4 (σ:=(List ByteArray)) (fun st=>⟨[(3,.S 6),(5,.B 5 0),(8,.S 0),(9,.I (c.length:Int)),(10,.I f)],[(5,.box [.I g.Zq,.s g.ZA,.sl 3,.s g.Zt,.s g.As,.I g.ZB,.sl 4] 140),(6,.own rS st true)],[(0,.sl Yi c),(3,.sl rS g.To),(4,.sl (Yx Yi) g.ZC)],7⟩) (fun st=>LG N rc f (Tz N rc c n12) g st=some r) ?_ (fun j24=>?_)))
  ·intro j h
   unfold LG at h
   refine wa J 7 (Z4 (σ:=(List ByteArray)) (fun st=>⟨[(3,.S 7),(8,.S 0),(9,.I (c.length:Int)),(10,.I f)],[(7,.own rS st true)],[(0,.sl Yi c)],8⟩) (fun st=>Zbe f (Tz N rc c n12) st=some r) ?_ (fun j25=>?_))
   ·intro k h
    unfold Zbe at h
    exact wa J 5 (ZO [(1,.sl 7)] (ih15 (k,(ZN (f+1))) h))
   refine wa J 1 (Ye (σ:=(List ByteArray) × Int) (fun st=>⟨[(3,.S 7),(8,.S 0),(9,.I (c.length:Int)),(10,.I f),(23,.S 4),(24,.I (g.ZC.length:Int)),(25,.I st.2)],[(7,.own rS st.1 true)],[(0,.sl Yi c),(4,.sl (Yx Yi) g.ZC)],8⟩) (fun n st=>Pq rc f (Tz N rc c n12) g n st.1 st.2) (r:=r) (fun _=>rfl) ?_ (fun ih=>?_))
   ·intro n14 ih27
    rintro ⟨l,m⟩ h
    unfold Pq at h
    refine ZU J 5 h (fun h=>wa J 2 (ZO [] (j25 l h))) fun h=>?_
    refine wO J 6 h fun o p h=>Ya J (Y8 Yi) p ?_
    refine wO J 6 h fun q t h=>ZR (rcT o _ t) [] [(0,.sl 9)] ?_
    have ⟨u,v,h⟩:=ob h
    exact YR J rS v (wa J 7 (ZO [(7,.sl 11)] (ih27 (u,(ZN (m+1))) h)))
   exact ZO [(7,.sl 6)] (ih N (j,0) h)
  refine Xf h (fun h=>wa J 2 (ZO [(6,.sl 1)] (j24 e h))) fun h=>wa J 5 (Yy J [] oS ([g.Zt]:List ByteArray) ?_)
  have ⟨x,y,h⟩:=ob h
  exact YR J rS y (wa J 2 (ZO [(6,.sl 7)] (j24 x h)))
 exact ZO [(1,.nil)] (ih N (([]:List ByteArray),0) h)
theorem Zs9:∀ (N:Nat) (c:(List ZS)) (r:(List ByteArray)) (h:Zbf N c=some r),Fn Tryz.prog 116 ⟨1,[.S 0],[(0,.sl Yi c)],[],2,.S 1,[],[(1,.own rS r true)]⟩:=by
 intro N
 induction N with
 | zero=>intros;rename_i h;cases h
 | succ N ih=>intro c r h;exact Zs7 N (Zbf N) ih c r h
theorem Zs8 (N:Nat) (c:(List ZS)) (r:(List ByteArray)) (h:Pp N c=some r):Fn Tryz.prog 116 ⟨1,[.S 0],[(0,.sl Yi c)],[],2,.S 1,[],[(1,.own rS r true)]⟩:=Zs9 N c r h
theorem Zta (N:Nat) (c:List ByteArray) (r:List ByteArray) (h:Zbg N c=some r):Fn Tryz.prog 117 ⟨1,[.S 0],[],[(0,.own rS c false)],1,.t [],[],[(0,.own rS r false)]⟩:=by
 unfold Zbg at h
 cases hb:(decide ((c.length:Int)<=4611686018427387903)) with
 | false=>rw [hb] at h;cases h
 | true =>
  rw [hb] at h
  simp only [cond_true,Option.some.injEq] at h
  subst h
  simp only [decide_eq_true_eq] at hb
  exact Zsj c (by omega)
theorem Ztb (N:Nat) (c:List ByteArray) (r:List ByteArray) (h:Zbh N c=some r):Fn Tryz.prog 118 ⟨1,[.S 0],[],[(0,.own rS c false)],2,.S 1,[],[(1,.own rS r false),(0,.gone)]⟩:=by
 unfold Zbh at h
 cases hb:(decide ((c.length:Int)<=4611686018427387903)) with
 | false=>rw [hb] at h;cases h
 | true =>
  rw [hb] at h
  simp only [cond_true,Option.some.injEq] at h
  subst h
  simp only [decide_eq_true_eq] at hb
  exact Zn2 c (by omega)
theorem Zte (N:Nat) (c:ZT) (d:ByteArray) (r:Bool) (h:Zbl N c d=some r) :
 Fn Tryz.prog 121 ⟨4,[.a [.s c.Zt,.sl 0,.sl 1,.sl 2],.B 3 0],(YS 0 1 2 c []),[(3,.box [.s d] 9)],4,.O r,[],[(3,.box [.s d] 9)]⟩:=by
 refine Z5 func121 rfl (fun E F w=>?_)
 unfold Zbl at h
 exact oi h▸wr J 13 func121 []
theorem ZsR (N:Nat) (d:(List ZT)) (e:ByteArray) (r:Int) (h:GU N d e=some r) :
 Fn Tryz.prog 101 ⟨2,[.S 0,.c (.cl 121 [] [1])],[(0,.sl Ys d)],[(1,.box [.s e] 9)],2,.I r,[],[(1,.box [.s e] 9)]⟩:=by
 refine Z5 func101 rfl (fun E F w=>?_)
 unfold GU at h
 refine wa J 11 (Z4 (σ:=Unit) (fun st=>⟨[],[(1,.box [.s e] 9)],[(0,.sl Ys d)],2⟩) (fun st=>Za4=some r) ?_ (fun j1=>?_))
 ·intro _ h
  unfold Za4 at h
  exact oi h▸wr J 4 func101 []
 refine wa J 1 (Ye (σ:=Int) (fun st=>⟨[(0,.S 0),(1,.c (.cl 121 [] [1])),(7,.I (d.length:Int)),(8,.I st)],[(1,.box [.s e] 9)],[(0,.sl Ys d)],2⟩) (fun n st=>Pi N d e n st) (r:=r) (fun _=>rfl) ?_ (fun ih=>?_))
 ·intro n2 ih3
  intro f h
  unfold Pi at h
  refine ZU J 5 h (fun h=>wa J 2 (ZO [] (j1 () h))) fun h=>?_
  refine wO J 14 h fun g i h=>Ya J Vp i ?_
  refine wO J 1 h fun j k h=>ZR (Zte N g e _ k) [] [(0,.sl 3),(1,.sl 4),(2,.sl 5),(3,.bp 1 0)] ?_
  exact wB J 1 h (fun h=>oi h▸wr J 6 func101 []) fun h=>wa J 7 (ZO [] (ih3 (ZN (f+1)) h))
 exact ZO [] (ih N 0 h)
theorem ZuT (N:Nat) (d:(List ZT)) (e:ByteArray) (r:Bool) (h:D5 N d e=some r) :
 Fn Tryz.prog 43 ⟨2,[.S 0,.c (.cl 121 [] [1])],[(0,.sl Ys d)],[(1,.box [.s e] 9)],2,.O r,[],[(1,.box [.s e] 9)]⟩:=by
 refine Z5 func43 rfl (fun E F w=>?_)
 unfold D5 at h
 refine wO J 8 h fun f g h=>ZR (ZsR N d e _ g) [] [(0,.sl 0),(1,.bp 1 0)] ?_
 exact oi h▸wr J 3 func43 []
theorem ZlT (N:Nat) (d:ByteArray) (e:ZX) (r:Bool) (h:Pr N d e=some r) :
 Fn Tryz.prog 120 ⟨7,[.c (.s d),.B 6 0],(Pc 1 2 3 4 5 e []),[(0,.box (Xw 1 2 3 4 5 e) 131),(6,.box [.bp 0 0] 129)],7,.O r,[],[(0,.box (Xw 1 2 3 4 5 e) 131),(6,.box [.bp 0 0] 129)]⟩:=by
 refine Z5 func120 rfl (fun E F w=>?_)
 unfold Pr at h
 refine wO J 12 h fun f g h=>ZR (ZuT N e.all' d _ g) [] [(0,.sl 1),(1,.bp 7 0)] ?_
 exact oi h▸wr J 3 func120 []
theorem Zt3 (N:Nat) (d:(List ByteArray)) (e:ZX) (r:Int) (h:DA N d e=some r) :
 Fn Tryz.prog 178 ⟨8,[.S 0,.c (.cl 120 [] [7])],((0,.sl rS d)::Pc 2 3 4 5 6 e []),[(1,.box (Xw 2 3 4 5 6 e) 131),(7,.box [.bp 1 0] 129)],8,.I r,[],[(1,.box (Xw 2 3 4 5 6 e) 131),(7,.box [.bp 1 0] 129)]⟩:=by
 refine Z5 func178 rfl (fun E F w=>?_)
 unfold DA at h
 refine wa J 11 (Z4 (σ:=Unit) (fun st=>(ZmQ e d [])) (fun st=>Zcb=some r) ?_ (fun j1=>?_))
 ·intro _ h
  unfold Zcb at h
  exact oi h▸wr J 4 func178 []
 refine wa J 1 (Ye (σ:=Int) (fun st=>(ZmQ e d [(0,.S 0),(1,.c (.cl 120 [] [7])),(7,.I (d.length:Int)),(8,.I st)])) (fun n st=>PP N d e n st) (r:=r) (fun _=>rfl) ?_ (fun ih=>?_))
 ·intro n2 ih3
  intro f h
  unfold PP at h
  refine ZU J 5 h (fun h=>wa J 2 (ZO [] (j1 () h))) fun h=>?_
  refine wO J 14 h fun g i h=>Ya J oS i ?_
  refine wO J 1 h fun j k h=>ZR (ZlT N g e _ k) [] [(0,.bp 1 0),(1,.sl 2),(2,.sl 3),(3,.sl 4),(4,.sl 5),(5,.sl 6),(6,.bp 7 0)] ?_
  exact wB J 1 h (fun h=>oi h▸wr J 6 func178 []) fun h=>wa J 7 (ZO [] (ih3 (ZN (f+1)) h))
 exact ZO [] (ih N 0 h)
theorem Ztc (N:Nat) (d:(List ByteArray)) (e:ZX) (r:(List ByteArray)) (h:G6 N d e=some r) :
 Fn Tryz.prog 119 ⟨8,[.S 0,.c (.cl 120 [] [7])],(Pc 2 3 4 5 6 e []),[(0,.own rS d false),(1,.box (Xw 2 3 4 5 6 e) 131),(7,.box [.bp 1 0] 129)],9,.S 8,[],[(8,.own rS r false),(0,.gone),(1,.box (Xw 2 3 4 5 6 e) 131),(7,.box [.bp 1 0] 129)]⟩:=by
 refine Z5 func119 rfl (fun E F w=>?_)
 unfold G6 at h
 refine wO J 8 h fun f g h=>XA (Zt3 N d e _ g) [] [(0,.sl 0),(1,.bp 1 0),(2,.sl 2),(3,.sl 3),(4,.sl 4),(5,.sl 5),(6,.sl 6),(7,.bp 7 0)] [0] (.inr ⟨rfl,trivial⟩) ?_
 refine wB J 8 h (fun h=>oi h▸wr J 6 func119 [(8,.sl 0)]) fun h=>wa J 9 (Z4 (σ:=(List ByteArray) × Int) (fun st=>(ZmR st.1 e [(0,.S 0),(5,.I st.2)])) (fun st=>Zbi st.1 st.2=some r) ?_ (fun j1=>?_))
 ·rintro ⟨i,j⟩ h
  unfold Zbi at h
  refine wO J 4 h fun k l h=>Gg J rS l ?_
  have ⟨m,o,h⟩:=ob h
  refine eCe J o ?_
  refine wO J 5 h fun p q h=>Gg J rS q (wa J 2 (eSl rS 9 q ?_))
  cases h
  exact Y2 J func119 [(8,.sl 9)]
 refine wa J 1 (Ye (σ:=(List ByteArray) × Int × Int) (fun st=>(ZmR st.1 e [(0,.S 0),(1,.c (.cl 120 [] [7])),(5,.I st.2.1),(6,.I st.2.2)])) (fun n st=>R6 N e n st.1 st.2.1 st.2.2) (r:=r) (fun _=>rfl) ?_ (fun ih=>?_))
 ·intro n2 ih3
  rintro ⟨s,t,u⟩ h
  unfold R6 at h
  refine ZU J 8 h (fun h=>wa J 2 (ZO [] (j1 (s,t) h))) fun h=>?_
  refine wO J 8 h fun v x h=>Y7 J rS x (We J oS x ?_)
  refine wO J 6 h fun y z h=>ZR (ZlT N v e _ z) [] [(0,.bp 1 0),(1,.sl 2),(2,.sl 3),(3,.sl 4),(4,.sl 5),(5,.sl 6),(6,.bp 7 0)] ?_
  refine ZU J 2 h (fun h=>wa J 8 (ZO [] (ih3 (s,t,(ZN (u+1))) h))) fun h=>?_
  exact wO J 6 h fun A C h=>Y7 J rS C (WL J [] oS v C (wa J 12 (ZO [] (ih3 ((YQ s t v),(ZN (t+1)),(ZN (u+1))) h))))
 exact ZO [] (ih N (d,f,(ZN (f+1))) h)
theorem Zu0 (N:Nat) (c:ZX) (r:ZX) (h:Bh N c=some r) :
 Fn Tryz.prog 50 ⟨6,[.B 0 0],((1,.sl Ys c.all')::YS 2 3 4 c.p' []),[(0,.box (Xw 1 2 3 4 5 c) 131),(5,.own rS c.calls' false)],11,.t [],((6,.sl Ys r.all')::YS 7 8 9 r.p' []),[(5,.gone),(10,.own rS r.calls' false),(0,.box (Xw 6 7 8 9 10 r) 131)]⟩:=by
 refine Z5 func50 rfl (fun E F w=>?_)
 unfold Bh at h
 refine wa J 11 (Yy J [] oS ([c.p'.Zt]:List ByteArray) (wa J 7 (Z4 (σ:=(List ByteArray)) (fun st=>(ZmS c c.calls' st c.all' c.p' [(1,.B 6 0),(2,.S 8)])) (fun st=>Zdc N c st=some r) ?_ (fun j1=>?_))))
 ·intro d h
  unfold Zdc at h
  refine ZU J 6 h (fun h=>oi h▸wr J 2 func50 [(6,.sl 1),(7,.sl 2),(8,.sl 3),(9,.sl 4),(10,.sl 5)]) fun h=>?_
  refine wO J 8 h fun e f h=>ZR (Wb N c c.p'.Zt 6 _ f) [] [(0,.bp 0 0),(1,.sl 1),(2,.sl 2),(3,.sl 3),(4,.sl 4),(5,.sl 5)] (Yn ?_)
  cases h
  exact Y2 J func50 [(6,.sl 9),(7,.sl 10),(8,.sl 11),(9,.sl 12),(10,.sl 13)]
 refine wa J 1 (Ye (σ:=(List ByteArray) × Int) (fun st=>(ZmS c c.calls' st.1 c.all' c.p' [(1,.B 6 0),(2,.S 8),(13,.I st.2)])) (fun n st=>Sy N c n st.1 st.2) (r:=r) (fun _=>rfl) ?_ (fun ih=>?_))
 ·intro n12 ih12
  rintro ⟨g,i⟩ h
  unfold Sy at h
  refine ZU J 5 h (fun h=>wa J 2 (ZO [] (j1 g h))) fun h=>wa J 18 (Z4 (σ:=(List ByteArray)) (fun st=>⟨[(1,.B 6 0),(3,.S 9),(13,.I i)],[(0,.box (Xw 1 2 3 4 5 c) 131),(5,.own rS c.calls' false),(6,.box [.bp 0 0] 129),(9,.own rS st true)],((1,.sl Ys c.all')::YS 2 3 4 c.p' []),10⟩) (fun st=>HC N c i (Sy N c n12) st=some r) ?_ (fun j19=>?_))
  ·intro j h
   unfold HC at h
   refine wO J 3 h fun k l h=>ZR (Zta N j _ l) [] [(0,.sl 9)] ?_
   refine wO J 4 h fun m o h=>ZR (Ztb N k _ o) [] [(0,.sl 9)] ?_
   exact wO J 5 h fun p q h=>XA (Ztc N m c _ q) [] [(0,.sl 10),(1,.bp 0 0),(2,.sl 1),(3,.sl 2),(4,.sl 3),(5,.sl 4),(6,.sl 5),(7,.bp 6 0)] [5] (.inr ⟨rfl,⟨Zfs,trivial⟩⟩) (wa J 7 (ZO [(8,.sl 11)] (ih12 (p,(ZN (i+1))) h)))
  refine wa J 1 (Ye (σ:=(List ByteArray) × Int) (fun st=>⟨[(1,.B 6 0),(2,.S 8),(3,.S 9),(13,.I i),(18,.S 1),(19,.I (c.all'.length:Int)),(20,.I st.2)],[(0,.box (Xw 1 2 3 4 5 c) 131),(5,.own rS c.calls' false),(6,.box [.bp 0 0] 129),(8,.own rS g true),(9,.own rS st.1 true)],((1,.sl Ys c.all')::YS 2 3 4 c.p' []),10⟩) (fun n st=>TI N c g i (Sy N c n12) n st.1 st.2) (r:=r) (fun _=>rfl) ?_ (fun ih=>?_))
  ·intro n14 ih21
   rintro ⟨s,u⟩ h
   unfold TI at h
   refine ZU J 5 h (fun h=>wa J 2 (ZO [] (j19 s h))) fun h=>?_
   refine wO J 7 h fun v x h=>Ya J Vp x ?_
   refine wO J 12 h fun y z h=>ZR (ZsQ N c.all' v _ z) [] [(0,.sl 1),(1,.bp 14 0),(2,.sl 11),(3,.sl 12),(4,.sl 13)] ?_
   refine ZU J 8 h (fun h=>wa J 13 (ZO [] (ih21 (s,(ZN (u+1))) h))) fun h=>?_
   refine wO J 3 h fun A C h=>XA (R5 N g v.Zt _ C) [] [(0,.sl 8)] [8] (.inr ⟨rfl,trivial⟩) ?_
   refine ZU J 2 h (fun h=>wa J 7 (ZO [] (ih21 (s,(ZN (u+1))) h))) fun h=>?_
   refine wO J 5 h fun D G h=>ZR (Zs8 N v.ZF _ G) [] [(0,.sl 13)] ?_
   have ⟨H,R,h⟩:=ob h
   exact YR J rS R (wa J 7 (ZO [(9,.sl 16)] (ih21 (H,(ZN (u+1))) h)))
  exact ZO [(9,.nil)] (ih N (([]:List ByteArray),0) h)
 exact ZO [(8,.sl 7)] (ih N (([c.p'.Zt]:List ByteArray),0) h)
theorem ZtL (N:Nat) (c:(List ZT)) (r:T9) (h:PG N c=some r) :
 Fn Tryz.prog 15 ⟨2,[.S 0],[(0,.sl Ys c)],[(1,.abs powT)],2,.a (cC9 r),[],[(1,.abs powT)]⟩:=by
 refine Z5 func15 rfl (fun E F w=>?_)
 unfold PG at h
 refine wO J 8 h fun d e h=>ZR (Zmh N c _ e) [] [(0,.sl 0),(1,.sl 1)] ?_
 refine wB J 2 h (fun h=>oi h▸wr J 6 func15 []) fun h=>wa J 9 (Z4 (σ:=Unit) (fun st=>(ZmT powT c [(2,.B 2 0)])) (fun st=>Zgj=some r) ?_ (fun j1=>?_))
 ·intro _ h
  unfold Zgj at h
  exact oi h▸wr J 5 func15 []
 refine wa J 1 (Ye (σ:=Int) (fun st=>(ZmT powT c [(0,.S 0),(2,.B 2 0),(11,.S 0),(12,.I (c.length:Int)),(13,.I st)])) (fun n st=>Ua N c n st) (r:=r) (fun _=>rfl) ?_ (fun ih=>?_))
 ·intro n12 ih15
  intro f h
  unfold Ua at h
  refine ZU J 5 h (fun h=>wa J 2 (ZO [] (j1 () h))) fun h=>?_
  refine wO J 7 h fun g i h=>Ya J Vp i ?_
  refine wO J 18 h fun j k h=>SU J Ys k ?_
  refine wO J 1 h fun l m h=>ZR (ZuS N j g _ m) [] [(0,.sl 9),(1,.bp 7 0),(2,.sl 4),(3,.sl 5),(4,.sl 6)] (wa J 1 (Z4 (σ:=(List ZT) × ByteArray × (List ByteArray) × (List Z2) × (List ZS) × (List ByteArray) × ByteArray × ByteArray × Int) (fun st=>⟨[(0,.S 0),(2,.B 2 0),(4,.B 7 0),(5,.B 8 0),(11,.S 0),(12,.I (c.length:Int)),(13,.I f)],[(1,.abs powT),(2,.box [.s (str []),.s (str []),.I 0] 60),(7,.box [.s g.Zt,.sl 4,.sl 5,.sl 6] 37),(8,.box [.sl 10,.s st.2.1,.sl 11,.sl 12,.sl 13,.sl 14,.s st.2.2.2.2.2.2.1,.s st.2.2.2.2.2.2.2.1,.I st.2.2.2.2.2.2.2.2] 131),(14,.own rS st.2.2.2.2.2.1 true)],((0,.sl Ys c)::YS 4 5 6 g [(10,.sl Ys st.1),(11,.sl rS st.2.2.1),(12,.sl YX st.2.2.2.1),(13,.sl Yi st.2.2.2.2.1)]),15⟩) (fun st=>Qd N f (Ua N c n12) g st.1 st.2.1 st.2.2.1 st.2.2.2.1 st.2.2.2.2.1 st.2.2.2.2.2.1 st.2.2.2.2.2.2.1 st.2.2.2.2.2.2.2.1 st.2.2.2.2.2.2.2.2=some r) ?_ (fun j24=>?_)))
  ·rintro ⟨o,p,q,t,u,v,x,y,z⟩ h
   unfold Qd at h
   refine wa J 8 (Z4 (σ:=(List ZT) × ByteArray × (List ByteArray) × (List Z2) × (List ZS) × (List ByteArray) × ByteArray × ByteArray × Int) (fun st=>(ZmU powT g.Zt st.2.1 st.2.2.2.2.2.2.1 st.2.2.2.2.2.2.2.1 st.2.2.2.2.2.2.2.2 st.2.2.2.2.2.1 c g st.1 st.2.2.1 st.2.2.2.1 st.2.2.2.2.1 [(0,.S 0),(2,.B 2 0),(4,.B 7 0),(5,.B 8 0),(11,.S 0),(12,.I (c.length:Int)),(13,.I f)])) (fun st=>LV N f (Ua N c n12) g st.1 st.2.1 st.2.2.1 st.2.2.2.1 st.2.2.2.2.1 st.2.2.2.2.2.1 st.2.2.2.2.2.2.1 st.2.2.2.2.2.2.2.1 st.2.2.2.2.2.2.2.2=some r) ?_ (fun j25=>?_))
   ·rintro ⟨A,C,D,G,H,R,T,U,X⟩ h
    unfold LV at h
    refine wO J 3 h fun Y Z h=>ZR (ZuV N (⟨A,(⟨C,D,G,H⟩:ZT),R,(⟨T,U,X⟩:T9)⟩:ZX) _ Z) [] [(0,.bp 8 0),(1,.sl 15),(2,.sl 16),(3,.sl 17),(4,.sl 18),(5,.sl 19)] ?_
    refine wO J 4 h fun a0 b0 h=>ZR (ZuW N Y _ b0) [] [(0,.bp 8 0),(1,.sl 20),(2,.sl 21),(3,.sl 22),(4,.sl 23),(5,.sl 24)] ?_
    refine wO J 6 h fun c0 e0 h=>ZR (ZuY N a0 g.ZF ([]:List Yv) _ e0) [] [(0,.bp 8 0),(1,.sl 25),(2,.sl 26),(3,.sl 27),(4,.sl 28),(5,.sl 29),(6,.sl 6),(7,.nil)] ?_
    refine wO J 4 h fun g0 i0 h=>ZR (Zu0 N c0 _ i0) [] [(0,.bp 8 0),(1,.sl 30),(2,.sl 31),(3,.sl 32),(4,.sl 33),(5,.sl 34)] ?_
    exact wB J 10 h (fun h=>oi h▸wr J 9 func15 []) fun h=>wa J 7 (ZO [] (ih15 (ZN (f+1)) h))
   refine wa J 1 (Ye (σ:=(List ZT) × ByteArray × (List ByteArray) × (List Z2) × (List ZS) × (List ByteArray) × ByteArray × ByteArray × Int × Int) (fun st=>(ZmU powT g.Zt st.2.1 st.2.2.2.2.2.2.1 st.2.2.2.2.2.2.2.1 st.2.2.2.2.2.2.2.2.1 st.2.2.2.2.2.1 c g st.1 st.2.2.1 st.2.2.2.1 st.2.2.2.2.1 [(0,.S 0),(2,.B 2 0),(4,.B 7 0),(5,.B 8 0),(11,.S 0),(12,.I (c.length:Int)),(13,.I f),(33,.I (g.ZD.length:Int)),(34,.I st.2.2.2.2.2.2.2.2.2)])) (fun n st=>Qe N f (Ua N c n12) g n st.1 st.2.1 st.2.2.1 st.2.2.2.1 st.2.2.2.2.1 st.2.2.2.2.2.1 st.2.2.2.2.2.2.1 st.2.2.2.2.2.2.2.1 st.2.2.2.2.2.2.2.2.1 st.2.2.2.2.2.2.2.2.2) (r:=r) (fun _=>rfl) ?_ (fun ih=>?_))
   ·intro n14 ih27
    rintro ⟨j0,k0,l0,m0,o0,p0,q0,s0,t0,u0⟩ h
    unfold Qe at h
    refine ZU J 5 h (fun h=>wa J 2 (ZO [] (j25 (j0,k0,l0,m0,o0,p0,q0,s0,t0) h))) fun h=>?_
    refine wO J 14 h fun v0 x0 h=>ZR (Zmm N g.ZD u0 _ x0) [] [(0,.sl 4)] ?_
    refine ZU J 1 h (fun h=>wa J 7 (ZO [] (ih27 (j0,k0,l0,m0,o0,p0,q0,s0,t0,(ZN (u0+1))) h))) fun h=>?_
    refine wO J 6 h fun y0 z0 h=>Ya J oS z0 ?_
    exact wO J 1 h fun A0 B0 h=>ZR (Wb N (⟨j0,(⟨k0,l0,m0,o0⟩:ZT),p0,(⟨q0,s0,t0⟩:T9)⟩:ZX) y0 9 _ B0) [] [(0,.bp 8 0),(1,.sl 15),(2,.sl 16),(3,.sl 17),(4,.sl 18),(5,.sl 19)] (wa J 6 (ZO [(15,.sl 21),(16,.sl 22),(17,.sl 23),(18,.sl 24),(19,.sl 25)] (ih27 (A0.all',A0.p'.Zt,A0.p'.ZD,A0.p'.ZE,A0.p'.ZF,A0.calls',A0.out'.ZL,A0.out'.Zt,A0.out'.ZM,(ZN (u0+1))) h)))
   exact ZO [(15,.sl 10),(16,.sl 11),(17,.sl 12),(18,.sl 13),(19,.sl 14)] (ih N (o,p,q,t,u,v,x,y,z,0) h)
  refine Xf h (fun h=>wa J 2 (ZO [(10,.sl 0),(11,.sl 4),(12,.sl 5),(13,.sl 6),(14,.nil)] (j24 (c,g.Zt,g.ZD,g.ZE,g.ZF,([]:List ByteArray),(str []),(str []),0) h))) fun h=>?_
  exact wO J 5 h fun C0 D0 h=>ZR (Wb N (⟨c,g,([]:List ByteArray),(⟨(str []),(str []),0⟩:T9)⟩:ZX) g.Zt 9 _ D0) [] [(0,.bp 8 0),(1,.sl 0),(2,.sl 4),(3,.sl 5),(4,.sl 6),(5,.nil)] (wa J 1 (ZO [] (j24 (C0.all',C0.p'.Zt,C0.p'.ZD,C0.p'.ZE,C0.p'.ZF,C0.calls',C0.out'.ZL,C0.out'.Zt,C0.out'.ZM) h)))
 exact ZO [] (ih N 0 h)
theorem ZtT (N:Nat) (c:(List T2)) (r:(List T2)) (h:Dv N c=some r) :
 Fn Tryz.prog 16 ⟨1,[.S 0],[(0,.sl YU c)],[],2,.S 1,[],[(1,.own YU r true)]⟩:=by
 refine Z5 func16 rfl (fun E F w=>?_)
 unfold Dv at h
 refine wa J 8 (eNi YU c false ?_)
 intro nb hnb
 cases nb
 ·refine wa J 5 (Yy J [] XK ([]:List T2) ?_)
  refine wO J 1 h fun d e h=>YR J YU e ?_
  exact oi h▸wr J 2 func16 [(1,.sl 2)]
 ·obtain rfl:=hnb rfl
  replace h:(some ([]:List T2):Option (List T2))=some r:=h
  exact oi h▸wr J 6 func16 [(1,.nil)]
theorem Zui (N:Nat) (c:T0) (d:Yq) (r:Bool) (h:Zcu N c d=some r) :
 Fn Tryz.prog 19 ⟨4,[.a (X8 0 1 2 c),.B 3 0],[(0,.sl YU c.Zy)],[(3,.box (Xp d) 76)],4,.O r,[],[(3,.box (Xp d) 76)]⟩:=by
 refine Z5 func19 rfl (fun E F w=>?_)
 unfold Zcu at h
 exact oi h▸wr J 14 func19 []
theorem Zue (N:Nat) (d:(List T0)) (e:Yq) (r:Int) (h:DK N d e=some r) :
 Fn Tryz.prog 18 ⟨2,[.S 0,.c (.cl 19 [] [1])],[(0,.sl rq_api_Decl d)],[(1,.box (Xp e) 76)],2,.I r,[],[(1,.box (Xp e) 76)]⟩:=by
 refine Z5 func18 rfl (fun E F w=>?_)
 unfold DK at h
 refine wa J 11 (Z4 (σ:=Unit) (fun st=>⟨[],[(1,.box (Xp e) 76)],[(0,.sl rq_api_Decl d)],2⟩) (fun st=>Zcm=some r) ?_ (fun j1=>?_))
 ·intro _ h
  unfold Zcm at h
  exact oi h▸wr J 4 func18 []
 refine wa J 1 (Ye (σ:=Int) (fun st=>⟨[(0,.S 0),(1,.c (.cl 19 [] [1])),(7,.I (d.length:Int)),(8,.I st)],[(1,.box (Xp e) 76)],[(0,.sl rq_api_Decl d)],2⟩) (fun n st=>PW N d e n st) (r:=r) (fun _=>rfl) ?_ (fun ih=>?_))
 ·intro n2 ih3
  intro f h
  unfold PW at h
  refine ZU J 5 h (fun h=>wa J 2 (ZO [] (j1 () h))) fun h=>?_
  refine wO J 14 h fun g i h=>Ya J Tt i ?_
  refine wO J 1 h fun j k h=>ZR (Zui N g e _ k) [] [(0,.sl 3),(1,.sl 4),(2,.sl 5),(3,.bp 1 0)] ?_
  exact wB J 1 h (fun h=>oi h▸wr J 6 func18 []) fun h=>wa J 7 (ZO [] (ih3 (ZN (f+1)) h))
 exact ZO [] (ih N 0 h)
theorem Zut (N:Nat) (c:T2) (d:Yq) (r:Bool) (h:ZcD N c d=some r) :
 Fn Tryz.prog 21 ⟨1,[.a (XZ c),.B 0 0],[],[(0,.box (Xp d) 76)],1,.O r,[],[(0,.box (Xp d) 76)]⟩:=by
 refine Z5 func21 rfl (fun E F w=>?_)
 unfold ZcD at h
 exact oi h▸wr J 14 func21 []
theorem Zum (N:Nat) (d:(List T2)) (e:Yq) (r:Int) (h:DP N d e=some r) :
 Fn Tryz.prog 20 ⟨2,[.S 0,.c (.cl 21 [] [1])],[(0,.sl YU d)],[(1,.box (Xp e) 76)],2,.I r,[],[(1,.box (Xp e) 76)]⟩:=by
 refine Z5 func20 rfl (fun E F w=>?_)
 unfold DP at h
 refine wa J 11 (Z4 (σ:=Unit) (fun st=>(ZdX e d [])) (fun st=>Zcz=some r) ?_ (fun j1=>?_))
 ·intro _ h
  unfold Zcz at h
  exact oi h▸wr J 4 func20 []
 refine wa J 1 (Ye (σ:=Int) (fun st=>(ZdX e d [(0,.S 0),(1,.c (.cl 21 [] [1])),(7,.I (d.length:Int)),(8,.I st)])) (fun n st=>P4 N d e n st) (r:=r) (fun _=>rfl) ?_ (fun ih=>?_))
 ·intro n2 ih3
  intro f h
  unfold P4 at h
  refine ZU J 5 h (fun h=>wa J 2 (ZO [] (j1 () h))) fun h=>?_
  refine wO J 14 h fun g i h=>Ya J XK i ?_
  refine wO J 1 h fun j k h=>ZR (Zut N g e _ k) [] [(0,.bp 1 0)] ?_
  exact wB J 1 h (fun h=>oi h▸wr J 6 func20 []) fun h=>wa J 7 (ZO [] (ih3 (ZN (f+1)) h))
 exact ZO [] (ih N 0 h)
theorem Zl7 (N:Nat) (c:Yq) (d:(List T0)) (e:Int) (r:T6 × Bool) (h:Ss N c d e=some r) :
 Fn Tryz.prog 17 ⟨3,[.a (Xp c),.B 0 0,.B 2 0],[(1,.sl rq_api_Decl d)],[(0,.box [.sl 1] 30),(2,.box [.I e] 3)],3,.t [.inr (H7 r.1),.inl (.b r.2)],[],[(0,.box [.sl 1] 30),(2,.box [.I e] 3)]⟩:=by
 refine Z5 func17 rfl (fun E F w=>?_)
 unfold Ss at h
 refine wB J 13 h (fun h=>oi h▸wr J 9 func17 []) fun h=>?_
 refine wO J 6 h fun f g h=>Ya J Tt g (wa J 11 (Z4 (σ:=ByteArray × (List T2) × Int × (List T1) × (List (Int × Int))) (fun st=>⟨[(3,.B 3 0),(4,.B 4 0),(6,.B 9 0)],[(0,.box [.sl 1] 30),(2,.box [.I e] 3),(3,.box (Xp c) 76),(4,.box [.I 0,.I 0] 78),(9,.box [.s st.1,.sl 10,.I st.2.2.1,.sl 11,.sl 12] 74)],[(1,.sl rq_api_Decl d),(10,.sl YU st.2.1)],13⟩) (fun st=>LX N c st.1 st.2.1 st.2.2.1 st.2.2.2.1 st.2.2.2.2=some r) ?_ (fun j1=>?_)))
 ·rintro ⟨i,j,k,l,m⟩ h
  unfold LX at h
  refine wO J 5 h fun o p h=>ZR (Zum N j c _ p) [] [(0,.sl 10),(1,.bp 3 0)] ?_
  refine ZU J 15 h (fun h=>wa J 11 (Yn ?_)) fun h=>?_
  ·cases h
   exact Y2 J func17 []
  refine wO J 3 h fun q u h=>Ya J XK u (wa J 7 (Yn ?_))
  cases h
  exact Y2 J func17 []
 refine Xf h (fun h=>wa J 2 (ZO [(10,.sl 6),(11,.sl 7),(12,.sl 8)] (j1 (f.Zt,f.Zy,f.ZJ,f.ZK.ZH,f.ZK.ZI) h))) fun h=>?_
 refine wO J 5 h fun v x h=>ZR (Zue N d c _ x) [] [(0,.sl 1),(1,.bp 3 0)] ?_
 have ⟨y,z,h⟩:=ob h
 exact Ya J Tt z (wa J 2 (Yn (ZO [(10,.sl 11),(11,.sl 12),(12,.sl 13)] (j1 (y.Zt,y.Zy,y.ZJ,y.ZK.ZH,y.ZK.ZI) h))))
theorem HD (N:Nat) (c:T6) (d:T6) (e:Int) (r:T1) (h:z51 N c d e=some r) :
 Fn Tryz.prog 51 ⟨0,[.a (H7 c),.a (H7 d),.I e],[],[],0,.a (cC1 r),[],[]⟩:=by
 refine Z5 func51 rfl (fun E F w=>?_)
 unfold z51 at h
 exact oi h▸wr J 22 func51 []
theorem Zuz (N:Nat) (d:ByteArray) (e:T6) (f:T6) (r:(List T1)) (h:DT N d e f=some r) :
 Fn Tryz.prog 22 ⟨0,[.c (.s d),.a (H7 e),.a (H7 f)],[],[],1,.S 0,[],[(0,.own YV r true)]⟩:=by
 refine Z5 func22 rfl (fun E F w=>?_)
 unfold DT at h
 refine wB J 21 h (fun h=>?_) fun h=>?_
 ·refine wO J 6 h fun g i h=>ZR (HD N e f 1 _ i) [] [] (Yy J [] WV ([g]:List T1) ?_)
  exact oi h▸wr J 2 func22 [(0,.sl 2)]
 refine wB J 6 h (fun h=>?_) fun h=>?_
 ·refine wO J 6 h fun j k h=>ZR (HD N e f 0 _ k) [] [] (Yy J [] WV ([j]:List T1) ?_)
  exact oi h▸wr J 2 func22 [(0,.sl 2)]
 refine wB J 6 h (fun h=>?_) fun h=>?_
 ·refine wO J 6 h fun l m h=>ZR (HD N f e 1 _ m) [] [] (Yy J [] WV ([l]:List T1) ?_)
  exact oi h▸wr J 2 func22 [(0,.sl 2)]
 refine wB J 6 h (fun h=>?_) fun h=>?_
 ·refine wO J 6 h fun o p h=>ZR (HD N f e 0 _ p) [] [] (Yy J [] WV ([o]:List T1) ?_)
  exact oi h▸wr J 2 func22 [(0,.sl 2)]
 refine wO J 8 h fun q t h=>ZR (HD N e f 0 _ t) [] [] ?_
 refine wO J 3 h fun u v h=>ZR (HD N f e 0 _ v) [] [] (Yy J [] WV ([q,u]:List T1) (wa J 1 (Yn ?_)))
 cases h
 exact Y2 J func22 [(0,.sl 2)]
theorem Zmq (N:Nat) (e:(List Z2)) (r:(List T0) × ByteArray × Int) (h:z6 N e=some r) :
 Fn Tryz.prog 6 ⟨2,[.S 0],[(0,.sl YX e)],[(1,.abs powT)],3,.t [.inl (.sl 2),.inl (.s r.2.1),.inl (.I r.2.2)],[],[(2,.own rR0 r.1 true),(1,.abs powT)]⟩:=by
 refine Z5 func6 rfl (fun E F w=>?_)
 unfold z6 at h
 refine wa J 9 (Yy J [] oS ([(str [65])]:List ByteArray) (wa J 2 (Yy J [3] Vp ([(⟨(str [80]),([(str [65])]:List ByteArray),e,([]:List ZS)⟩:ZT)]:List ZT) ?_)))
 have ⟨f,g,h⟩:=ob h
 refine ZR (ZtL N ([(⟨(str [80]),([(str [65])]:List ByteArray),e,([]:List ZS)⟩:ZT)]:List ZT) _ g) [4] [(0,.sl 4),(1,.sl 1)] ?_
 refine wB J 3 h (fun h=>oi h▸wr J 7 func6 [(2,.nil)]) fun h=>wa J 13 (Z4 (σ:=(List T0) × Int) (fun st=>(ZmV powT st.1 e [(0,.S 0),(2,.B 2 0),(5,.I st.2)])) (fun st=>Bx N e st.1 st.2=some r) ?_ (fun j1=>?_))
 ·rintro ⟨ds,c⟩ h
  unfold Bx at h
  refine wB J 6 h (fun h=>oi h▸wr J 7 func6 [(2,.nil)]) fun h=>QQ (R:=rn_api_Decl) (R':=rg_Decl) (xs:=ds) (fr:=true) (ds.map QU) 5 rfl (by rw [List.length_map]) Zju (wa J 9 (Z4 (σ:=List GG × List T3) (fun st=>⟨[(2,.B 2 0)],[(1,.abs powT),(2,.box [.sl 5] 30),(5,.own rg_Decl st.1 true)],[(0,.sl YX e)],6⟩) (fun st=>TX (Vx (ds.map Xg) st.2 st.1) (bif Nat.beq st.2.length (ds.map Xg).length then some (Xv (ds.map Xg) st.2,str [],0) else none)=some r) ?_ (fun j3=>?_)))
  ·rintro ⟨gs,G⟩ h
   have ⟨hI,h⟩:=Zaw h
   replace hI:Vx (ds.map Xg) G gs:=hI
   have ⟨hb,h⟩:=og h
   cases h
   have ⟨e1,e2⟩:=ZjJ hI (Zd hb)
   exact QQ (R:=rg_Decl) (R':=rR0) (xs:=gs) (fr:=true) (Xv (ds.map Xg) G) 5 rfl e1 e2 (wr J 7 func6 [(2,.sl 5)])
  refine wa J 1 (Ye (σ:=List GG × List T3 × Int) (fun st=>⟨[(2,.B 2 0),(51,.S 0),(52,.I (e.length:Int)),(53,.I st.2.2)],[(1,.abs powT),(2,.box [.sl 5] 30),(5,.own rg_Decl st.1 true)],[(0,.sl YX e)],6⟩) (fun n st=>TX (Vx (ds.map Xg) st.2.1 st.1) (U7 N e (ds.map Xg) n st.2.2 st.2.1)) (r:=r) (fun _=>ZjG _) ?_ (fun ih=>?_))
  ·intro n9 ih11
   rintro ⟨gs,G,i⟩ h
   have ⟨hI,h⟩:=Zaw h
   replace hI:Vx (ds.map Xg) G gs:=hI
   unfold U7 at h
   obtain ⟨K,h⟩|⟨K,h⟩:=US h
   ·exact wH J 5 K (wa J 2 (ZO [] (j3 (gs,G) (M6 hI h))))
   refine wH J 5 K ?_
   refine wO J 7 h fun m hm h=>Ya J Ut hm ?_
   have ⟨hi,h⟩:=og h
   replace hi:i=(G.length:Int):=of_decide_eq_true hi
   have ⟨d,hd,h⟩:=ob h
   have ⟨x,hx,j,hn⟩:=ZjK hI hd hi
   refine wO J 15 h fun p hp h=>QQ (R:=rg_Decl) (R':=rg_Decl) (xs:=gs) (fr:=true) (gs.set i.toNat (YM x Wk none Wk none)) 5 rfl (by rw [List.length_set]) (Zjx j hn) (Y7 J rg_Decl (UY (y:=YM x Wk none Wk none) hx) (Gi 5 (fun L=>?_)))
   refine eZn YV (eZn UV (wa J 11 (eZp (L:=L) 11 5 (i.toNat * rg_Decl.sz) (Z4 (σ:=G1 × G1 × List T1 × List (Int × Int)) (fun st=>⟨[(2,.B 2 0),(9,.B 10 0),(11,.P 11 3),(51,.S 0),(52,.I (e.length:Int)),(53,.I i)],[(1,.abs powT),(2,.box [.sl 5] 30),(5,.own rg_Decl (gs.set i.toNat (YM x st.1 none st.2.1 none)) true),(10,.box [.s m.Zt,.sl 7,.sl 8] 64),(12,.own YV st.2.2.1 true),(13,.own UV st.2.2.2 true)],((0,.sl YX e)::(5,.fn (XR L))::XC 7 8 m [(11,.fn (Gm L (i.toNat * rg_Decl.sz))),(12,.fn (XR st.1)),(13,.fn (XR st.2.1))]),14⟩) (fun st=>((UA st.2.2.1 N (0:Int)).bind fun ok=>bif ok then U7 N e (ds.map Xg) n9 (ZN (i+1)) (G++[⟨st.2.2.1,st.2.2.2⟩]) else some ([],m.Zt,2))=some r) ?_ (fun j4=>?_)))))
   ·rintro ⟨u,v,D,E⟩ h
    refine eZq (L:=L) 11 5 (i.toNat * rg_Decl.sz) (wm J (Gf 11 (wm J (eZl (u:=u) J RT 12 (UY (y:=YM x u none v none) hx) (wm J (Ye (σ:=Int) (fun st=>⟨[(2,.B 2 0),(9,.B 10 0),(51,.S 0),(52,.I (e.length:Int)),(53,.I i),(116,.S 12),(117,.I (D.length:Int)),(118,.I st)],[(1,.abs powT),(2,.box [.sl 5] 30),(5,.own rg_Decl (gs.set i.toNat (YM x u none v none)) true),(10,.box [.s m.Zt,.sl 7,.sl 8] 64),(12,.own YV D true),(13,.own UV E true)],((0,.sl YX e)::XC 7 8 m [(12,.fn (XR u)),(13,.fn (XR v))]),14⟩) (fun n st=>(UA D n st).bind fun ok=>bif ok then U7 N e (ds.map Xg) n9 (ZN (i+1)) (G++[⟨D,E⟩]) else some ([],m.Zt,2)) (r:=r) (fun _=>rfl) ?_ (fun ih=>?_)))))))
    ·intro n6 ih6
     intro k h
     have ⟨ok,hok,h⟩:=ob h
     replace hok:UA D (n6+1) k=some ok:=hok
     unfold UA at hok
     rcases US hok with ⟨K,hok⟩ | ⟨K,hok⟩
     ·cases hok
      replace h:U7 N e (ds.map Xg) n9 (ZN (i+1)) (G++[⟨D,E⟩])=some r:=h
      have hs:Vx (ds.map Xg) (G++[⟨D,E⟩]) (gs.set i.toNat (YM x u (some D) v (some E))):=ZjL hI j hi
      refine wH J 5 K (eZd (R:=rg_Decl) (Rb:=YV) (fr:=true) (xs:=gs.set i.toNat (YM x u none v none)) (ys:=D) (x:=YM x u none v none) (u:=u) (YM x u (some D) v none) i.toNat 5 12 (M5 j) (fun F w vs hr hs=>Zjv hr hs) rfl ?_)
      refine eZd (R:=rg_Decl) (Rb:=UV) (fr:=true) (xs:=(gs.set i.toNat (YM x u none v none)).set i.toNat (YM x u (some D) v none)) (ys:=E) (x:=YM x u (some D) v none) (u:=v) (YM x u (some D) v (some E)) i.toNat 5 13 (M5 (M5 j)) (fun F w vs hr hs=>Zjw hr hs) rfl ?_
      exact Gh (R:=rg_Decl) (fr:=true) (xs:=((gs.set i.toNat (YM x u none v none)).set i.toNat (YM x u (some D) v none)).set i.toNat (YM x u (some D) v (some E))) (gs.set i.toNat (YM x u (some D) v (some E))) 5 (by rw [List.set_set,List.set_set]) (wm J (ZO [] (ih11 (gs.set i.toNat (YM x u (some D) v (some E)),G++[⟨D,E⟩],ZN (i+1)) (M6 hs h))))
     refine wH J 5 K ?_
     have ⟨dd,hdd,hok⟩:=ob hok
     refine wm J (Y7 J YV hdd (wm J (We J WV hdd ?_)))
     rcases oc hok with ⟨hc1,hok⟩ | ⟨hc1,hok⟩
     ·cases hok
      replace h:some ([],m.Zt,2)=some r:=h
      cases h
      exact wa J 9 (eK hc1 (wm J (Yn (Y2 J func6 [(2,.nil)]))))
     refine wa J 9 (eK hc1 ?_)
     rcases oc hok with ⟨hc2,hok⟩ | ⟨hc2,hok⟩
     ·cases hok
      replace h:some ([],m.Zt,2)=some r:=h
      cases h
      exact wa J 5 (eK hc2 (wm J (Yn (Y2 J func6 [(2,.nil)]))))
     refine wa J 5 (eK hc2 (wm J (ZO [] (ih6 (ZN (k+1)) ?_))))
     show (UA D n6 (ZN (k+(1:Int)))).bind _=some r
     rw [hok];exact h
    exact ZO [] (ih N 0 h)
   refine wa J 1 (Ye (σ:=G1 × G1 × List T1 × List (Int × Int) × Int) (fun st=>⟨[(2,.B 2 0),(9,.B 10 0),(10,.c (.cl 17 [] [2,9])),(11,.P 11 3),(51,.S 0),(52,.I (e.length:Int)),(53,.I i),(64,.S 8),(65,.I (m.Zz.length:Int)),(66,.I st.2.2.2.2)],[(1,.abs powT),(2,.box [.sl 5] 30),(5,.own rg_Decl (gs.set i.toNat (YM x st.1 none st.2.1 none)) true),(9,.box [.I i] 3),(10,.box [.s m.Zt,.sl 7,.sl 8] 64),(12,.own YV st.2.2.1 true),(13,.own UV st.2.2.2.1 true)],((0,.sl YX e)::(5,.fn (XR L))::XC 7 8 m [(11,.fn (Gm L (i.toNat * rg_Decl.sz))),(12,.fn (XR st.1)),(13,.fn (XR st.2.1))]),14⟩)
    (fun n st=>(VV N (ds.map Xg) i m.Zz n st.2.2.2.2 st.2.2.1 st.2.2.2.1).bind fun p=>(UA p.1 N (0:Int)).bind fun ok=>bif ok then U7 N e (ds.map Xg) n9 (ZN (i+1)) (G++[⟨p.1,p.2⟩]) else some ([],m.Zt,2)) (r:=r) (fun _=>rfl) ?_ (fun ih=>?_))
   ·intro n4 ih4
    rintro ⟨u,v,D,E,k⟩ h
    have ⟨p',hp',h⟩:=ob h
    replace hp':VV N (ds.map Xg) i m.Zz (n4+1) k D E=some p':=hp'
    unfold VV at hp'
    rcases US hp' with ⟨K,hp'⟩ | ⟨K,hp'⟩
    ·cases hp'
     exact wH J 5 K (wa J 2 (ZO [] (j4 (u,v,D,E) h)))
    refine wH J 5 K ?_
    have hv:(gs.set i.toNat (YM x u none v none)).map VK=ds.map Xg:=ZeK hI.1 j rfl
    have ⟨a,ha,hp'⟩:=ob hp'
    refine wa J 6 (Ya J Q3 ha ?_)
    have ⟨y1,hy1,hp'⟩:=ob hp'
    rw [<- hv] at hy1
    refine wa J 9 (XA (Fn.see (R:=rg_Decl) (R':=rq_api_Decl) (φ:=VK) (xs:=gs.set i.toNat (YM x u none v none)) rfl Zau (Zl7 N a.Zw _ i _ hy1)) [] [(0,.bp 2 0),(1,.sl 5),(2,.bp 9 0)] [5] (.inr ⟨rfl,trivial⟩) ?_)
    have ⟨y2,hy2,hp'⟩:=ob hp'
    rw [<- hv] at hy2
    refine wa J 12 (XA (Fn.see (R:=rg_Decl) (R':=rq_api_Decl) (φ:=VK) (xs:=gs.set i.toNat (YM x u none v none)) rfl Zau (Zl7 N a.Zx _ i _ hy2)) [] [(0,.bp 2 0),(1,.sl 5),(2,.bp 9 0)] [5] (.inr ⟨rfl,trivial⟩) ?_)
    rcases oc hp' with ⟨hc2,hp'⟩ | ⟨hc2,hp'⟩
    ·have ⟨E',hE',hp'⟩:=ob hp'
     refine wa J 12 (eK hc2 (eZq (L:=L) 11 5 (i.toNat * rg_Decl.sz) (wm J (Gf 11 (wm J (eZl (u:=v) J RT 13 (UY (y:=YM x u none v none) hx) (wm J (Yy J [] (oP (oI .i64) (oI .i64)) ([(y1.1.x',y2.1.x')]:List (Int × Int)) (YR J UV hE' (wm J (Gf 11 (wm J (eTt (Gi 19 (fun v'=>?_)))))))))))))))
     refine eSp J [] RT (YM x u none v' none) (UY (y:=YM x u none v none) hx) (eZp (L:=L) 11 5 (i.toNat * rg_Decl.sz) (Gh (R:=rg_Decl) (fr:=true) (xs:=YQ (gs.set i.toNat (YM x u none v none)) i (YM x u none v' none)) (gs.set i.toNat (YM x u none v' none)) 5 (by rw [YQ,List.set_set]) (wm J (ZO [(13,.sl 19)] (ih4 (u,v',D,E',ZN (k+1)) ?_)))))
     show (VV N (ds.map Xg) i m.Zz n4 (ZN (k+1)) D E').bind _=some r
     rw [hp'];exact h
    ·have ⟨dd,hdd,hp'⟩:=ob hp'
     have ⟨D',hD',hp'⟩:=ob hp'
     refine wa J 12 (eK hc2 (eZq (L:=L) 11 5 (i.toNat * rg_Decl.sz) (wm J (Gf 11 (wm J (eZl (u:=u) J RT 12 (UY (y:=YM x u none v none) hx) (wm J (ZR (Zuz N a.Op y1.1 y2.1 _ hdd) [] [] (YR J YV hD' (wm J (Gf 11 (wm J (eTt (Gi 19 (fun u'=>?_)))))))))))))))
     refine eSp J [] RT (YM x u' none v none) (UY (y:=YM x u none v none) hx) (eZp (L:=L) 11 5 (i.toNat * rg_Decl.sz) (Gh (R:=rg_Decl) (fr:=true) (xs:=YQ (gs.set i.toNat (YM x u none v none)) i (YM x u' none v none)) (gs.set i.toNat (YM x u' none v none)) 5 (by rw [YQ,List.set_set]) (wm J (ZO [(12,.sl 19)] (ih4 (u',v,D',E,ZN (k+1)) ?_)))))
     show (VV N (ds.map Xg) i m.Zz n4 (ZN (k+1)) D' E).bind _=some r
     rw [hp'];exact h
   refine ZO [] (ih N (Wk,Wk,[],[],0) ?_)
   show (VV N (ds.map Xg) i m.Zz N 0 [] []).bind _=some r
   rw [hp];exact h
  exact ZO [] (ih N (ds.map QU,[],0) (M6 (ZjI ds) h))
 refine wa J 1 (Ye (σ:=(List T0) × Int × Int) (fun st=>(ZmV powT st.1 e [(0,.S 0),(2,.B 2 0),(5,.I st.2.1),(27,.S 0),(28,.I (e.length:Int)),(29,.I st.2.2)])) (fun n st=>Qw N e n st.1 st.2.1 st.2.2) (r:=r) (fun _=>rfl) ?_ (fun ih=>?_))
 ·intro n12 ih18
  rintro ⟨ds,c,i⟩ h
  unfold Qw at h
  refine ZU J 5 h (fun h=>wa J 2 (ZO [] (j1 (ds,c) h))) fun h=>?_
  refine wO J 6 h fun m hm h=>Ya J Ut hm ?_
  refine wO J 11 h fun fs hfs h=>ZR (ZtT N m.Zy _ hfs) [] [(0,.sl 7)] (wa J 2 (Yy J [10] ZkC ([(⟨m.Zt,fs,c,(⟨([]:List T1),([]:List (Int × Int))⟩:T3)⟩:T0)]:List T0) ?_))
  have ⟨ds',hds',h⟩:=ob h
  exact YR J rn_api_Decl hds' (wa J 1 (Yn (wa J 13 (ZO [(5,.sl 12)] (ih18 (ds',(ZN (c+(m.Zy.length:Int))),(ZN (i+1))) h)))))
 exact ZO [(5,.nil)] (ih N (([]:List T0),0,0) h)
theorem Zmp (N:Nat) (c:(List T0)) (r:(List T2)) (h:HG N c=some r) :
 Fn Tryz.prog 61 ⟨1,[.S 0],[(0,.sl rR0 c)],[],2,.S 1,[],[(1,.own YU r true)]⟩:=by
 refine Z5 func61 rfl (fun E F w=>?_)
 unfold HG at h
 refine wa J 15 (Z4 (σ:=(List T2)) (fun st=>(ZhE st c [(3,.S 1)])) (fun st=>Zdk st=some r) ?_ (fun j1=>?_))
 ·intro d h
  unfold Zdk at h
  exact oi h▸wr J 5 func61 [(1,.sl 1)]
 refine wa J 1 (Ye (σ:=(List T2) × Int) (fun st=>(ZhE st.1 c [(3,.S 1),(6,.S 0),(7,.I (c.length:Int)),(8,.I st.2)])) (fun n st=>Mv c n st.1 st.2) (r:=r) (fun _=>rfl) ?_ (fun ih=>?_))
 ·intro n2 ih3
  rintro ⟨e,f⟩ h
  unfold Mv at h
  refine ZU J 5 h (fun h=>wa J 2 (ZO [] (j1 e h))) fun h=>?_
  refine wO J 6 h fun g i h=>Ya J S7 i ?_
  exact wO J 8 h fun j k h=>YR J YU k (wa J 7 (ZO [(1,.sl 7)] (ih3 (j,(ZN (f+1))) h)))
 exact ZO [(1,.nil)] (ih N (([]:List T2),0) h)
theorem Zvb (N:Nat) (c:T0) (d:T0) (r:Bool) (h:Zdl N c d=some r) :
 Fn Tryz.prog 64 ⟨7,[.a (X8 0 1 2 c),.B 3 0],(Wi 0 1 2 c (Wi 4 5 6 d [])),[(3,.box (X8 4 5 6 d) 74)],7,.O r,[],[(3,.box (X8 4 5 6 d) 74)]⟩:=by
 refine Z5 func64 rfl (fun E F w=>?_)
 unfold Zdl at h
 exact oi h▸wr J 14 func64 []
theorem Zuf (N:Nat) (d:(List T0)) (e:T0) (r:Int) (h:DL N d e=some r) :
 Fn Tryz.prog 18 ⟨5,[.S 0,.c (.cl 64 [] [1])],((0,.sl rR0 d)::Wi 2 3 4 e []),[(1,.box (X8 2 3 4 e) 74)],5,.I r,[],[(1,.box (X8 2 3 4 e) 74)]⟩:=by
 refine Z5 func18 rfl (fun E F w=>?_)
 unfold DL at h
 refine wa J 11 (Z4 (σ:=Unit) (fun st=>⟨[],[(1,.box (X8 2 3 4 e) 74)],((0,.sl rR0 d)::Wi 2 3 4 e []),5⟩) (fun st=>Zcn=some r) ?_ (fun j1=>?_))
 ·intro _ h
  unfold Zcn at h
  exact oi h▸wr J 4 func18 []
 refine wa J 1 (Ye (σ:=Int) (fun st=>⟨[(0,.S 0),(1,.c (.cl 64 [] [1])),(7,.I (d.length:Int)),(8,.I st)],[(1,.box (X8 2 3 4 e) 74)],((0,.sl rR0 d)::Wi 2 3 4 e []),5⟩) (fun n st=>PX N d e n st) (r:=r) (fun _=>rfl) ?_ (fun ih=>?_))
 ·intro n2 ih3
  intro f h
  unfold PX at h
  refine ZU J 5 h (fun h=>wa J 2 (ZO [] (j1 () h))) fun h=>?_
  refine wO J 14 h fun g i h=>Ya J S7 i ?_
  refine wO J 1 h fun j k h=>ZR (Zvb N g e _ k) [] [(0,.sl 6),(1,.sl 7),(2,.sl 8),(3,.bp 1 0),(4,.sl 2),(5,.sl 3),(6,.sl 4)] ?_
  exact wB J 1 h (fun h=>oi h▸wr J 6 func18 []) fun h=>wa J 7 (ZO [] (ih3 (ZN (f+1)) h))
 exact ZO [] (ih N 0 h)
theorem Zva (N:Nat) (d:(List T0)) (e:T0) (r:Bool) (h:Br N d e=some r) :
 Fn Tryz.prog 63 ⟨5,[.S 0,.c (.cl 64 [] [1])],((0,.sl rR0 d)::Wi 2 3 4 e []),[(1,.box (X8 2 3 4 e) 74)],5,.O r,[],[(1,.box (X8 2 3 4 e) 74)]⟩:=by
 refine Z5 func63 rfl (fun E F w=>?_)
 unfold Br at h
 refine wO J 8 h fun f g h=>ZR (Zuf N d e _ g) [] [(0,.sl 0),(1,.bp 1 0),(2,.sl 2),(3,.sl 3),(4,.sl 4)] ?_
 exact oi h▸wr J 3 func63 []
theorem Zvc (N:Nat) (c:T4) (r:Bool) (h:Bs N c=some r) :
 Fn Tryz.prog 66 ⟨0,[.a (cC4 c)],[],[],0,.O r,[],[]⟩:=by
 refine Z5 func66 rfl (fun E F w=>?_)
 unfold Bs at h
 refine wB J 17 h (fun h=>?_) fun h=>?_
 ·refine ZU J 7 h (fun h=>oi h▸wr J 13 func66 []) fun h=>?_
  exact wB J 7 h (fun h=>oi h▸wr J 6 func66 []) fun h=>oi h▸wr J 6 func66 []
 refine ZU J 6 h (fun h=>oi h▸wr J 7 func66 []) fun h=>?_
 refine ZU J 7 h (fun h=>oi h▸wr J 13 func66 []) fun h=>?_
 exact wB J 7 h (fun h=>oi h▸wr J 6 func66 []) fun h=>oi h▸wr J 6 func66 []
theorem Zvf (N:Nat) (c:T2) (d:T2) (r:Bool) (h:Zdm N c d=some r) :
 Fn Tryz.prog 68 ⟨1,[.a (XZ c),.B 0 0],[],[(0,.box (XZ d) 69)],1,.O r,[],[(0,.box (XZ d) 69)]⟩:=by
 refine Z5 func68 rfl (fun E F w=>?_)
 unfold Zdm at h
 exact oi h▸wr J 14 func68 []
theorem Zun (N:Nat) (d:(List T2)) (e:T2) (r:Int) (h:DQ N d e=some r) :
 Fn Tryz.prog 20 ⟨2,[.S 0,.c (.cl 68 [] [1])],[(0,.sl YU d)],[(1,.box (XZ e) 69)],2,.I r,[],[(1,.box (XZ e) 69)]⟩:=by
 refine Z5 func20 rfl (fun E F w=>?_)
 unfold DQ at h
 refine wa J 11 (Z4 (σ:=Unit) (fun st=>(ZdW e d [])) (fun st=>ZcA=some r) ?_ (fun j1=>?_))
 ·intro _ h
  unfold ZcA at h
  exact oi h▸wr J 4 func20 []
 refine wa J 1 (Ye (σ:=Int) (fun st=>(ZdW e d [(0,.S 0),(1,.c (.cl 68 [] [1])),(7,.I (d.length:Int)),(8,.I st)])) (fun n st=>P5 N d e n st) (r:=r) (fun _=>rfl) ?_ (fun ih=>?_))
 ·intro n2 ih3
  intro f h
  unfold P5 at h
  refine ZU J 5 h (fun h=>wa J 2 (ZO [] (j1 () h))) fun h=>?_
  refine wO J 14 h fun g i h=>Ya J XK i ?_
  refine wO J 1 h fun j k h=>ZR (Zvf N g e _ k) [] [(0,.bp 1 0)] ?_
  exact wB J 1 h (fun h=>oi h▸wr J 6 func20 []) fun h=>wa J 7 (ZO [] (ih3 (ZN (f+1)) h))
 exact ZO [] (ih N 0 h)
theorem Zve (N:Nat) (d:(List T2)) (e:T2) (r:Bool) (h:Bu N d e=some r) :
 Fn Tryz.prog 67 ⟨2,[.S 0,.c (.cl 68 [] [1])],[(0,.sl YU d)],[(1,.box (XZ e) 69)],2,.O r,[],[(1,.box (XZ e) 69)]⟩:=by
 refine Z5 func67 rfl (fun E F w=>?_)
 unfold Bu at h
 refine wO J 8 h fun f g h=>ZR (Zun N d e _ g) [] [(0,.sl 0),(1,.bp 1 0)] ?_
 exact oi h▸wr J 3 func67 []
theorem Zvg (N:Nat) (c:T3) (d:(List T2)) (r:Bool) (h:Bv N c d=some r) :
 Fn Tryz.prog 69 ⟨3,[.a [.sl 0,.sl 1],.S 2],[(0,.sl YV c.ZH),(1,.sl (rP (rI .i64) (rI .i64)) c.ZI),(2,.sl YU d)],[],3,.O r,[],[]⟩:=by
 refine Z5 func69 rfl (fun E F w=>?_)
 unfold Bv at h
 refine wB J 13 h (fun h=>oi h▸wr J 11 func69 []) fun h=>?_
 refine wB J 6 h (fun h=>oi h▸wr J 5 func69 []) fun h=>wa J 10 (Z4 (σ:=Unit) (fun st=>(ZmW c.ZH c.ZI d [(1,.S 2),(2,.B 3 0)])) (fun st=>Zdp N c d=some r) ?_ (fun j1=>?_))
 ·intro _ h
  unfold Zdp at h
  refine wa J 8 (Z4 (σ:=Unit) (fun st=>⟨[],[],[(0,.sl YV c.ZH),(1,.sl (rP (rI .i64) (rI .i64)) c.ZI),(2,.sl YU d)],4⟩) (fun st=>Zdn=some r) ?_ (fun j3=>?_))
  ·intro _ h
   unfold Zdn at h
   exact oi h▸wr J 4 func69 []
  refine wa J 1 (Ye (σ:=Int) (fun st=>⟨[(1,.S 2),(56,.S 1),(57,.I (c.ZI.length:Int)),(58,.I st)],[],[(0,.sl YV c.ZH),(1,.sl (rP (rI .i64) (rI .i64)) c.ZI),(2,.sl YU d)],4⟩) (fun n st=>RA N c d n st) (r:=r) (fun _=>rfl) ?_ (fun ih=>?_))
  ·intro n13 ih14
   intro e h
   unfold RA at h
   refine ZU J 5 h (fun h=>wa J 2 (ZO [] (j3 () h))) fun h=>?_
   refine wO J 6 h fun f g h=>Ya J (oP (oI .i64) (oI .i64)) g (wa J 9 (Z4 (σ:=Unit) (fun st=>⟨[(1,.S 2),(56,.S 1),(57,.I (c.ZI.length:Int)),(58,.I e)],[],[(0,.sl YV c.ZH),(1,.sl (rP (rI .i64) (rI .i64)) c.ZI),(2,.sl YU d)],6⟩) (fun st=>Zdo e (RA N c d n13)=some r) ?_ (fun j21=>?_)))
   ·intro _ h
    unfold Zdo at h
    exact wa J 5 (ZO [] (ih14 (ZN (e+1)) h))
   refine wa J 1 (Ye (σ:=Int) (fun st=>⟨[(1,.S 2),(56,.S 1),(57,.I (c.ZI.length:Int)),(58,.I e),(62,.a [.I f.1,.I f.2]),(63,.I st)],[],[(0,.sl YV c.ZH),(1,.sl (rP (rI .i64) (rI .i64)) c.ZI),(2,.sl YU d)],6⟩) (fun n st=>Bw d e (RA N c d n13) f n st) (r:=r) (fun _=>rfl) ?_ (fun ih=>?_))
   ·intro n15 ih23
    intro j h
    unfold Bw at h
    refine ZU J 5 h (fun h=>wa J 2 (ZO [] (j21 () h))) fun h=>?_
    refine wO J 6 h fun k l h=>Gc (SC.i .i64) ([f.1,f.2]:List Int) l ?_
    refine wB J 7 h (fun h=>oi h▸wr J 20 func69 []) fun h=>?_
    refine wB J 6 h (fun h=>oi h▸wr J 14 func69 []) fun h=>?_
    refine wO J 2 h fun m o h=>Ya J XK o ?_
    exact wB J 6 h (fun h=>oi h▸wr J 5 func69 []) fun h=>wa J 7 (ZO [] (ih23 (ZN (j+1)) h))
   exact ZO [] (ih N 0 h)
  exact ZO [] (ih N 0 h)
 refine wa J 1 (Ye (σ:=Int) (fun st=>(ZmW c.ZH c.ZI d [(1,.S 2),(2,.B 3 0),(22,.S 0),(23,.I (c.ZH.length:Int)),(24,.I st)])) (fun n st=>Mw N c d n st) (r:=r) (fun _=>rfl) ?_ (fun ih=>?_))
 ·intro n16 ih24
  intro p h
  unfold Mw at h
  refine ZU J 5 h (fun h=>wa J 2 (ZO [] (j1 () h))) fun h=>?_
  refine wO J 6 h fun q s h=>Ya J WV s ?_
  refine wB J 13 h (fun h=>oi h▸wr J 25 func69 []) fun h=>?_
  refine wB J 10 h (fun h=>oi h▸wr J 15 func69 []) fun h=>?_
  refine wB J 5 h (fun h=>oi h▸wr J 10 func69 []) fun h=>?_
  exact wB J 5 h (fun h=>oi h▸wr J 5 func69 []) fun h=>wa J 7 (ZO [] (ih24 (ZN (p+1)) h))
 exact ZO [] (ih N 0 h)
theorem Zmf (N:Nat) (c:(List T0)) (r:Bool) (h:Hn N c=some r) :
 Fn Tryz.prog 28 ⟨1,[.S 0],[(0,.sl rR0 c)],[],1,.O r,[],[]⟩:=by
 refine Z5 func28 rfl (fun E F w=>?_)
 unfold Hn at h
 refine wB J 11 h (fun h=>oi h▸wr J 5 func28 []) fun h=>?_
 refine wO J 5 h fun d e h=>ZR (Zmp N c _ e) [] [(0,.sl 0)] ?_
 refine wB J 9 h (fun h=>oi h▸wr J 5 func28 []) fun h=>wa J 13 (Z4 (σ:=Unit) (fun st=>⟨[],[],[(0,.sl rR0 c)],2⟩) (fun st=>ZcU=some r) ?_ (fun j1=>?_))
 ·intro _ h
  unfold ZcU at h
  exact oi h▸wr J 4 func28 []
 refine wa J 1 (Ye (σ:=Int × Int) (fun st=>(ZhE d c [(0,.S 0),(3,.S 1),(4,.I st.1),(17,.S 0),(18,.I (c.length:Int)),(19,.I st.2)])) (fun n st=>Sw N c d n st.1 st.2) (r:=r) (fun _=>rfl) ?_ (fun ih=>?_))
 ·intro n12 ih12
  rintro ⟨f,g⟩ h
  unfold Sw at h
  refine ZU J 5 h (fun h=>wa J 2 (ZO [] (j1 () h))) fun h=>?_
  refine wO J 7 h fun i j h=>Ya J S7 j ?_
  refine wO J 10 h fun k l h=>ZR (Bq N i.Zt _ l) [] [] ?_
  refine wB J 2 h (fun h=>oi h▸wr J 24 func28 []) fun h=>?_
  refine wB J 6 h (fun h=>oi h▸wr J 18 func28 []) fun h=>?_
  refine wB J 6 h (fun h=>oi h▸wr J 12 func28 []) fun h=>?_
  refine wO J 2 h fun m o h=>SU J rR0 o ?_
  refine wO J 1 h fun p q h=>ZR (Zva N m i _ q) [] [(0,.sl 7),(1,.bp 6 0),(2,.sl 3),(3,.sl 4),(4,.sl 5)] ?_
  refine wB J 2 h (fun h=>oi h▸wr J 5 func28 []) fun h=>wa J 19 (Z4 (σ:=Unit) (fun st=>(ZmX d i c [(0,.S 0),(3,.S 1),(4,.I (ZN (f+(i.Zy.length:Int)))),(6,.B 6 0),(17,.S 0),(18,.I (c.length:Int)),(19,.I g)])) (fun st=>ZcV N d f g (Sw N c d n12) i=some r) ?_ (fun j19=>?_))
  ·intro _ h
   unfold ZcV at h
   refine wO J 5 h fun s t h=>XA (Zvg N i.ZK d _ t) [] [(0,.sl 4),(1,.sl 5),(2,.sl 1)] [1] (.inr ⟨rfl,trivial⟩) ?_
   exact wB J 2 h (fun h=>oi h▸wr J 5 func28 []) fun h=>wa J 7 (ZO [] (ih12 ((ZN (f+(i.Zy.length:Int))),(ZN (g+1))) h))
  refine wa J 1 (Ye (σ:=Int) (fun st=>(ZmX d i c [(0,.S 0),(3,.S 1),(4,.I (ZN (f+(i.Zy.length:Int)))),(6,.B 6 0),(17,.S 0),(18,.I (c.length:Int)),(19,.I g),(53,.S 3),(54,.I (i.Zy.length:Int)),(55,.I st)])) (fun n st=>Md N d f g (Sw N c d n12) i n st) (r:=r) (fun _=>rfl) ?_ (fun ih=>?_))
  ·intro n14 ih21
   intro u h
   unfold Md at h
   refine ZU J 5 h (fun h=>wa J 2 (ZO [] (j19 () h))) fun h=>?_
   refine wO J 7 h fun v x h=>Ya J XK x ?_
   refine wO J 9 h fun y z h=>ZR (U6 N v.Zt _ z) [] [] ?_
   refine wB J 2 h (fun h=>oi h▸wr J 19 func28 []) fun h=>?_
   refine wO J 2 h fun A C h=>ZR (Zvc N v.Zu _ C) [] [] ?_
   refine wB J 3 h (fun h=>oi h▸wr J 13 func28 []) fun h=>?_
   refine wO J 3 h fun D G h=>SU J YU G ?_
   refine wO J 1 h fun H R h=>ZR (Zve N D v _ R) [] [(0,.sl 10),(1,.bp 9 0)] ?_
   exact wB J 2 h (fun h=>oi h▸wr J 5 func28 []) fun h=>wa J 7 (ZO [] (ih21 (ZN (u+1)) h))
  exact ZO [] (ih N 0 h)
 exact ZO [] (ih N (0,0) h)
theorem D4 (N:Nat) (c:T5) (r:Int) (h:Mj N c=some r) :
 Fn Tryz.prog 35 ⟨0,[.a (cC5 c)],[],[],0,.I r,[],[]⟩:=by
 refine Z5 func35 rfl (fun E F w=>?_)
 unfold Mj at h
 exact wB J 12 h (fun h=>oi h▸wr J 8 func35 []) fun h=>oi h▸wr J 8 func35 []
theorem ZtN (N:Nat) (d:Int) (r:Bool) (h:Zgl N d=some r) :
 Fn Tryz.prog 161 ⟨0,[.c (.i .i32 d)],[],[],0,.O r,[],[]⟩:=by
 refine Z5 func161 rfl (fun E F w=>?_)
 unfold Zgl at h
 exact wB J 9 h (fun h=>oi h▸wr J 5 func161 []) fun h=>oi h▸wr J 5 func161 []
theorem ZuA (N:Nat) (d:ByteArray) (e:Bool) (r:Int) (h:ZgG N d e=some r) :
 Fn Tryz.prog 230 ⟨0,[.c (.s d),.c (.cl 161 [] []),.O e],[],[],0,.I r,[],[]⟩:=by
 refine Z5 func230 rfl (fun E F w=>?_)
 unfold ZgG at h
 refine wa J 8 (eRn J (fun bk1=>wa J 1 (Z4 (σ:=Nat) (fun st=>(HS (Vn bk1 d st) [])) (fun st=>ZgH st=some r) ?_ (fun j1=>?_))))
 ·intro vi0_1 h
  unfold ZgH at h
  exact oi h▸wr J 4 func230 []
 refine wa J 1 (Ye (σ:=Nat) (fun st=>(HS (Vn bk1 d st) [(1,.c (.cl 161 [] [])),(2,.O e),(10,.c (.v (.pointer (some ⟨bk1,0,none⟩))))])) (fun n st=>ZcK N d e n st) (r:=r) (fun _=>rfl) ?_ (fun ih=>?_))
 ·intro n2 ih3
  intro vi0_3 h
  unfold ZcK at h
  obtain ⟨K,h⟩|⟨K,h⟩:=US h
  ·exact wa J 2 (eNf bk1 0 K (wa J 5 (ZO [] (j1 vi0_3 h))))
  refine wa J 2 (eNt bk1 0 K ?_)
  refine wO J 17 h fun f g h=>ZR (ZtN N ((Utf8.decode d vi0_3).1:Int) _ g) [] [] ?_
  exact wB J 3 h (fun h=>oi h▸wr J 6 func230 []) fun h=>wa J 3 (ZO [] (ih3 (vi0_3+(Utf8.decode d vi0_3).2) h))
 exact ZO [] (ih N (0:Nat) h)
theorem Zuj (N:Nat) (d:ByteArray) (r:Int) (h:ZgA N d=some r) :
 Fn Tryz.prog 201 ⟨0,[.c (.s d),.c (.cl 161 [] [])],[],[],0,.I r,[],[]⟩:=by
 refine Z5 func201 rfl (fun E F w=>?_)
 unfold ZgA at h
 refine wO J 8 h fun e f h=>ZR (ZuA N d true _ f) [] [] ?_
 exact oi h▸wr J 2 func201 []
theorem ZtM (N:Nat) (d:ByteArray) (r:Bool) (h:Zgk N d=some r) :
 Fn Tryz.prog 160 ⟨0,[.c (.s d),.c (.cl 161 [] [])],[],[],0,.O r,[],[]⟩:=by
 refine Z5 func160 rfl (fun E F w=>?_)
 unfold Zgk at h
 refine wO J 8 h fun e f h=>ZR (Zuj N d _ f) [] [] ?_
 exact oi h▸wr J 3 func160 []
theorem Zms (N:Nat) (c:T4) (d:T5) (r:Bool) (h:z87 N c d=some r) :
 Fn Tryz.prog 87 ⟨0,[.a (cC4 c),.a (cC5 d)],[],[],0,.O r,[],[]⟩:=by
 refine Z5 func87 rfl (fun E F w=>?_)
 unfold z87 at h
 refine wB J 15 h (fun h=>wa J 13 (Yn (oi h▸wr J 5 func87 []))) fun h=>?_
 refine wO J 1 h fun e f h=>ZR (D4 N d _ f) [] [] ?_
 refine wB J 5 h (fun h=>wa J 6 (Yn (oi h▸wr J 5 func87 []))) fun h=>?_
 refine wO J 1 h fun g i h=>ZR (D4 N d _ i) [] [] (wa J 4 (Yn ?_))
 refine eB h (fun h=>oi h▸wr J 5 func87 []) fun h=>?_
 refine wB J 9 h (fun h=>oi h▸wr J 8 func87 []) fun h=>?_
 refine ZU J 8 h (fun h=>oi h▸wr J 7 func87 []) fun h=>?_
 refine wO J 2 h fun j k h=>ZR (ZtM N d.S _ k) [] [] ?_
 exact oi h▸wr J 4 func87 []
theorem Zmi (N:Nat) (c:(List T0)) (d:Int) (e:(List T5)) (r:Bool) (h:z33 N c d e=some r) :
 Fn Tryz.prog 33 ⟨2,[.S 0,.I d,.S 1],[(0,.sl rR0 c),(1,.sl Y9 e)],[],2,.O r,[],[]⟩:=by
 refine Z5 func33 rfl (fun E F w=>?_)
 unfold z33 at h
 refine wB J 10 h (fun h=>oi h▸wr J 16 func33 []) fun h=>?_
 refine wB J 6 h (fun h=>oi h▸wr J 10 func33 []) fun h=>?_
 refine wO J 1 h fun f g h=>ZR (Zmf N c _ g) [] [(0,.sl 0)] ?_
 refine wB J 3 h (fun h=>oi h▸wr J 5 func33 []) fun h=>?_
 refine wO J 5 h fun i j h=>ZR (Zmp N c _ j) [] [(0,.sl 0)] ?_
 refine wB J 11 h (fun h=>oi h▸wr J 5 func33 []) fun h=>wa J 9 (Z4 (σ:=Unit) (fun st=>⟨[],[],[(0,.sl rR0 c),(1,.sl Y9 e)],3⟩) (fun st=>ZgS=some r) ?_ (fun j1=>?_))
 ·intro _ h
  unfold ZgS at h
  exact oi h▸wr J 4 func33 []
 refine wa J 1 (Ye (σ:=Int) (fun st=>⟨[(7,.S 2),(30,.S 1),(31,.I (e.length:Int)),(32,.I st)],[(2,.own YU i true)],[(0,.sl rR0 c),(1,.sl Y9 e)],3⟩) (fun n st=>D3 N e i n st) (r:=r) (fun _=>rfl) ?_ (fun ih=>?_))
 ·intro n2 ih3
  intro k h
  unfold D3 at h
  refine ZU J 5 h (fun h=>wa J 2 (ZO [] (j1 () h))) fun h=>?_
  refine wO J 7 h fun l m h=>Ya J Wz m (wa J 9 (eEq ?_))
  refine ZU J 1 h (fun h=>wa J 9 (Yn (wa J 7 (ZO [] (ih3 (ZN (k+1)) h))))) fun h=>?_
  refine wO J 2 h fun o p h=>Y7 J YU p (wa J 1 (We J XK p ?_))
  refine wO J 1 h fun q s h=>ZR (Zms N o.Zu l _ s) [] [] (wa J 2 (Yn ?_))
  exact eB h (fun h=>oi h▸wr J 5 func33 []) fun h=>wa J 7 (ZO [] (ih3 (ZN (k+1)) h))
 exact ZO [] (ih N 0 h)
theorem Zl6 (N:Nat) (c:Int) (d:Int) (r:Int) (h:ZbW N c d=some r) :
 Fn Tryz.prog 162 ⟨0,[.I c,.I d],[],[],0,.I r,[],[]⟩:=by
 refine Z5 func162 rfl (fun E F w=>?_)
 unfold ZbW at h
 refine wB J 13 h (fun h=>oi h▸wr J 5 func162 []) fun h=>?_
 refine wB J 6 h (fun h=>oi h▸wr J 10 func162 []) fun h=>?_
 exact wB J 5 h (fun h=>oi h▸wr J 5 func162 []) fun h=>oi h▸wr J 7 func162 []
theorem Zvv (N:Nat) (c:Int) (r:YI) (h:z88 N c=some r) :
 Fn Tryz.prog 88 ⟨0,[.I c],[],[],1,.a (UH 0 r),[(0,.sl (rI .i64) r.B)],[]⟩:=by
 refine Z5 func88 rfl (fun E F w=>?_)
 unfold z88 at h
 refine wO J 12 h fun d e h=>Ge J (oI .i64) e (wa J 11 (Z4 (σ:=(List Int)) (fun st=>(Zd0 st c [(2,.B 0 0),(3,.B 2 0)])) (fun st=>Zht c st=some r) ?_ (fun j1=>?_)))
 ·intro f h
  unfold Zht at h
  refine wa J 5 (WK [1] ?_)
  cases h
  exact Y2 J func88 [(0,.sl 1)]
 refine wa J 1 (Ye (σ:=(List Int) × Int) (fun st=>(Zd0 st.1 c [(0,.I c),(2,.B 0 0),(3,.B 2 0),(15,.I (ZN (c+1))),(16,.I st.2)])) (fun n st=>HM N c n st.1 st.2) (r:=r) (fun _=>rfl) ?_ (fun ih=>?_))
 ·intro n12 ih12
  rintro ⟨g,i⟩ h
  unfold HM at h
  refine ZU J 5 h (fun h=>wa J 2 (ZO [] (j1 g h))) fun h=>wa J 15 (Z4 (σ:=(List Int)) (fun st=>(Zd0 st c [(0,.I c),(2,.B 0 0),(3,.B 2 0),(15,.I (ZN (c+1))),(16,.I i)])) (fun st=>Zhu i (HM N c n12) st=some r) ?_ (fun j19=>?_))
  ·intro j h
   unfold Zhu at h
   exact wa J 5 (ZO [] (ih12 (j,(ZN (i+1))) h))
  refine wa J 1 (Ye (σ:=(List Int) × Int) (fun st=>(Zd0 st.1 c [(0,.I c),(2,.B 0 0),(3,.B 2 0),(4,.I i),(15,.I (ZN (c+1))),(16,.I i),(20,.I (ZN (c+1))),(21,.I st.2)])) (fun n st=>ZdF N c i (HM N c n12) n st.1 st.2) (r:=r) (fun _=>rfl) ?_ (fun ih=>?_))
  ·intro n14 ih21
   rintro ⟨k,l⟩ h
   unfold ZdF at h
   refine ZU J 5 h (fun h=>wa J 2 (ZO [] (j19 k h))) fun h=>?_
   refine wO J 20 h fun m o h=>ZR (Zl6 N i l _ o) [] [] ?_
   have ⟨p,q,h⟩:=ob h
   exact Y7 J (rI .i64) q (WL J [] (oI .i64) m q (Yn (wa J 5 (ZO [] (ih21 ((YQ k (ZN ((ZN (i * (ZN (c+1))))+l)) m),(ZN (l+1))) h)))))
  exact ZO [] (ih N (g,0) h)
 exact ZO [] (ih N (d,0) h)
theorem ZuO (N:Nat) (c:Int) (r:YI × Int) (h:z34 N c=some r) :
 Fn Tryz.prog 34 ⟨0,[.I c],[],[],1,.t [.inr (UH 0 r.1),.inl (.I r.2)],[(0,.sl (rI .i64) r.1.B)],[]⟩:=by
 refine Z5 func34 rfl (fun E F w=>?_)
 unfold z34 at h
 refine wB J 11 h (fun h=>oi h▸wr J 11 func34 [(0,.nil)]) fun h=>?_
 refine wB J 4 h (fun h=>oi h▸wr J 7 func34 [(0,.nil)]) fun h=>?_
 refine wO J 5 h fun d e h=>ZR (Zvv N c _ e) [] [] ?_
 exact oi h▸wr J 3 func34 [(0,.sl 1)]
theorem Zmg (N:Nat) (c:T0) (r:(List T1)) (h:D2 N c=some r) :
 Fn Tryz.prog 29 ⟨3,[.a (X8 0 1 2 c)],(Wi 0 1 2 c []),[],4,.S 3,[],[(3,.own YV r true)]⟩:=by
 refine Z5 func29 rfl (fun E F w=>?_)
 unfold D2 at h
 refine wa J 17 (Z4 (σ:=(List T1)) (fun st=>⟨[(1,.B 3 0),(3,.S 4)],[(3,.box (X8 0 1 2 c) 74),(4,.own YV st true)],(Wi 0 1 2 c []),5⟩) (fun st=>ZcX N c st=some r) ?_ (fun j1=>?_))
 ·intro d h
  unfold ZcX at h
  refine wO J 6 h fun e f h=>YR J YV f (wa J 11 (Z4 (σ:=(List T1)) (fun st=>⟨[(3,.S 6)],[(6,.own YV st true)],(Wi 0 1 2 c []),7⟩) (fun st=>ZcW st=some r) ?_ (fun j3=>?_)))
  ·intro g h
   unfold ZcW at h
   exact oi h▸wr J 5 func29 [(3,.sl 6)]
  refine wa J 1 (Ye (σ:=(List T1) × Int) (fun st=>⟨[(3,.S 6),(44,.S 2),(45,.I (c.ZK.ZI.length:Int)),(46,.I st.2)],[(6,.own YV st.1 true)],(Wi 0 1 2 c []),7⟩) (fun n st=>Me c n st.1 st.2) (r:=r) (fun _=>rfl) ?_ (fun ih=>?_))
  ·intro n3 ih5
   rintro ⟨i,j⟩ h
   unfold Me at h
   refine ZU J 5 h (fun h=>wa J 2 (ZO [] (j3 i h))) fun h=>?_
   refine wO J 6 h fun k l h=>Ya J (oP (oI .i64) (oI .i64)) l (wa J 6 (XI 0 rfl (wa J 1 (XI 1 rfl (wa J 2 (XI 1 rfl (wa J 1 (XI 0 rfl (wa J 2 (Yy J [] WV ([(⟨k.1,k.2,0⟩:T1),(⟨k.2,k.1,0⟩:T1)]:List T1) ?_))))))))))
   have ⟨m,o,h⟩:=ob h
   exact YR J YV o (wa J 7 (ZO [(6,.sl 10)] (ih5 (m,(ZN (j+1))) h)))
  exact ZO [(6,.sl 5)] (ih N (e,0) h)
 refine wa J 1 (Ye (σ:=(List T1) × Int) (fun st=>⟨[(1,.B 3 0),(3,.S 4),(9,.S 0),(10,.I (c.Zy.length:Int)),(11,.I st.2)],[(3,.box (X8 0 1 2 c) 74),(4,.own YV st.1 true)],(Wi 0 1 2 c []),5⟩) (fun n st=>Mf N c n st.1 st.2) (r:=r) (fun _=>rfl) ?_ (fun ih=>?_))
 ·intro n4 ih6
  rintro ⟨p,q⟩ h
  unfold Mf at h
  refine ZU J 5 h (fun h=>wa J 2 (ZO [] (j1 p h))) fun h=>?_
  refine wO J 7 h fun s t h=>Ya J XK t (wa J 24 (Yy J [] WV ([(⟨(ZN (c.ZJ+q)),(-1),s.Zu.Hi⟩:T1),(⟨(-1),(ZN (c.ZJ+q)),(ZN (0-s.Zu.Lo))⟩:T1)]:List T1) ?_))
  have ⟨u,v,h⟩:=ob h
  exact YR J YV v (wa J 7 (ZO [(4,.sl 8)] (ih6 (u,(ZN (q+1))) h)))
 exact ZO [(4,.nil)] (ih N (([]:List T1),0) h)
theorem ZtO (N:Nat) (c:(List Int)) (r:Int) (h:Zgm N c=some r) :
 Fn Tryz.prog 163 ⟨1,[.S 0],[(0,.sl (rI .i64) c)],[],1,.I r,[],[]⟩:=by
 refine Z5 func163 rfl (fun E F w=>?_)
 unfold Zgm at h
 refine wB J 11 h (fun h=>?_) fun h=>?_
 ·cases h
 refine wO J 5 h fun d e h=>Ya J (oI .i64) e (wa J 8 (Z4 (σ:=Int) (fun st=>(Zd1 c [(3,.I st)])) (fun st=>Zgn st=some r) ?_ (fun j2=>?_)))
 ·intro f h
  unfold Zgn at h
  exact oi h▸wr J 5 func163 []
 refine wa J 1 (Ye (σ:=Int × Int) (fun st=>(Zd1 c [(0,.S 0),(3,.I st.1),(4,.I st.2)])) (fun n st=>ZbX c n st.1 st.2) (r:=r) (fun _=>rfl) ?_ (fun ih=>?_))
 ·intro n2 ih4
  rintro ⟨g,i⟩ h
  unfold ZbX at h
  refine ZU J 8 h (fun h=>wa J 2 (ZO [] (j2 g h))) fun h=>?_
  exact wO J 8 h fun j k h=>Ya J (oI .i64) k (wa J 10 (ZO [] (ih4 ((XJ g j),(ZN (i+1))) h)))
 exact ZO [] (ih N (d,1) h)
theorem ZtP (N:Nat) (c:(List Int)) (r:Int) (h:z164 N c=some r) :
 Fn Tryz.prog 164 ⟨1,[.S 0],[(0,.sl (rI .i64) c)],[],1,.I r,[],[]⟩:=by
 refine Z5 func164 rfl (fun E F w=>?_)
 unfold z164 at h
 refine wB J 11 h (fun h=>?_) fun h=>?_
 ·cases h
 refine wO J 5 h fun d e h=>Ya J (oI .i64) e (wa J 8 (Z4 (σ:=Int) (fun st=>(Zd1 c [(3,.I st)])) (fun st=>Zgo st=some r) ?_ (fun j2=>?_)))
 ·intro f h
  unfold Zgo at h
  exact oi h▸wr J 5 func164 []
 refine wa J 1 (Ye (σ:=Int × Int) (fun st=>(Zd1 c [(0,.S 0),(3,.I st.1),(4,.I st.2)])) (fun n st=>ZbY c n st.1 st.2) (r:=r) (fun _=>rfl) ?_ (fun ih=>?_))
 ·intro n2 ih4
  rintro ⟨g,i⟩ h
  unfold ZbY at h
  refine ZU J 8 h (fun h=>wa J 2 (ZO [] (j2 g h))) fun h=>?_
  exact wO J 8 h fun j k h=>Ya J (oI .i64) k (wa J 10 (ZO [] (ih4 ((Wy g j),(ZN (i+1))) h)))
 exact ZO [] (ih N (d,1) h)
theorem Zmt (N:Nat) (c:YI) (r:Bool) (h:z89 N c=some r) :
 Fn Tryz.prog 89 ⟨1,[.a (UH 0 c)],[(0,.sl (rI .i64) c.B)],[],1,.O r,[],[]⟩:=by
 refine Z5 func89 rfl (fun E F w=>?_)
 unfold z89 at h
 refine ZU J 11 h (fun h=>oi h▸wr J 31 func89 []) fun h=>?_
 refine ZU J 5 h (fun h=>oi h▸wr J 26 func89 []) fun h=>?_
 refine ZU J 13 h (fun h=>oi h▸wr J 13 func89 []) fun h=>?_
 refine wO J 2 h fun d e h=>ZR (ZtO N c.B _ e) [] [(0,.sl 0)] ?_
 refine ZU J 3 h (fun h=>oi h▸wr J 7 func89 []) fun h=>?_
 refine wO J 2 h fun f g h=>ZR (ZtP N c.B _ g) [] [(0,.sl 0)] ?_
 exact oi h▸wr J 4 func89 []
theorem Zmu (N:Nat) (c:YI) (d:Int) (r:Bool) (h:z90 N c d=some r) :
 Fn Tryz.prog 90 ⟨1,[.a (UH 0 c),.I d],[(0,.sl (rI .i64) c.B)],[],1,.O r,[],[]⟩:=by
 refine Z5 func90 rfl (fun E F w=>?_)
 unfold z90 at h
 exact wB J 10 h (fun h=>oi h▸wr J 7 func90 []) fun h=>oi h▸wr J 7 func90 []
theorem Zmv (N:Nat) (c:(List Int)) (r:(List Int)) (h:z91 N c=some r) :
 Fn Tryz.prog 91 ⟨1,[.S 0],[(0,.sl (rI .i64) c)],[],2,.S 1,[],[(1,.own (rI .i64) r true)]⟩:=by
 refine Z5 func91 rfl (fun E F w=>?_)
 unfold z91 at h
 refine wa J 8 (eNi (rI .i64) c false ?_)
 intro nb hnb
 cases nb
 ·refine wa J 5 (Yy J [] (oI .i64) ([]:List Int) ?_)
  refine wO J 1 h fun d e h=>YR J (rI .i64) e ?_
  exact oi h▸wr J 2 func91 [(1,.sl 2)]
 ·obtain rfl:=hnb rfl
  replace h:(some ([]:List Int):Option (List Int))=some r:=h
  exact oi h▸wr J 6 func91 [(1,.nil)]
theorem ZuP (N:Nat) (c:YI) (d:T1) (r:YI × Int) (h:z36 N c d=some r) :
 Fn Tryz.prog 36 ⟨1,[.a (UH 0 c),.a (cC1 d)],[(0,.sl (rI .i64) c.B)],[],2,.t [.inr (UH 1 r.1),.inl (.I r.2)],[(1,.sl (rI .i64) r.1.B)],[]⟩:=by
 refine Z5 func36 rfl (fun E F w=>?_)
 unfold z36 at h
 refine wO J 11 h fun e f h=>ZR (Zmt N c _ f) [] [(0,.sl 0)] ?_
 refine wB J 2 h (fun h=>oi h▸wr J 7 func36 [(1,.nil)]) fun h=>?_
 refine wO J 8 h fun g i h=>ZR (Zmu N c d.X _ i) [] [(0,.sl 0)] ?_
 refine wB J 2 h (fun h=>oi h▸wr J 14 func36 [(1,.nil)]) fun h=>?_
 refine wO J 3 h fun j k h=>ZR (Zmu N c d.Y _ k) [] [(0,.sl 0)] ?_
 refine wB J 3 h (fun h=>oi h▸wr J 7 func36 [(1,.nil)]) fun h=>?_
 refine wO J 8 h fun l m h=>ZR (Zmv N c.B _ m) [] [(0,.sl 0)] (wa J 3 (Yn ?_))
 refine wO J 23 h fun o p h=>Y7 J (rI .i64) p (We J (oI .i64) p ?_)
 refine wO J 4 h fun q s h=>Y7 J (rI .i64) s (WL J [] (oI .i64) (XJ o (Wy d.C (-20001))) s (Yn (wa J 6 (WK [4] ?_))))
 cases h
 exact Y2 J func36 [(1,.sl 4)]
theorem Zvx (N:Nat) (c:YI) (r:YI × Bool) (h:z92 N c=some r) :
 Fn Tryz.prog 92 ⟨1,[.a (UH 0 c)],[(0,.sl (rI .i64) c.B)],[],2,.t [.inr (UH 1 r.1),.inl (.b r.2)],[(1,.sl (rI .i64) r.1.B)],[]⟩:=by
 refine Z5 func92 rfl (fun E F w=>?_)
 unfold z92 at h
 refine wO J 10 h fun d e h=>ZR (Zmt N c _ e) [] [(0,.sl 0)] ?_
 refine wB J 2 h (fun h=>oi h▸wr J 7 func92 [(1,.nil)]) fun h=>?_
 refine wO J 15 h fun f g h=>ZR (Zmv N c.B _ g) [] [(0,.sl 0)] (wa J 3 (Yn (wa J 6 (Z4 (σ:=(List Int)) (fun st=>(Tb st c c.B [(2,.B 2 0),(4,.I (ZN (c.N+1))),(5,.B 4 0)])) (fun st=>ZhB N c st=some r) ?_ (fun j1=>?_)))))
 ·intro i h
  unfold ZhB at h
  refine wa J 6 (Z4 (σ:=(List Int)) (fun st=>(Tb st c c.B [(2,.B 2 0),(5,.B 4 0)])) (fun st=>Zhw c st=some r) ?_ (fun j12=>?_))
  ·intro j h
   unfold Zhw at h
   refine wa J 6 (WK [3] ?_)
   cases h
   exact Y2 J func92 [(1,.sl 3)]
  refine wa J 1 (Ye (σ:=(List Int) × Int) (fun st=>(Tb st.1 c c.B [(2,.B 2 0),(4,.I (ZN (c.N+1))),(5,.B 4 0),(56,.I (ZN (c.N+1))),(57,.I st.2)])) (fun n st=>SH N c n st.1 st.2) (r:=r) (fun _=>rfl) ?_ (fun ih=>?_))
  ·intro n89 ih86
   rintro ⟨k,l⟩ h
   unfold SH at h
   refine ZU J 5 h (fun h=>wa J 2 (ZO [] (j12 k h))) fun h=>wa J 15 (Z4 (σ:=(List Int)) (fun st=>(Tb st c c.B [(2,.B 2 0),(4,.I (ZN (c.N+1))),(5,.B 4 0),(56,.I (ZN (c.N+1))),(57,.I l)])) (fun st=>Zhz N c l (SH N c n89) st=some r) ?_ (fun j135=>?_))
   ·intro m h
    unfold Zhz at h
    refine wa J 5 (Z4 (σ:=Unit) (fun st=>(Tb m c c.B [(2,.B 2 0),(4,.I (ZN (c.N+1))),(5,.B 4 0),(56,.I (ZN (c.N+1))),(57,.I l)])) (fun st=>Zhy l (SH N c n89) m=some r) ?_ (fun j146=>?_))
    ·intro _ h
     unfold Zhy at h
     exact wa J 5 (ZO [] (ih86 (m,(ZN (l+1))) h))
    refine wa J 1 (Ye (σ:=Int) (fun st=>(Tb m c c.B [(2,.B 2 0),(4,.I (ZN (c.N+1))),(5,.B 4 0),(56,.I (ZN (c.N+1))),(57,.I l),(107,.I (ZN (c.N+1))),(108,.I st)])) (fun n st=>ZdK c l (SH N c n89) m n st) (r:=r) (fun _=>rfl) ?_ (fun ih=>?_))
    ·intro n98 ih148
     intro o h
     unfold ZdK at h
     refine ZU J 5 h (fun h=>wa J 2 (ZO [] (j146 () h))) fun h=>?_
     refine wO J 18 h fun p q h=>Y7 J (rI .i64) q (We J (oI .i64) q ?_)
     exact wB J 2 h (fun h=>oi h▸wr J 7 func92 [(1,.nil)]) fun h=>wa J 7 (ZO [] (ih148 (ZN (o+1)) h))
    exact ZO [] (ih N 0 h)
   refine wa J 1 (Ye (σ:=(List Int) × Int) (fun st=>(Tb st.1 c c.B [(2,.B 2 0),(4,.I (ZN (c.N+1))),(5,.B 4 0),(8,.I l),(56,.I (ZN (c.N+1))),(57,.I l),(60,.I (ZN (c.N+1))),(61,.I st.2)])) (fun n st=>HO N c l (SH N c n89) n st.1 st.2) (r:=r) (fun _=>rfl) ?_ (fun ih=>?_))
   ·intro n103 ih149
    rintro ⟨s,u⟩ h
    unfold HO at h
    refine ZU J 5 h (fun h=>wa J 2 (ZO [] (j135 s h))) fun h=>wa J 14 (Z4 (σ:=(List Int)) (fun st=>(Tb st c c.B [(2,.B 2 0),(4,.I (ZN (c.N+1))),(5,.B 4 0),(8,.I l),(56,.I (ZN (c.N+1))),(57,.I l),(60,.I (ZN (c.N+1))),(61,.I u)])) (fun st=>ZhA u (HO N c l (SH N c n89) n103) st=some r) ?_ (fun j156=>?_))
    ·intro v h
     unfold ZhA at h
     exact wa J 5 (ZO [] (ih149 (v,(ZN (u+1))) h))
    refine wa J 1 (Ye (σ:=(List Int) × Int) (fun st=>(Tb st.1 c c.B [(2,.B 2 0),(4,.I (ZN (c.N+1))),(5,.B 4 0),(8,.I l),(9,.I u),(56,.I (ZN (c.N+1))),(57,.I l),(60,.I (ZN (c.N+1))),(61,.I u),(64,.I (ZN (c.N+1))),(65,.I st.2)])) (fun n st=>ZdL c l u (HO N c l (SH N c n89) n103) n st.1 st.2) (r:=r) (fun _=>rfl) ?_ (fun ih=>?_))
    ·intro n105 ih158
     rintro ⟨x,y⟩ h
     unfold ZdL at h
     refine ZU J 5 h (fun h=>wa J 2 (ZO [] (j156 x h))) fun h=>?_
     refine wO J 24 h fun z A h=>Y7 J (rI .i64) A (We J (oI .i64) A ?_)
     refine wO J 7 h fun C D h=>Y7 J (rI .i64) D (We J (oI .i64) D ?_)
     refine wO J 7 h fun G H h=>Y7 J (rI .i64) H (We J (oI .i64) H ?_)
     exact wO J 2 h fun R T h=>Y7 J (rI .i64) T (WL J [] (oI .i64) (XJ z (ZN (C+G))) T (Yn (wa J 5 (ZO [] (ih158 ((YQ x (ZN ((ZN (u * (ZN (c.N+1))))+y)) (XJ z (ZN (C+G)))),(ZN (y+1))) h)))))
    exact ZO [] (ih N (s,0) h)
   exact ZO [] (ih N (k,0) h)
  exact ZO [] (ih N (i,0) h)
 refine wa J 1 (Ye (σ:=(List Int) × Int) (fun st=>(Tb st.1 c c.B [(2,.B 2 0),(4,.I (ZN (c.N+1))),(5,.B 4 0),(25,.I (ZN (c.N+1))),(26,.I st.2)])) (fun n st=>HN N c n st.1 st.2) (r:=r) (fun _=>rfl) ?_ (fun ih=>?_))
 ·intro n110 ih159
  rintro ⟨U,X⟩ h
  unfold HN at h
  refine ZU J 5 h (fun h=>wa J 2 (ZO [] (j1 U h))) fun h=>wa J 14 (Z4 (σ:=(List Int)) (fun st=>(Tb st c c.B [(2,.B 2 0),(4,.I (ZN (c.N+1))),(5,.B 4 0),(25,.I (ZN (c.N+1))),(26,.I X)])) (fun st=>Zhx X (HN N c n110) st=some r) ?_ (fun j166=>?_))
  ·intro Y h
   unfold Zhx at h
   exact wa J 5 (ZO [] (ih159 (Y,(ZN (X+1))) h))
  refine wa J 1 (Ye (σ:=(List Int) × Int) (fun st=>(Tb st.1 c c.B [(2,.B 2 0),(4,.I (ZN (c.N+1))),(5,.B 4 0),(6,.I X),(25,.I (ZN (c.N+1))),(26,.I X),(29,.I (ZN (c.N+1))),(30,.I st.2)])) (fun n st=>ZdJ N c X (HN N c n110) n st.1 st.2) (r:=r) (fun _=>rfl) ?_ (fun ih=>?_))
  ·intro n112 ih168
   rintro ⟨Z,a0⟩ h
   unfold ZdJ at h
   refine ZU J 5 h (fun h=>wa J 2 (ZO [] (j166 Z h))) fun h=>?_
   refine wO J 24 h fun b0 c0 h=>Y7 J (rI .i64) c0 (We J (oI .i64) c0 ?_)
   refine wO J 2 h fun e0 g0 h=>ZR (Zl6 N X a0 _ g0) [] [] ?_
   exact wO J 1 h fun i0 j0 h=>Y7 J (rI .i64) j0 (WL J [] (oI .i64) (XJ b0 e0) j0 (Yn (wa J 5 (ZO [] (ih168 ((YQ Z (ZN ((ZN (X * (ZN (c.N+1))))+a0)) (XJ b0 e0)),(ZN (a0+1))) h)))))
  exact ZO [] (ih N (U,0) h)
 exact ZO [] (ih N (f,0) h)
theorem Zmw (N:Nat) (c:YI) (d:Int) (e:Int) (r:Int) (h:z93 N c d e=some r) :
 Fn Tryz.prog 93 ⟨1,[.a (UH 0 c),.I d,.I e],[(0,.sl (rI .i64) c.B)],[],1,.I r,[],[]⟩:=by
 refine Z5 func93 rfl (fun E F w=>?_)
 unfold z93 at h
 refine wO J 16 h fun f g h=>Ya J (oI .i64) g ?_
 exact oi h▸wr J 3 func93 []
theorem ZuQ (N:Nat) (c:YI) (r:(List Int) × Bool) (h:z37 N c=some r) :
 Fn Tryz.prog 37 ⟨1,[.a (UH 0 c)],[(0,.sl (rI .i64) c.B)],[],2,.t [.inl (.sl 1),.inl (.b r.2)],[],[(1,.own (rI .i64) r.1 true)]⟩:=by
 refine Z5 func37 rfl (fun E F w=>?_)
 unfold z37 at h
 refine wO J 9 h fun d e h=>ZR (Zvx N c _ e) [] [(0,.sl 0)] ?_
 refine wB J 13 h (fun h=>oi h▸wr J 6 func37 [(1,.nil)]) fun h=>wa J 4 (Yy J [] (oI .i64) ([]:List Int) (wa J 9 (Z4 (σ:=(List Int)) (fun st=>⟨[(6,.S 5)],[(5,.own (rI .i64) st true)],[(0,.sl (rI .i64) c.B)],6⟩) (fun st=>ZgV st=some r) ?_ (fun j1=>?_))))
 ·intro f h
  unfold ZgV at h
  exact oi h▸wr J 6 func37 [(1,.sl 5)]
 refine wa J 1 (Ye (σ:=(List Int) × Int) (fun st=>(ZhF d.1 st.1 c.B d.1.B [(4,.B 3 0),(6,.S 5),(20,.I c.N),(21,.I st.2)])) (fun n st=>Ho N c d n st.1 st.2) (r:=r) (fun _=>rfl) ?_ (fun ih=>?_))
 ·intro n12 ih12
  rintro ⟨g,i⟩ h
  unfold Ho at h
  refine ZU J 5 h (fun h=>wa J 2 (ZO [] (j1 g h))) fun h=>?_
  refine wO J 14 h fun j k h=>ZR (Zmw N d.1 0 (ZN (i+1)) _ k) [] [(0,.sl 2)] (wa J 10 (Z4 (σ:=Int) (fun st=>(ZhF d.1 g c.B d.1.B [(4,.B 3 0),(6,.S 5),(8,.I st),(20,.I c.N),(21,.I i)])) (fun st=>ZgW g i (Ho N c d n12) st=some r) ?_ (fun j19=>?_)))
  ·intro l h
   unfold ZgW at h
   refine wa J 3 (Yy J [] (oI .i64) ([l]:List Int) ?_)
   have ⟨m,o,h⟩:=ob h
   exact YR J (rI .i64) o (wa J 7 (ZO [(5,.sl 7)] (ih12 (m,(ZN (i+1))) h)))
  refine wa J 1 (Ye (σ:=Int × Int) (fun st=>(ZhF d.1 g c.B d.1.B [(4,.B 3 0),(6,.S 5),(7,.I i),(8,.I st.1),(20,.I c.N),(21,.I i),(29,.S 5),(30,.I (g.length:Int)),(31,.I st.2)])) (fun n st=>Zc2 N d g i (Ho N c d n12) n st.1 st.2) (r:=r) (fun _=>rfl) ?_ (fun ih=>?_))
  ·intro n14 ih21
   rintro ⟨p,q⟩ h
   unfold Zc2 at h
   refine ZU J 5 h (fun h=>wa J 2 (ZO [] (j19 p h))) fun h=>?_
   refine wO J 7 h fun s u h=>Y7 J (rI .i64) u (We J (oI .i64) u ?_)
   exact wO J 11 h fun v x h=>ZR (Zmw N d.1 (ZN (q+1)) (ZN (i+1)) _ x) [] [(0,.sl 2)] (wa J 9 (ZO [] (ih21 ((Wy p (ZN (s-v))),(ZN (q+1))) h)))
  exact ZO [] (ih N ((ZN (0-j)),0) h)
 exact ZO [(5,.sl 4)] (ih N (([]:List Int),0) h)
theorem ZsN (N:Nat) (c:(List T5)) (r:(List T5)) (h:Zf0 N c=some r) :
 Fn Tryz.prog 100 ⟨1,[.S 0],[(0,.sl Y9 c)],[],2,.S 1,[],[(1,.own Y9 r true)]⟩:=by
 refine Z5 func100 rfl (fun E F w=>?_)
 unfold Zf0 at h
 refine wa J 8 (eNi Y9 c false ?_)
 intro nb hnb
 cases nb
 ·refine wa J 5 (Yy J [] Wz ([]:List T5) ?_)
  refine wO J 1 h fun d e h=>YR J Y9 e ?_
  exact oi h▸wr J 2 func100 [(1,.sl 2)]
 ·obtain rfl:=hnb rfl
  replace h:(some ([]:List T5):Option (List T5))=some r:=h
  exact oi h▸wr J 6 func100 [(1,.nil)]
theorem Zmj (N:Nat) (c:T0) (d:(List T5)) (e:(List T5)) (r:(List T5)) (h:z39 N c d e=some r) :
 Fn Tryz.prog 39 ⟨5,[.a (X8 0 1 2 c),.S 3,.S 4],(Wi 0 1 2 c [(3,.sl Y9 d),(4,.sl Y9 e)]),[],6,.S 5,[],[(5,.own Y9 r true)]⟩:=by
 refine Z5 func39 rfl (fun E F w=>?_)
 unfold z39 at h
 refine wO J 8 h fun f g h=>ZR (ZsN N e _ g) [] [(0,.sl 4)] ?_
 refine wO J 7 h fun i j h=>Gg J Y9 j ?_
 refine wO J 1 h fun k l h=>eCw J Y9 l ?_
 exact oi h▸wr J 6 func39 [(5,.sl 6)]
theorem ZuR (N:Nat) (c:T0) (d:(List T5)) (r:(List T5)) (h:z40 N c d=some r) :
 Fn Tryz.prog 40 ⟨4,[.a (X8 0 1 2 c),.S 3],(Wi 0 1 2 c []),[(3,.own Y9 d false)],4,.t [],[],[(3,.own Y9 r false)]⟩:=by
 refine Z5 func40 rfl (fun E F w=>?_)
 unfold z40 at h
 refine wO J 8 h fun e f h=>Ge J oB f (wa J 9 (Z4 (σ:=(List Bool)) (fun st=>(BL d c st [(1,.S 3),(2,.B 4 0),(4,.S 5)])) (fun st=>Zg2 N c d st=some r) ?_ (fun j1=>?_)))
 ·intro g h
  unfold Zg2 at h
  refine wa J 4 (Z4 (σ:=(List T5)) (fun st=>⟨[],[(3,.own Y9 st false)],(Wi 0 1 2 c []),6⟩) (fun st=>ZgZ st=some r) ?_ (fun j3=>?_))
  ·intro j h
   unfold ZgZ at h
   cases h
   exact Y2 J func40 []
  refine wa J 1 (Ye (σ:=(List T5) × (List Bool) × Bool) (fun st=>(BL st.1 c st.2.1 [(1,.S 3),(2,.B 4 0),(4,.S 5),(6,.O st.2.2)])) (fun n st=>Rx N c n st.1 st.2.1 st.2.2) (r:=r) (fun _=>rfl) ?_ (fun ih=>?_))
  ·intro n73 ih176
   rintro ⟨k,l,m⟩ h
   unfold Rx at h
   refine ZU J 5 h (fun h=>wa J 2 (ZO [] (j3 k h))) fun h=>wa J 15 (Z4 (σ:=(List T5) × (List Bool) × Bool) (fun st=>(BL st.1 c st.2.1 [(1,.S 3),(2,.B 4 0),(4,.S 5),(6,.O st.2.2)])) (fun st=>Zg0 (Rx N c n73) st.1 st.2.1 st.2.2=some r) ?_ (fun j291=>?_))
   ·rintro ⟨o,p,q⟩ h
    unfold Zg0 at h
    exact wa J 1 (ZO [] (ih176 (o,p,q) h))
   refine wa J 1 (Ye (σ:=(List T5) × (List Bool) × Bool × Int) (fun st=>(BL st.1 c st.2.1 [(1,.S 3),(2,.B 4 0),(4,.S 5),(6,.O st.2.2.1),(49,.S 2),(50,.I (c.ZK.ZI.length:Int)),(51,.I st.2.2.2)])) (fun n st=>Mk N c (Rx N c n73) n st.1 st.2.1 st.2.2.1 st.2.2.2) (r:=r) (fun _=>rfl) ?_ (fun ih=>?_))
   ·intro n85 ih320
    rintro ⟨s,u,v,x⟩ h
    unfold Mk at h
    refine ZU J 5 h (fun h=>wa J 2 (ZO [] (j291 (s,u,v) h))) fun h=>?_
    refine wO J 6 h fun y z h=>Ya J (oP (oI .i64) (oI .i64)) z (wa J 9 (Z4 (σ:=(List T5) × (List Bool) × Bool) (fun st=>⟨[(1,.S 3),(2,.B 4 0),(4,.S 5),(6,.O st.2.2),(49,.S 2),(50,.I (c.ZK.ZI.length:Int)),(51,.I x)],[(3,.own Y9 st.1 false),(4,.box (X8 0 1 2 c) 74),(5,.own rB st.2.1 true)],(Wi 0 1 2 c []),8⟩) (fun st=>Zg1 x (Mk N c (Rx N c n73) n85) st.1 st.2.1 st.2.2=some r) ?_ (fun j339=>?_)))
    ·rintro ⟨A,C,D⟩ h
     unfold Zg1 at h
     exact wa J 5 (ZO [] (ih320 (A,C,D,(ZN (x+1))) h))
    refine wa J 1 (Ye (σ:=(List T5) × (List Bool) × Bool × Int) (fun st=>(ZmY st.1 c st.2.1 y.1 y.2 [(1,.S 3),(2,.B 4 0),(4,.S 5),(6,.O st.2.2.1),(8,.B 7 0),(49,.S 2),(50,.I (c.ZK.ZI.length:Int)),(51,.I x),(55,.a [.I y.1,.I y.2]),(56,.I st.2.2.2)])) (fun n st=>Hp x (Mk N c (Rx N c n73) n85) y n st.1 st.2.1 st.2.2.1 st.2.2.2) (r:=r) (fun _=>rfl) ?_ (fun ih=>?_))
    ·intro n87 ih344
     rintro ⟨G,H,R,T⟩ h
     unfold Hp at h
     refine ZU J 5 h (fun h=>wa J 2 (ZO [] (j339 (G,H,R) h))) fun h=>?_
     refine wO J 7 h fun U X h=>Gc (SC.i .i64) ([y.1,y.2]:List Int) X ?_
     refine wa J 7 (Z4 (σ:=Int) (fun st=>(ZmY G c H y.1 y.2 [(1,.S 3),(2,.B 4 0),(4,.S 5),(6,.O R),(8,.B 7 0),(10,.I U),(11,.I st),(49,.S 2),(50,.I (c.ZK.ZI.length:Int)),(51,.I x),(55,.a [.I y.1,.I y.2]),(56,.I T)])) (fun st=>Zc4 G H R T (Hp x (Mk N c (Rx N c n73) n85) y n87) U st=some r) ?_ (fun j347=>?_))
     ·intro Y h
      unfold Zc4 at h
      refine wO J 4 h fun Z a0 h=>Y7 J rB a0 (We J oB a0 ?_)
      refine ZU J 1 h (fun h=>wa J 14 (ZO [] (ih344 (G,H,R,(ZN (T+1))) h))) fun h=>?_
      refine wO J 2 h fun b0 c0 h=>Y7 J rB c0 (We J oB c0 ?_)
      refine ZU J 3 h (fun h=>wa J 7 (ZO [] (ih344 (G,H,R,(ZN (T+1))) h))) fun h=>?_
      refine wO J 8 h fun e0 g0 h=>Y7 J Y9 g0 (wa J 1 (We J Wz g0 ?_))
      have ⟨i0,j0,h⟩:=ob h
      refine Y7 J Y9 j0 (wa J 1 (WL J [] Wz (⟨i0.Zq,i0.N,e0.S⟩:T5) j0 ?_))
      have ⟨k0,l0,h⟩:=ob h
      exact Y7 J rB l0 (WL J [] oB true l0 (wa J 7 (ZO [] (ih344 ((YQ G U (⟨i0.Zq,i0.N,e0.S⟩:T5)),(YQ H U true),true,(ZN (T+1))) h))))
     obtain ⟨K,h⟩|⟨K,h⟩:=oc h
     ·exact XI 0 (by exact eq_of_beq K) (wa J 3 (ZO [] (j347 y.1 h)))
     obtain ⟨K,h⟩|⟨K,h⟩:=oc h
     ·exact XI 1 (by exact eq_of_beq K) (wa J 3 (ZO [] (j347 y.2 h)))
     cases h
    exact ZO [] (ih N (s,u,v,0) h)
   exact ZO [] (ih N (k,l,false,0) h)
  exact ZO [] (ih N (d,g,true) h)
 refine wa J 1 (Ye (σ:=(List Bool) × Int) (fun st=>(BL d c st.1 [(1,.S 3),(2,.B 4 0),(4,.S 5),(16,.I (d.length:Int)),(17,.I st.2)])) (fun n st=>Hq N c d n st.1 st.2) (r:=r) (fun _=>rfl) ?_ (fun ih=>?_))
 ·intro n88 ih348
  rintro ⟨m0,o0⟩ h
  unfold Hq at h
  refine ZU J 5 h (fun h=>wa J 2 (ZO [] (j1 m0 h))) fun h=>?_
  refine wB J 17 h (fun h=>?_) fun h=>?_
  ·refine wO J 12 h fun p0 q0 h=>Y7 J Y9 q0 (wa J 1 (We J Wz q0 ?_))
   exact wO J 2 h fun s0 t0 h=>Y7 J rB t0 (WL J [] oB (p0.Zq != 0) t0 (wa J 6 (ZO [] (ih348 ((YQ m0 o0 (p0.Zq != 0)),(ZN (o0+1))) h))))
  refine ZU J 10 h (fun h=>?_) fun h=>?_
  ·exact wO J 7 h fun u0 v0 h=>Y7 J rB v0 (WL J [] oB false v0 (wa J 6 (ZO [] (ih348 ((YQ m0 o0 false),(ZN (o0+1))) h))))
  refine wO J 2 h fun x0 y0 h=>Y7 J Y9 y0 (wa J 1 (We J Wz y0 ?_))
  exact wO J 2 h fun z0 A0 h=>Y7 J rB A0 (WL J [] oB (x0.Zq != 0) A0 (wa J 6 (ZO [] (ih348 ((YQ m0 o0 (x0.Zq != 0)),(ZN (o0+1))) h))))
 exact ZO [] (ih N (e,0) h)
theorem Zmk (N:Nat) (c:T3) (d:(List T5)) (r:Bool) (h:z41 N c d=some r) :
 Fn Tryz.prog 41 ⟨3,[.a [.sl 0,.sl 1],.S 2],[(0,.sl YV c.ZH),(1,.sl (rP (rI .i64) (rI .i64)) c.ZI),(2,.sl Y9 d)],[],3,.O r,[],[]⟩:=by
 refine Z5 func41 rfl (fun E F w=>?_)
 unfold z41 at h
 refine wa J 13 (Z4 (σ:=Unit) (fun st=>(ZmZ c.ZH c.ZI d [(1,.S 2),(2,.B 3 0)])) (fun st=>Zg4 N c d=some r) ?_ (fun j1=>?_))
 ·intro _ h
  unfold Zg4 at h
  refine wa J 8 (Z4 (σ:=Unit) (fun st=>⟨[],[],[(0,.sl YV c.ZH),(1,.sl (rP (rI .i64) (rI .i64)) c.ZI),(2,.sl Y9 d)],4⟩) (fun st=>Zg3=some r) ?_ (fun j12=>?_))
  ·intro _ h
   unfold Zg3 at h
   exact oi h▸wr J 4 func41 []
  refine wa J 1 (Ye (σ:=Int) (fun st=>⟨[(1,.S 2),(55,.S 1),(56,.I (c.ZI.length:Int)),(57,.I st)],[],[(0,.sl YV c.ZH),(1,.sl (rP (rI .i64) (rI .i64)) c.ZI),(2,.sl Y9 d)],4⟩) (fun n st=>Zc6 c d n st) (r:=r) (fun _=>rfl) ?_ (fun ih=>?_))
  ·intro n9 ih14
   intro e h
   unfold Zc6 at h
   refine ZU J 5 h (fun h=>wa J 2 (ZO [] (j12 () h))) fun h=>?_
   refine wO J 6 h fun f g h=>Ya J (oP (oI .i64) (oI .i64)) g (wa J 7 (XI 0 rfl ?_))
   refine wO J 1 h fun j k h=>Ya J Wz k ?_
   refine wB J 4 h (fun h=>wa J 23 (Yn (oi h▸wr J 5 func41 []))) fun h=>wa J 1 (XI 1 rfl ?_)
   refine wO J 1 h fun l m h=>Ya J Wz m ?_
   refine wB J 5 h (fun h=>wa J 14 (Yn (oi h▸wr J 5 func41 []))) fun h=>wa J 1 (XI 0 rfl ?_)
   refine wO J 1 h fun o p h=>Ya J Wz p (wa J 3 (XI 1 rfl ?_))
   refine wO J 1 h fun q s h=>Ya J Wz s (wa J 4 (Yn ?_))
   exact eB h (fun h=>oi h▸wr J 5 func41 []) fun h=>wa J 7 (ZO [] (ih14 (ZN (e+1)) h))
  exact ZO [] (ih N 0 h)
 refine wa J 1 (Ye (σ:=Int) (fun st=>(ZmZ c.ZH c.ZI d [(1,.S 2),(2,.B 3 0),(13,.S 0),(14,.I (c.ZH.length:Int)),(15,.I st)])) (fun n st=>Hr N c d n st) (r:=r) (fun _=>rfl) ?_ (fun ih=>?_))
 ·intro n14 ih15
  intro t h
  unfold Hr at h
  refine ZU J 5 h (fun h=>wa J 2 (ZO [] (j1 () h))) fun h=>?_
  refine wO J 6 h fun u v h=>Ya J WV v (wa J 20 (Z4 (σ:=Int × Int) (fun st=>(Zm0 u st.1 st.2 c.ZH c.ZI d [(1,.S 2),(2,.B 3 0),(6,.B 5 0),(7,.B 6 0),(13,.S 0),(14,.I (c.ZH.length:Int)),(15,.I t)])) (fun st=>Zg5 t (Hr N c d n14) u st.1 st.2=some r) ?_ (fun j22=>?_)))
  ·rintro ⟨x,y⟩ h
   unfold Zg5 at h
   refine wa J 2 (XI 0 rfl (wa J 1 (XI 1 rfl ?_)))
   exact wB J 6 h (fun h=>oi h▸wr J 5 func41 []) fun h=>wa J 7 (ZO [] (ih15 (ZN (t+1)) h))
  refine wa J 1 (Ye (σ:=Int × Int × Int) (fun st=>(Zm0 u st.1 st.2.1 c.ZH c.ZI d [(1,.S 2),(2,.B 3 0),(6,.B 5 0),(7,.B 6 0),(13,.S 0),(14,.I (c.ZH.length:Int)),(15,.I t),(24,.a [.I u.X,.I u.Y]),(25,.I st.2.2)])) (fun n st=>Hs N d t (Hr N c d n14) u n st.1 st.2.1 st.2.2) (r:=r) (fun _=>rfl) ?_ (fun ih=>?_))
  ·intro n16 ih24
   rintro ⟨z,A,C⟩ h
   unfold Hs at h
   refine ZU J 5 h (fun h=>wa J 2 (ZO [] (j22 (z,A) h))) fun h=>?_
   refine wO J 7 h fun D G h=>Gc (SC.i .i64) ([u.X,u.Y]:List Int) G ?_
   refine wB J 9 h (fun h=>wa J 6 (ZO [] (ih24 (z,A,(ZN (C+1))) h))) fun h=>?_
   refine wO J 7 h fun H R h=>Ya J Wz R ?_
   refine wB J 4 h (fun h=>oi h▸wr J 5 func41 []) fun h=>?_
   refine wO J 6 h fun T U h=>Ya J Wz U ?_
   refine wO J 1 h fun Z a0 h=>ZR (D4 N T _ a0) [] [] ?_
   obtain ⟨K,h⟩|⟨K,h⟩:=oc h
   ·exact XI 0 (by exact eq_of_beq K) (wa J 7 (ZO [] (ih24 (Z,A,(ZN (C+1))) h)))
   obtain ⟨K,h⟩|⟨K,h⟩:=oc h
   ·exact XI 1 (by exact eq_of_beq K) (wa J 7 (ZO [] (ih24 (z,Z,(ZN (C+1))) h)))
   cases h
  exact ZO [] (ih N (0,0,0) h)
 exact ZO [] (ih N 0 h)
theorem Zml (N:Nat) (c:(List T2)) (d:(List T5)) (r:Bool) (h:z42 N c d=some r) :
 Fn Tryz.prog 42 ⟨2,[.S 0,.S 1],[(0,.sl YU c),(1,.sl Y9 d)],[],2,.O r,[],[]⟩:=by
 refine Z5 func42 rfl (fun E F w=>?_)
 unfold z42 at h
 refine wB J 13 h (fun h=>oi h▸wr J 5 func42 []) fun h=>wa J 9 (Z4 (σ:=Unit) (fun st=>⟨[],[],[(0,.sl YU c),(1,.sl Y9 d)],2⟩) (fun st=>Zg6=some r) ?_ (fun j1=>?_))
 ·intro _ h
  unfold Zg6 at h
  exact oi h▸wr J 4 func42 []
 refine wa J 1 (Ye (σ:=Int) (fun st=>⟨[(1,.S 1),(12,.S 0),(13,.I (c.length:Int)),(14,.I st)],[],[(0,.sl YU c),(1,.sl Y9 d)],2⟩) (fun n st=>Zc8 N c d n st) (r:=r) (fun _=>rfl) ?_ (fun ih=>?_))
 ·intro n2 ih3
  intro e h
  unfold Zc8 at h
  refine ZU J 5 h (fun h=>wa J 2 (ZO [] (j1 () h))) fun h=>?_
  refine wO J 7 h fun f g h=>Ya J XK g ?_
  refine wO J 11 h fun i j h=>Ya J Wz j ?_
  refine wO J 1 h fun k l h=>ZR (Zms N f.Zu i _ l) [] [] (wa J 1 (Yn ?_))
  exact eB h (fun h=>oi h▸wr J 5 func42 []) fun h=>wa J 7 (ZO [] (ih3 (ZN (e+1)) h))
 exact ZO [] (ih N 0 h)
theorem Zto (N:Nat) (c:(List T0)) (d:Int) (e:(List T5)) (r:(List T5) × Bool) (h:z12 N c d e=some r) :
 Fn Tryz.prog 12 ⟨2,[.S 0,.I d,.S 1],[(0,.sl rR0 c),(1,.sl Y9 e)],[],3,.t [.inl (.sl 2),.inl (.b r.2)],[],[(2,.own Y9 r.1 true)]⟩:=by
 refine Z5 func12 rfl (fun E F w=>?_)
 unfold z12 at h
 refine wO J 11 h fun f g h=>ZR (Zmi N c d e _ g) [] [(0,.sl 0),(1,.sl 1)] ?_
 refine wB J 2 h (fun h=>oi h▸wr J 6 func12 [(2,.nil)]) fun h=>?_
 refine wO J 6 h fun j k h=>Ya J S7 k ?_
 refine wO J 14 h fun l m h=>ZR (ZuO N (j.Zy.length:Int) _ m) [] [] ?_
 refine wO J 11 h fun o p h=>ZR (Zmg N j _ p) [] [(0,.sl 3),(1,.sl 4),(2,.sl 5)] (wa J 3 (Z4 (σ:=Int × (List Int)) (fun st=>⟨[(2,.S 1),(8,.B 6 0),(9,.I (j.Zy.length:Int)),(10,.B 8 0)],[(6,.box (X8 3 4 5 j) 74),(8,.box [.I st.1,.sl 10] 114)],((0,.sl rR0 c)::(1,.sl Y9 e)::Wi 3 4 5 j [(10,.sl (rI .i64) st.2)]),11⟩) (fun st=>Zf6 N e j st.1 st.2=some r) ?_ (fun j1=>?_)))
 ·rintro ⟨q,s⟩ h
  unfold Zf6 at h
  refine wO J 3 h fun u v h=>ZR (ZuQ N (⟨q,s⟩:YI) _ v) [] [(0,.sl 10)] ?_
  refine wB J 12 h (fun h=>oi h▸wr J 6 func12 [(2,.nil)]) fun h=>?_
  refine wO J 5 h fun x y h=>Ge J Wz y (wa J 10 (Z4 (σ:=(List T5)) (fun st=>⟨[(2,.S 1),(8,.B 6 0),(9,.I (j.Zy.length:Int)),(20,.S 12)],[(6,.box (X8 3 4 5 j) 74),(12,.own Y9 st true)],((0,.sl rR0 c)::(1,.sl Y9 e)::Wi 3 4 5 j []),13⟩) (fun st=>Zf5 N e j st=some r) ?_ (fun j36=>?_)))
  ·intro z h
   unfold Zf5 at h
   refine wO J 5 h fun A D h=>XA (Zmj N j z e _ D) [] [(0,.sl 3),(1,.sl 4),(2,.sl 5),(3,.sl 12),(4,.sl 1)] [12] (.inr ⟨rfl,⟨(Zfn (Lf (Q5 _) (Lf (Q5 _) Zfs))),trivial⟩⟩) ?_
   refine wO J 6 h fun G H h=>ZR (ZuR N j A _ H) [] [(0,.sl 3),(1,.sl 4),(2,.sl 5),(3,.sl 13)] ?_
   refine wO J 11 h fun R T h=>Gg J Y9 T ?_
   have ⟨U,Z,h⟩:=ob h
   refine eDp J Y9 T Z ?_
   refine wO J 7 h fun a0 b0 h=>XA (Zmk N j.ZK G _ b0) [] [(0,.sl 4),(1,.sl 5),(2,.sl 13)] [13] (.inr ⟨rfl,trivial⟩) ?_
   refine wB J 2 h (fun h=>oi h▸wr J 13 func12 [(2,.nil)]) fun h=>?_
   refine wO J 3 h fun c0 e0 h=>XA (Zml N j.Zy U.1 _ e0) [] [(0,.sl 3),(1,.sl 12)] [12] (.inr ⟨rfl,trivial⟩) ?_
   exact wB J 3 h (fun h=>oi h▸wr J 6 func12 [(2,.nil)]) fun h=>oi h▸wr J 8 func12 [(2,.sl 12)]
  refine wa J 1 (Ye (σ:=(List T5) × Int) (fun st=>⟨[(2,.S 1),(8,.B 6 0),(9,.I (j.Zy.length:Int)),(18,.S 11),(20,.S 12),(129,.S 3),(130,.I (j.Zy.length:Int)),(131,.I st.2)],[(6,.box (X8 3 4 5 j) 74),(11,.own (rI .i64) u.1 true),(12,.own Y9 st.1 true)],((0,.sl rR0 c)::(1,.sl Y9 e)::Wi 3 4 5 j []),13⟩) (fun n st=>Dg N e j u n st.1 st.2) (r:=r) (fun _=>rfl) ?_ (fun ih=>?_))
  ·intro n9 ih38
   rintro ⟨g0,i0⟩ h
   unfold Dg at h
   refine ZU J 5 h (fun h=>wa J 2 (ZO [] (j36 g0 h))) fun h=>?_
   refine wO J 7 h fun j0 k0 h=>Ya J XK k0 ?_
   refine wO J 14 h fun l0 m0 h=>Y7 J (rI .i64) m0 (We J (oI .i64) m0 ?_)
   refine wO J 1 h fun o0 p0 h=>Y7 J Y9 p0 (WL J [] Wz (⟨j0.Zu.Zq,l0,(str [])⟩:T5) p0 (Yn ?_))
   refine ZU J 7 h (fun h=>wa J 7 (ZO [] (ih38 ((YQ g0 i0 (⟨j0.Zu.Zq,l0,(str [])⟩:T5)),(ZN (i0+1))) h))) fun h=>?_
   refine wO J 6 h fun q0 s0 h=>Y7 J (rI .i64) s0 (We J (oI .i64) s0 ?_)
   have ⟨t0,u0,h⟩:=ob h
   refine ZR (ZgX N (str [97]) q0 _ u0) [] [] ?_
   exact wO J 1 h fun v0 x0 h=>Y7 J Y9 x0 (WL J [] Wz (⟨2,0,t0⟩:T5) x0 (wa J 6 (ZO [] (ih38 ((YQ (YQ g0 i0 (⟨j0.Zu.Zq,l0,(str [])⟩:T5)) i0 (⟨2,0,t0⟩:T5)),(ZN (i0+1))) h))))
  exact ZO [] (ih N (x,0) h)
 refine wa J 1 (Ye (σ:=Int × (List Int) × Int) (fun st=>⟨[(2,.S 1),(8,.B 6 0),(9,.I (j.Zy.length:Int)),(10,.B 8 0),(42,.S 9),(43,.I (o.length:Int)),(44,.I st.2.2)],[(6,.box (X8 3 4 5 j) 74),(8,.box [.I st.1,.sl 10] 114),(9,.own YV o true)],((0,.sl rR0 c)::(1,.sl Y9 e)::Wi 3 4 5 j [(10,.sl (rI .i64) st.2.1)]),11⟩) (fun n st=>Px N e j o n st.1 st.2.1 st.2.2) (r:=r) (fun _=>rfl) ?_ (fun ih=>?_))
 ·intro n14 ih39
  rintro ⟨y0,z0,A0⟩ h
  unfold Px at h
  refine ZU J 5 h (fun h=>wa J 2 (ZO [] (j1 (y0,z0) h))) fun h=>?_
  refine wO J 6 h fun B0 C0 h=>Y7 J YV C0 (We J WV C0 (wa J 25 (Z4 (σ:=Int × Int × Int) (fun st=>(ZhG j y0 o st.2.1 st.2.2 c e z0 [(2,.S 1),(8,.B 6 0),(9,.I (j.Zy.length:Int)),(10,.B 8 0),(14,.I st.1),(15,.B 13 0),(42,.S 9),(43,.I (o.length:Int)),(44,.I A0)])) (fun st=>Zf7 N y0 z0 A0 (Px N e j o n14) st.1 st.2.1 st.2.2=some r) ?_ (fun j62=>?_))))
  ·rintro ⟨D0,G0,H0⟩ h
   unfold Zf7 at h
   refine wa J 2 (XI 0 rfl (wa J 1 (XI 1 rfl ?_)))
   exact wO J 3 h fun I0 L0 h=>ZR (ZuP N (⟨y0,z0⟩:YI) (⟨G0,H0,D0⟩:T1) _ L0) [] [(0,.sl 10)] (wa J 10 (ZO [(10,.sl 14)] (ih39 (I0.1.N,I0.1.B,(ZN (A0+1))) h)))
  refine wa J 1 (Ye (σ:=Int × Int × Int × Int) (fun st=>(ZhG j y0 o st.2.1 st.2.2.1 c e z0 [(2,.S 1),(8,.B 6 0),(9,.I (j.Zy.length:Int)),(10,.B 8 0),(14,.I st.1),(15,.B 13 0),(42,.S 9),(43,.I (o.length:Int)),(44,.I A0),(55,.a [.I B0.X,.I B0.Y]),(56,.I st.2.2.2)])) (fun n st=>Py N e j y0 z0 A0 (Px N e j o n14) B0 n st.1 st.2.1 st.2.2.1 st.2.2.2) (r:=r) (fun _=>rfl) ?_ (fun ih=>?_))
  ·intro n16 ih68
   rintro ⟨M0,O0,R0,S0⟩ h
   unfold Py at h
   refine ZU J 5 h (fun h=>wa J 2 (ZO [] (j62 (M0,O0,R0) h))) fun h=>?_
   refine wO J 7 h fun U0 V0 h=>Gc (SC.i .i64) ([B0.X,B0.Y]:List Int) V0 ?_
   refine wB J 10 h (fun h=>wa J 8 (ZO [] (ih68 (M0,O0,R0,(ZN (S0+1))) h))) fun h=>?_
   refine wa J 8 (Z4 (σ:=Bool) (fun st=>(ZhG j y0 o O0 R0 c e z0 [(2,.S 1),(8,.B 6 0),(9,.I (j.Zy.length:Int)),(10,.B 8 0),(14,.I M0),(15,.B 13 0),(16,.I S0),(17,.I U0),(42,.S 9),(43,.I (o.length:Int)),(44,.I A0),(55,.a [.I B0.X,.I B0.Y]),(56,.I S0),(70,.O st)])) (fun st=>Zbw N e j M0 O0 R0 S0 (Py N e j y0 z0 A0 (Px N e j o n14) B0 n16) U0 st=some r) ?_ (fun j72=>?_))
   ·intro X0 h
    unfold Zbw at h
    refine eB h (fun h=>?_) fun h=>?_
    ·obtain ⟨K,h⟩|⟨K,h⟩:=oc h
     ·exact wa J 7 (XI 0 (by exact eq_of_beq K) (wa J 8 (ZO [] (ih68 (M0,(ZN (U0-j.ZJ)),R0,(ZN (S0+1))) h))))
     obtain ⟨K,h⟩|⟨K,h⟩:=oc h
     ·exact wa J 7 (XI 1 (by exact eq_of_beq K) (wa J 8 (ZO [] (ih68 (M0,O0,(ZN (U0-j.ZJ)),(ZN (S0+1))) h))))
     cases h
    refine wO J 5 h fun Y0 Z0 h=>Ya J Wz Z0 ?_
    refine wB J 5 h (fun h=>oi h▸wr J 6 func12 [(2,.nil)]) fun h=>?_
    refine wB J 7 h (fun h=>?_) fun h=>?_
    ·refine wO J 5 h fun a1 b1 h=>Ya J Wz b1 ?_
     exact wO J 1 h fun c1 e1 h=>ZR (D4 N a1 _ e1) [] [] (wa J 9 (ZO [] (ih68 ((ZN (M0-c1)),O0,R0,(ZN (S0+1))) h)))
    refine wO J 5 h fun g1 i1 h=>Ya J Wz i1 ?_
    exact wO J 1 h fun k1 l1 h=>ZR (D4 N g1 _ l1) [] [] (wa J 9 (ZO [] (ih68 ((ZN (M0+k1)),O0,R0,(ZN (S0+1))) h)))
   exact eB h (fun h=>wa J 9 (ZO [] (j72 (decide (U0 < (ZN (j.ZJ+(j.Zy.length:Int))))) h))) fun h=>wa J 9 (ZO [] (j72 false h))
  exact ZO [] (ih N (B0.C,(-1),(-1),0) h)
 exact ZO [(10,.sl 7)] (ih N (l.1.N,l.1.B,0) h)
theorem Ztz (N:Nat) (c:(List T0)) (d:Int) (e:(List T5)) (f:(List T5)) (r:Bool) (h:z13 N c d e f=some r) :
 Fn Tryz.prog 13 ⟨3,[.S 0,.I d,.S 1,.S 2],[(0,.sl rR0 c),(1,.sl Y9 e),(2,.sl Y9 f)],[],3,.O r,[],[]⟩:=by
 refine Z5 func13 rfl (fun E F w=>?_)
 unfold z13 at h
 refine wO J 10 h fun g i h=>ZR (Zmi N c d f _ i) [] [(0,.sl 0),(1,.sl 2)] ?_
 refine wB J 2 h (fun h=>oi h▸wr J 15 func13 []) fun h=>?_
 refine wO J 2 h fun j k h=>Ya J S7 k ?_
 refine wO J 3 h fun l m h=>ZR (Zml N j.Zy e _ m) [] [(0,.sl 4),(1,.sl 1)] ?_
 refine wB J 3 h (fun h=>oi h▸wr J 5 func13 []) fun h=>?_
 refine wO J 6 h fun o p h=>Ya J S7 p ?_
 refine wO J 11 h fun q s h=>ZR (Zmj N o e f _ s) [] [(0,.sl 8),(1,.sl 9),(2,.sl 10),(3,.sl 1),(4,.sl 2)] ?_
 have ⟨t,u,h⟩:=ob h
 refine XA (Zmk N o.ZK q _ u) [] [(0,.sl 9),(1,.sl 10),(2,.sl 12)] [12] (.inr ⟨rfl,trivial⟩) (wa J 1 (Yn ?_))
 cases h
 exact Y2 J func13 []
theorem Zg7 (N:Nat) (r:Bool) (h:z4 N=some r) :
 Fn Tryz.prog 4 ⟨1,[],[],[(0,.abs powT)],1,.O r,[],[(0,.abs powT)]⟩:=by
 refine Z5 func4 rfl (fun E F w=>?_)
 unfold z4 at h
 refine wO J 6 h fun c d h=>ZR (Ztd N (str [112,114,111,116,111,99,111,108,32,80,40,65,41,32,123,32,109,101,115,115,97,103,101,32,97,40,120,58,32,105,110,116,32,48,46,46,57,41,59,32,109,101,115,115,97,103,101,32,98,40,121,58,32,105,110,116,32,48,46,46,57,44,32,122,58,32,105,110,116,32,48,46,46,57,41,32,119,104,101,114,101,32,121,32,62,32,97,46,120,32,97,110,100,32,122,32,62,61,32,121,59,32,125]) _ d) [] [(0,.sl 0)] ?_
 refine wB J 14 h (fun h=>oi h▸wr J 10 func4 []) fun h=>?_
 refine wB J 5 h (fun h=>oi h▸wr J 5 func4 []) fun h=>?_
 refine wO J 5 h fun e f h=>Ya J Vp f ?_
 refine wO J 2 h fun g i h=>ZR (Zmq N e.ZE _ i) [] [(0,.sl 4),(1,.sl 0)] (wa J 13 (Yy J [] Wz ([(⟨1,3,(str [])⟩:T5),(⟨0,0,(str [])⟩:T5),(⟨0,0,(str [])⟩:T5)]:List T5) ?_))
 refine wO J 6 h fun j k h=>XA (Zto N g.1 1 ([(⟨1,3,(str [])⟩:T5),(⟨0,0,(str [])⟩:T5),(⟨0,0,(str [])⟩:T5)]:List T5) _ k) [] [(0,.sl 6),(1,.sl 7)] [6,7] (.inr ⟨rfl,⟨(Zfn (Lf (Q5 _) (Lf (Q5 _) Zfs))),trivial⟩⟩) ?_
 refine ZU J 11 h (fun h=>oi h▸wr J 29 func4 []) fun h=>?_
 refine ZU J 3 h (fun h=>oi h▸wr J 26 func4 []) fun h=>?_
 refine ZU J 5 h (fun h=>oi h▸wr J 21 func4 []) fun h=>?_
 refine wO J 1 h fun l m h=>Y7 J Y9 m (wa J 1 (We J Wz m ?_))
 refine ZU J 3 h (fun h=>oi h▸wr J 14 func4 []) fun h=>?_
 refine wO J 1 h fun o p h=>Y7 J Y9 p (wa J 1 (We J Wz p ?_))
 refine ZU J 3 h (fun h=>oi h▸wr J 7 func4 []) fun h=>?_
 refine wO J 3 h fun q s h=>XA (Ztz N g.1 1 j.1 ([(⟨1,3,(str [])⟩:T5),(⟨0,0,(str [])⟩:T5),(⟨0,0,(str [])⟩:T5)]:List T5) _ s) [] [(0,.sl 6),(1,.sl 8),(2,.sl 7)] [6,8,7] (.inr ⟨rfl,trivial⟩) ?_
 exact oi h▸wr J 3 func4 []
theorem ZtE (N:Nat) (rc:(List ZY)->Option Int) (rcT:(∀ (c:(List ZY)) (r:Int),rc c=some r->Fn Tryz.prog 14 ⟨1,[.S 0],[(0,.sl YA c)],[],1,.I r,[],[]⟩)) (c:(List ZY)) (r:Int) (h:Do N rc c=some r) :
 Fn Tryz.prog 14 ⟨1,[.S 0],[(0,.sl YA c)],[],1,.I r,[],[]⟩:=by
 refine Z5 func14 rfl (fun E F w=>?_)
 unfold Do at h
 refine wa J 13 (Z4 (σ:=Int) (fun st=>(Tc c [(3,.I st)])) (fun st=>ZbN st=some r) ?_ (fun j1=>?_))
 ·intro d h
  unfold ZbN at h
  exact oi h▸wr J 5 func14 []
 refine wa J 1 (Ye (σ:=Int × Int) (fun st=>(Tc c [(0,.S 0),(3,.I st.1),(4,.I st.2)])) (fun n st=>Rm N rc c n st.1 st.2) (r:=r) (fun _=>rfl) ?_ (fun ih=>?_))
 ·intro n12 ih12
  rintro ⟨e,f⟩ h
  unfold Rm at h
  refine ZU J 8 h (fun h=>wa J 2 (ZO [] (j1 e h))) fun h=>wa J 14 (Z4 (σ:=Int) (fun st=>(Tc c [(0,.S 0),(3,.I st),(4,.I f)])) (fun st=>ZbO f (Rm N rc c n12) st=some r) ?_ (fun j19=>?_))
  ·intro g h
   unfold ZbO at h
   exact wa J 6 (ZO [] (ih12 (g,(ZN (f+1))) h))
  refine wa J 1 (Ye (σ:=Int × Int) (fun st=>(Tc c [(0,.S 0),(3,.I st.1),(4,.I f),(5,.I st.2)])) (fun n st=>Qc rc c f (Rm N rc c n12) n st.1 st.2) (r:=r) (fun _=>rfl) ?_ (fun ih=>?_))
  ·intro n14 ih21
   rintro ⟨i,j⟩ h
   unfold Qc at h
   refine wO J 6 h fun k l h=>Ya J Us l ?_
   refine ZU J 5 h (fun h=>wa J 2 (ZO [] (j19 i h))) fun h=>?_
   refine wO J 8 h fun m o h=>Ya J Us o ?_
   refine wO J 3 h fun p q h=>Ya J (Y8 YA) q ?_
   exact wO J 1 h fun s t h=>ZR (rcT p _ t) [] [(0,.sl 8)] (wa J 9 (ZO [] (ih21 ((ZN (i+s)),(ZN (j+1))) h)))
  exact ZO [] (ih N ((ZN (e+1)),0) h)
 exact ZO [] (ih N (0,0) h)
theorem ZtF:∀ (N:Nat) (c:(List ZY)) (r:Int) (h:ZbP N c=some r),Fn Tryz.prog 14 ⟨1,[.S 0],[(0,.sl YA c)],[],1,.I r,[],[]⟩:=by
 intro N
 induction N with
 | zero=>intros;rename_i h;cases h
 | succ N ih=>intro c r h;exact ZtE N (ZbP N) ih c r h
theorem ZlZ (N:Nat) (c:(List ZY)) (r:Int) (h:Qa N c=some r):Fn Tryz.prog 14 ⟨1,[.S 0],[(0,.sl YA c)],[],1,.I r,[],[]⟩:=ZtF N c r h
theorem Zu9 (N:Nat) (c:(List Z3)) (r:Bool) (h:z5 N c=some r) :
 Fn Tryz.prog 5 ⟨1,[.S 0],[(0,.sl Yw c)],[],1,.O r,[],[]⟩:=by
 refine Z5 func5 rfl (fun E F w=>?_)
 unfold z5 at h
 refine wa J 14 (Z4 (σ:=Int × Int) (fun st=>(HU c [(0,.S 0),(3,.I st.1),(4,.I st.2)])) (fun st=>Zdh c st.1 st.2=some r) ?_ (fun j1=>?_))
 ·rintro ⟨d,e⟩ h
  unfold Zdh at h
  refine ZU J 6 h (fun h=>oi h▸wr J 9 func5 []) fun h=>?_
  exact wB J 4 h (fun h=>oi h▸wr J 5 func5 []) fun h=>oi h▸wr J 5 func5 []
 refine wa J 1 (Ye (σ:=Int × Int × Int) (fun st=>(HU c [(0,.S 0),(3,.I st.1),(4,.I st.2.1),(5,.I st.2.2)])) (fun n st=>SA N c n st.1 st.2.1 st.2.2) (r:=r) (fun _=>rfl) ?_ (fun ih=>?_))
 ·intro n12 ih12
  rintro ⟨f,g,i⟩ h
  unfold SA at h
  refine ZU J 8 h (fun h=>wa J 2 (ZO [] (j1 (f,g) h))) fun h=>?_
  refine wO J 9 h fun j k h=>Ya J WQ k ?_
  refine wO J 2 h fun l m h=>ZR (ZlZ N j.ZF _ m) [] [(0,.sl 4)] ?_
  refine wO J 8 h fun o p h=>Ya J WQ p (wa J 10 (Z4 (σ:=Unit) (fun st=>(HV c [(0,.S 0),(3,.I (ZN (f+l))),(4,.I (ZN (g+(o.ZE.length:Int)))),(5,.I i)])) (fun st=>Zdi f g i (SA N c n12) l o=some r) ?_ (fun j19=>?_)))
  ·intro _ h
   unfold Zdi at h
   exact wa J 6 (ZO [] (ih12 ((ZN (f+l)),(ZN (g+(o.ZE.length:Int))),(ZN (i+1))) h))
  refine wa J 1 (Ye (σ:=Int) (fun st=>(HV c [(0,.S 0),(3,.I (ZN (f+l))),(4,.I (ZN (g+(o.ZE.length:Int)))),(5,.I i),(6,.I st)])) (fun n st=>Mt c f g i (SA N c n12) l o n st) (r:=r) (fun _=>rfl) ?_ (fun ih=>?_))
  ·intro n14 ih21
   intro q h
   unfold Mt at h
   refine wO J 6 h fun s t h=>Ya J WQ t ?_
   refine ZU J 5 h (fun h=>wa J 2 (ZO [] (j19 () h))) fun h=>?_
   refine wO J 8 h fun u v h=>Ya J WQ v ?_
   refine wO J 3 h fun x y h=>Ya J VJ y ?_
   refine wB J 5 h (fun h=>oi h▸wr J 18 func5 []) fun h=>?_
   refine wO J 2 h fun z A h=>Ya J WQ A ?_
   refine wO J 3 h fun C D h=>Ya J VJ D ?_
   exact wB J 6 h (fun h=>oi h▸wr J 5 func5 []) fun h=>wa J 8 (ZO [] (ih21 (ZN (q+1)) h))
  exact ZO [] (ih N 0 h)
 exact ZO [] (ih N (0,0,0) h)
theorem ZuC (N:Nat) (rc:(List ZY)->Option (List ZS)) (rcT:(∀ (c:(List ZY)) (r:(List ZS)),rc c=some r->Fn Tryz.prog 23 ⟨1,[.S 0],[(0,.sl YA c)],[],2,.S 1,[],[(1,.own Yi r true)]⟩)) (c:(List ZY)) (r:(List ZS)) (h:DV N rc c=some r) :
 Fn Tryz.prog 23 ⟨1,[.S 0],[(0,.sl YA c)],[],2,.S 1,[],[(1,.own Yi r true)]⟩:=by
 refine Z5 func23 rfl (fun E F w=>?_)
 unfold DV at h
 refine wa J 15 (Z4 (σ:=(List ZS)) (fun st=>⟨[(3,.S 1)],[(1,.own Yi st true)],[(0,.sl YA c)],2⟩) (fun st=>ZcN st=some r) ?_ (fun j1=>?_))
 ·intro d h
  unfold ZcN at h
  exact oi h▸wr J 5 func23 [(1,.sl 1)]
 refine wa J 1 (Ye (σ:=(List ZS) × Int) (fun st=>⟨[(3,.S 1),(9,.S 0),(10,.I (c.length:Int)),(11,.I st.2)],[(1,.own Yi st.1 true)],[(0,.sl YA c)],2⟩) (fun n st=>Ru N rc c n st.1 st.2) (r:=r) (fun _=>rfl) ?_ (fun ih=>?_))
 ·intro n12 ih12
  rintro ⟨e,f⟩ h
  unfold Ru at h
  refine ZU J 5 h (fun h=>wa J 2 (ZO [] (j1 e h))) fun h=>?_
  refine wO J 6 h fun g i h=>Ya J Us i (wa J 30 (Z4 (σ:=(List (List ZS))) (fun st=>⟨[(3,.S 1),(6,.B 6 0),(9,.S 0),(10,.I (c.length:Int)),(11,.I f)],[(1,.own Yi e true),(6,.box [.I g.Zq,.s g.ZA,.sl 3,.s g.Zt,.s g.As,.I g.ZB,.sl 7] 140),(7,.own (Yx Yi) st true)],[(0,.sl YA c),(3,.sl rS g.To)],8⟩) (fun st=>DW e f (Ru N rc c n12) g st=some r) ?_ (fun j19=>?_)))
  ·intro j h
   unfold DW at h
   refine wa J 3 (Yy J [7] Q4 ([(⟨g.Zq,g.ZA,g.To,g.Zt,g.As,g.ZB,j⟩:ZS)]:List ZS) ?_)
   have ⟨k,l,h⟩:=ob h
   exact YR J Yi l (wa J 7 (ZO [(1,.sl 9)] (ih12 (k,(ZN (f+1))) h)))
  refine wa J 1 (Ye (σ:=(List (List ZS)) × Int) (fun st=>⟨[(3,.S 1),(6,.B 6 0),(9,.S 0),(10,.I (c.length:Int)),(11,.I f),(29,.S 4),(30,.I (g.ZC.length:Int)),(31,.I st.2)],[(1,.own Yi e true),(6,.box [.I g.Zq,.s g.ZA,.sl 3,.s g.Zt,.s g.As,.I g.ZB,.sl 7] 140),(7,.own (Yx Yi) st.1 true)],[(0,.sl YA c),(3,.sl rS g.To),(4,.sl (Yx YA) g.ZC)],8⟩) (fun n st=>Qm rc e f (Ru N rc c n12) g n st.1 st.2) (r:=r) (fun _=>rfl) ?_ (fun ih=>?_))
  ·intro n14 ih21
   rintro ⟨m,o⟩ h
   unfold Qm at h
   refine ZU J 5 h (fun h=>wa J 2 (ZO [] (j19 m h))) fun h=>?_
   refine wO J 6 h fun p q h=>Ya J (Y8 YA) q ?_
   refine wO J 7 h fun t u h=>ZR (rcT p _ u) [] [(0,.sl 9)] (Yy J [10] (Y8 Yi) ([t]:List (List ZS)) ?_)
   have ⟨v,x,h⟩:=ob h
   exact YR J (Yx Yi) x (wa J 2 (Yn (wa J 5 (ZO [(7,.sl 12)] (ih21 (v,(ZN (o+1))) h)))))
  exact ZO [(7,.nil)] (ih N (([]:List (List ZS)),0) h)
 exact ZO [(1,.nil)] (ih N (([]:List ZS),0) h)
theorem ZuE:∀ (N:Nat) (c:(List ZY)) (r:(List ZS)) (h:ZcO N c=some r),Fn Tryz.prog 23 ⟨1,[.S 0],[(0,.sl YA c)],[],2,.S 1,[],[(1,.own Yi r true)]⟩:=by
 intro N
 induction N with
 | zero=>intros;rename_i h;cases h
 | succ N ih=>intro c r h;exact ZuC N (ZcO N) ih c r h
theorem ZuD (N:Nat) (c:(List ZY)) (r:(List ZS)) (h:P8 N c=some r):Fn Tryz.prog 23 ⟨1,[.S 0],[(0,.sl YA c)],[],2,.S 1,[],[(1,.own Yi r true)]⟩:=ZuE N c r h
theorem Zvl (N:Nat) (c:(List Z3)) (r:(List ZT)) (h:z7 N c=some r) :
 Fn Tryz.prog 7 ⟨1,[.S 0],[(0,.sl Yw c)],[],2,.S 1,[],[(1,.own Ys r true)]⟩:=by
 refine Z5 func7 rfl (fun E F w=>?_)
 unfold z7 at h
 refine wa J 15 (Z4 (σ:=(List ZT)) (fun st=>⟨[(3,.S 1)],[(1,.own Ys st true)],[(0,.sl Yw c)],2⟩) (fun st=>Zdu st=some r) ?_ (fun j1=>?_))
 ·intro d h
  unfold Zdu at h
  exact oi h▸wr J 5 func7 [(1,.sl 1)]
 refine wa J 1 (Ye (σ:=(List ZT) × Int) (fun st=>⟨[(3,.S 1),(12,.S 0),(13,.I (c.length:Int)),(14,.I st.2)],[(1,.own Ys st.1 true)],[(0,.sl Yw c)],2⟩) (fun n st=>TK N c n st.1 st.2) (r:=r) (fun _=>rfl) ?_ (fun ih=>?_))
 ·intro n72 ih66
  rintro ⟨e,f⟩ h
  unfold TK at h
  refine ZU J 5 h (fun h=>wa J 2 (ZO [] (j1 e h))) fun h=>?_
  refine wO J 6 h fun g i h=>Ya J WQ i ?_
  refine wO J 12 h fun j k h=>ZR (ZuD N g.ZF _ k) [] [(0,.sl 5)] (wa J 3 (Yn (wa J 8 (Z4 (σ:=(List Z2)) (fun st=>⟨[(3,.S 1),(6,.B 8 0),(12,.S 0),(13,.I (c.length:Int)),(14,.I f)],[(1,.own Ys e true),(7,.own Yi j true),(8,.box [.s g.Zt,.sl 3,.sl 9,.sl 7] 37),(9,.own YX st true)],[(0,.sl Yw c),(3,.sl rS g.ZD)],10⟩) (fun st=>BC e f (TK N c n72) g j st=some r) ?_ (fun j109=>?_)))))
  ·intro l h
   unfold BC at h
   refine wa J 3 (Yy J [9,7] Vp ([(⟨g.Zt,g.ZD,l,j⟩:ZT)]:List ZT) ?_)
   have ⟨m,o,h⟩:=ob h
   exact YR J Ys o (wa J 7 (ZO [(1,.sl 11)] (ih66 (m,(ZN (f+1))) h)))
  refine wa J 1 (Ye (σ:=(List Z2) × Int) (fun st=>⟨[(3,.S 1),(6,.B 8 0),(12,.S 0),(13,.I (c.length:Int)),(14,.I f),(27,.S 4),(28,.I (g.ZE.length:Int)),(29,.I st.2)],[(1,.own Ys e true),(7,.own Yi j true),(8,.box [.s g.Zt,.sl 3,.sl 9,.sl 7] 37),(9,.own YX st.1 true)],[(0,.sl Yw c),(3,.sl rS g.ZD),(4,.sl Xm g.ZE)],10⟩) (fun n st=>SE N e f (TK N c n72) g j n st.1 st.2) (r:=r) (fun _=>rfl) ?_ (fun ih=>?_))
  ·intro n84 ih120
   rintro ⟨p,q⟩ h
   unfold SE at h
   refine ZU J 5 h (fun h=>wa J 2 (ZO [] (j109 p h))) fun h=>?_
   refine wO J 6 h fun t u h=>Ya J VJ u (wa J 22 (Z4 (σ:=(List Y5)) (fun st=>⟨[(3,.S 1),(6,.B 8 0),(9,.B 14 0),(12,.S 0),(13,.I (c.length:Int)),(14,.I f),(27,.S 4),(28,.I (g.ZE.length:Int)),(29,.I q)],[(1,.own Ys e true),(7,.own Yi j true),(8,.box [.s g.Zt,.sl 3,.sl 9,.sl 7] 37),(9,.own YX p true),(14,.box [.s t.Zt,.sl 11,.sl 15] 64),(15,.own Tu st true)],[(0,.sl Yw c),(3,.sl rS g.ZD),(4,.sl Xm g.ZE),(11,.sl YU t.Zy)],16⟩) (fun st=>BD p q (SE N e f (TK N c n72) g j n84) t st=some r) ?_ (fun j127=>?_)))
   ·intro v h
    unfold BD at h
    refine wa J 4 (Yy J [15] Ut ([(⟨t.Zt,t.Zy,v⟩:Z2)]:List Z2) ?_)
    have ⟨x,y,h⟩:=ob h
    exact YR J YX y (wa J 8 (ZO [(9,.sl 17)] (ih120 (x,(ZN (q+1))) h)))
   refine wa J 1 (Ye (σ:=(List Y5) × Int) (fun st=>⟨[(3,.S 1),(6,.B 8 0),(9,.B 14 0),(12,.S 0),(13,.I (c.length:Int)),(14,.I f),(27,.S 4),(28,.I (g.ZE.length:Int)),(29,.I q),(39,.S 12),(40,.I (t.Zz.length:Int)),(41,.I st.2)],[(1,.own Ys e true),(7,.own Yi j true),(8,.box [.s g.Zt,.sl 3,.sl 9,.sl 7] 37),(9,.own YX p true),(14,.box [.s t.Zt,.sl 11,.sl 15] 64),(15,.own Tu st.1 true)],((0,.sl Yw c)::(3,.sl rS g.ZD)::(4,.sl Xm g.ZE)::WA 11 12 t []),16⟩) (fun n st=>Qx p q (SE N e f (TK N c n72) g j n84) t n st.1 st.2) (r:=r) (fun _=>rfl) ?_ (fun ih=>?_))
   ·intro n86 ih129
    rintro ⟨z,A⟩ h
    unfold Qx at h
    refine ZU J 5 h (fun h=>wa J 2 (ZO [] (j127 z h))) fun h=>?_
    refine wO J 6 h fun C D h=>Ya J Q2 D (wa J 14 (Yy J [] Q3 ([(⟨C.Zw,C.Op,C.Zx⟩:Y5)]:List Y5) ?_))
    have ⟨G,H,h⟩:=ob h
    exact YR J Tu H (wa J 8 (ZO [(15,.sl 19)] (ih129 (G,(ZN (A+1))) h)))
   exact ZO [(15,.nil)] (ih N (([]:List Y5),0) h)
  exact ZO [(9,.nil)] (ih N (([]:List Z2),0) h)
 exact ZO [(1,.nil)] (ih N (([]:List ZT),0) h)
theorem Zmc (N:Nat) (d:Int) (r:Bool) (h:DU N d=some r) :
 Fn Tryz.prog 237 ⟨0,[.c (.i .u8 d)],[],[],0,.O r,[],[]⟩:=by
 refine Z5 func237 rfl (fun E F w=>?_)
 unfold DU at h
 refine ZU J 9 h (fun h=>?_) fun h=>?_
 ·exact wB J 7 h (fun h=>oi h▸wr J 6 func237 []) fun h=>oi h▸wr J 6 func237 []
 refine wB J 4 h (fun h=>oi h▸wr J 9 func237 []) fun h=>?_
 exact wB J 3 h (fun h=>oi h▸wr J 6 func237 []) fun h=>oi h▸wr J 6 func237 []
theorem ZuH (N:Nat) (d:Int) (r:Bool) (h:ZgN N d=some r) :
 Fn Tryz.prog 246 ⟨0,[.c (.i .u8 d)],[],[],0,.O r,[],[]⟩:=by
 refine Z5 func246 rfl (fun E F w=>?_)
 unfold ZgN at h
 exact wB J 9 h (fun h=>oi h▸wr J 5 func246 []) fun h=>oi h▸wr J 5 func246 []
theorem ZuB (N:Nat) (d:Int) (r:Bool) (h:ZgI N d=some r) :
 Fn Tryz.prog 238 ⟨0,[.c (.i .u8 d)],[],[],0,.O r,[],[]⟩:=by
 refine Z5 func238 rfl (fun E F w=>?_)
 unfold ZgI at h
 refine wO J 7 h fun e f h=>ZR (Zmc N d _ f) [] [] ?_
 refine wB J 1 h (fun h=>oi h▸wr J 9 func238 []) fun h=>?_
 refine wO J 1 h fun g j h=>ZR (ZuH N d _ j) [] [] ?_
 exact wB J 2 h (fun h=>oi h▸wr J 5 func238 []) fun h=>oi h▸wr J 5 func238 []
theorem Zuo (N:Nat) (d:ByteArray) (r:Bool) (h:Hc N d=some r) :
 Fn Tryz.prog 215 ⟨0,[.c (.s d)],[],[],0,.O r,[],[]⟩:=by
 refine Z5 func215 rfl (fun E F w=>?_)
 unfold Hc at h
 refine wB J 10 h (fun h=>oi h▸wr J 16 func215 []) fun h=>?_
 refine wO J 1 h fun e f h=>XV J f ?_
 have ⟨g,i,h⟩:=ob h
 refine ZR (Zmc N e _ i) [] [] ?_
 refine wB J 3 h (fun h=>oi h▸wr J 10 func215 []) fun h=>?_
 refine wB J 5 h (fun h=>oi h▸wr J 5 func215 []) fun h=>wa J 7 (Z4 (σ:=Unit) (fun st=>(WZ [])) (fun st=>ZgB=some r) ?_ (fun j1=>?_))
 ·intro _ h
  unfold ZgB at h
  exact oi h▸wr J 4 func215 []
 refine wa J 1 (Ye (σ:=Int) (fun st=>(WZ [(0,.c (.s d)),(3,.I st)])) (fun n st=>Hd N d n st) (r:=r) (fun _=>rfl) ?_ (fun ih=>?_))
 ·intro n2 ih3
  intro j h
  unfold Hd at h
  refine ZU J 8 h (fun h=>wa J 2 (ZO [] (j1 () h))) fun h=>?_
  refine wO J 8 h fun k l h=>XV J l ?_
  have ⟨m,o,h⟩:=ob h
  refine ZR (ZuB N k _ o) [] [] ?_
  exact wB J 2 h (fun h=>oi h▸wr J 5 func215 []) fun h=>wa J 8 (ZO [] (ih3 (ZN (j+1)) h))
 exact ZO [] (ih N 0 h)
theorem Zuq (N:Nat) (r:(List ByteArray)) (h:ZcC N=some r) :
 Fn Tryz.prog 217 ⟨0,[],[],[],1,.S 0,[],[(0,.own rS r true)]⟩:=by
 refine Z5 func217 rfl (fun E F w=>?_)
 unfold ZcC at h
 refine wa J 6 (Yy J [] oS ([(str [97,103,97,105,110]),(str [97,110,100]),(str [97,115]),(str [97,116]),(str [99,97,108,108]),(str [99,104,111,105,99,101]),(str [101,108,115,101]),(str [102,114,111,109]),(str [105,102]),(str [105,110,116]),(str [108,101,110]),(str [108,111,111,112]),(str [109,101,115,115,97,103,101]),(str [111,102]),(str [111,102,102,101,114]),(str [111,110]),(str [111,114]),(str [112,97,114]),(str [112,108,97,121,115]),(str [112,114,111,116,111,99,111,108]),(str [115,101,114,118,105,99,101]),(str [116,101,120,116]),(str [116,105,109,101,115]),(str [116,111]),(str [118,97,114]),(str [119,104,101,114,101]),(str [119,104,105,108,101]),(str [119,105,116,104,105,110])]:List ByteArray) ?_)
 exact oi h▸wr J 2 func217 [(0,.sl 0)]
theorem Zup (N:Nat) (d:(List ByteArray)) (e:ByteArray) (r:Bool) (h:DR N d e=some r) :
 Fn Tryz.prog 216 ⟨1,[.S 0,.c (.s e)],[(0,.sl rS d)],[],1,.O r,[],[]⟩:=by
 refine Z5 func216 rfl (fun E F w=>?_)
 unfold DR at h
 refine wa J 9 (Z4 (σ:=Unit) (fun st=>(Ug d [])) (fun st=>ZcB=some r) ?_ (fun j1=>?_))
 ·intro _ h
  unfold ZcB at h
  exact oi h▸wr J 4 func216 []
 refine wa J 1 (Ye (σ:=Int) (fun st=>(Ug d [(0,.S 0),(1,.c (.s e)),(5,.I st)])) (fun n st=>P6 d e n st) (r:=r) (fun _=>rfl) ?_ (fun ih=>?_))
 ·intro n2 ih3
  intro f h
  unfold P6 at h
  refine ZU J 8 h (fun h=>wa J 2 (ZO [] (j1 () h))) fun h=>?_
  refine wO J 8 h fun g i h=>Ya J oS i ?_
  exact wB J 4 h (fun h=>oi h▸wr J 5 func216 []) fun h=>wa J 8 (ZO [] (ih3 (ZN (f+1)) h))
 exact ZO [] (ih N 0 h)
theorem Zt5 (N:Nat) (d:ByteArray) (r:Bool) (h:PR N d=some r) :
 Fn Tryz.prog 179 ⟨0,[.c (.s d)],[],[],0,.O r,[],[]⟩:=by
 refine Z5 func179 rfl (fun E F w=>?_)
 unfold PR at h
 refine wO J 7 h fun e f h=>ZR (Zuo N d _ f) [] [] ?_
 refine ZU J 1 h (fun h=>oi h▸wr J 7 func179 []) fun h=>?_
 have ⟨g,i,h⟩:=ob h
 refine ZR (Zuq N _ i) [] [] ?_
 refine wO J 1 h fun j k h=>XA (Zup N g d _ k) [] [(0,.sl 0)] [0] (.inr ⟨rfl,trivial⟩) ?_
 exact oi h▸wr J 4 func179 []
theorem Sn (N:Nat) (d:ByteArray) (r:Bool) (h:Vv N d=some r) :
 Fn Tryz.prog 122 ⟨0,[.c (.s d)],[],[],0,.O r,[],[]⟩:=by
 refine Z5 func122 rfl (fun E F w=>?_)
 unfold Vv at h
 refine wO J 7 h fun e f h=>ZR (Zt5 N d _ f) [] [] ?_
 exact oi h▸wr J 2 func122 []
theorem Zf4 (N:Nat) (c:(List ByteArray)) (d:Int) (r:Bool) (h:Ps N c d=some r) :
 Fn Tryz.prog 123 ⟨1,[.S 0,.I d],[(0,.sl rS c)],[],1,.O r,[],[]⟩:=by
 refine Z5 func123 rfl (fun E F w=>?_)
 unfold Ps at h
 refine wa J 9 (Z4 (σ:=Unit) (fun st=>(Ug c [(0,.S 0),(1,.I d)])) (fun st=>Zbm c d=some r) ?_ (fun j1=>?_))
 ·intro _ h
  unfold Zbm at h
  exact wB J 6 h (fun h=>oi h▸wr J 7 func123 []) fun h=>oi h▸wr J 7 func123 []
 refine wa J 1 (Ye (σ:=Int) (fun st=>(Ug c [(0,.S 0),(1,.I d),(5,.I st)])) (fun n st=>LH N c d n st) (r:=r) (fun _=>rfl) ?_ (fun ih=>?_))
 ·intro n2 ih3
  intro e h
  unfold LH at h
  refine ZU J 8 h (fun h=>wa J 2 (ZO [] (j1 () h))) fun h=>?_
  refine wO J 8 h fun f g h=>Ya J oS g ?_
  refine wO J 1 h fun i j h=>ZR (Sn N f _ j) [] [] ?_
  exact wB J 2 h (fun h=>oi h▸wr J 5 func123 []) fun h=>wa J 8 (ZO [] (ih3 (ZN (e+1)) h))
 exact ZO [] (ih N 0 h)
theorem Ztf (N:Nat) (rc:(List ZY)->Option Int) (rcT:(∀ (c:(List ZY)) (r:Int),rc c=some r->Fn Tryz.prog 124 ⟨1,[.S 0],[(0,.sl YA c)],[],1,.I r,[],[]⟩)) (c:(List ZY)) (r:Int) (h:G7 N rc c=some r) :
 Fn Tryz.prog 124 ⟨1,[.S 0],[(0,.sl YA c)],[],1,.I r,[],[]⟩:=by
 refine Z5 func124 rfl (fun E F w=>?_)
 unfold G7 at h
 refine wa J 13 (Z4 (σ:=Int) (fun st=>(Tc c [(3,.I st)])) (fun st=>Zbn st=some r) ?_ (fun j1=>?_))
 ·intro d h
  unfold Zbn at h
  exact oi h▸wr J 5 func124 []
 refine wa J 1 (Ye (σ:=Int × Int) (fun st=>(Tc c [(0,.S 0),(3,.I st.1),(4,.I st.2)])) (fun n st=>Rh N rc c n st.1 st.2) (r:=r) (fun _=>rfl) ?_ (fun ih=>?_))
 ·intro n12 ih12
  rintro ⟨e,f⟩ h
  unfold Rh at h
  refine ZU J 8 h (fun h=>wa J 2 (ZO [] (j1 e h))) fun h=>wa J 13 (Z4 (σ:=Int) (fun st=>(Tc c [(0,.S 0),(3,.I e),(4,.I f),(5,.I st)])) (fun st=>Zbo e f (Rh N rc c n12) st=some r) ?_ (fun j19=>?_))
  ·intro g h
   unfold Zbo at h
   exact wa J 13 (ZO [] (ih12 ((Wy e (ZN (g+1))),(ZN (f+1))) h))
  refine wa J 1 (Ye (σ:=Int × Int) (fun st=>(Tc c [(0,.S 0),(3,.I e),(4,.I f),(5,.I st.1),(6,.I st.2)])) (fun n st=>R7 rc c e f (Rh N rc c n12) n st.1 st.2) (r:=r) (fun _=>rfl) ?_ (fun ih=>?_))
  ·intro n14 ih21
   rintro ⟨i,j⟩ h
   unfold R7 at h
   refine wO J 6 h fun k l h=>Ya J Us l ?_
   refine ZU J 5 h (fun h=>wa J 2 (ZO [] (j19 i h))) fun h=>?_
   refine wO J 8 h fun m o h=>Ya J Us o ?_
   refine wO J 3 h fun p q h=>Ya J (Y8 YA) q ?_
   exact wO J 1 h fun s t h=>ZR (rcT p _ t) [] [(0,.sl 8)] (wa J 9 (ZO [] (ih21 ((Wy i s),(ZN (j+1))) h)))
  exact ZO [] (ih N (0,0) h)
 exact ZO [] (ih N (0,0) h)
theorem Zth:∀ (N:Nat) (c:(List ZY)) (r:Int) (h:Zbp N c=some r),Fn Tryz.prog 124 ⟨1,[.S 0],[(0,.sl YA c)],[],1,.I r,[],[]⟩:=by
 intro N
 induction N with
 | zero=>intros;rename_i h;cases h
 | succ N ih=>intro c r h;exact Ztf N (Zbp N) ih c r h
theorem Ztg (N:Nat) (c:(List ZY)) (r:Int) (h:Pt N c=some r):Fn Tryz.prog 124 ⟨1,[.S 0],[(0,.sl YA c)],[],1,.I r,[],[]⟩:=Zth N c r h
theorem L3 (N:Nat) (d:ByteArray) (r:Bool) (h:z183 N d=some r) :
 Fn Tryz.prog 183 ⟨0,[.c (.s d)],[],[],0,.O r,[],[]⟩:=by
 refine Z5 func183 rfl (fun E F w=>?_)
 unfold z183 at h
 refine wa J 13 (Z4 (σ:=Unit) (fun st=>(WZ [(0,.c (.s d))])) (fun st=>DC d=some r) ?_ (fun j1=>?_))
 ·intro _ h
  unfold DC at h
  exact oi h▸wr J 7 func183 []
 refine wa J 1 (Ye (σ:=Int × Int) (fun st=>(WZ [(0,.c (.s d)),(3,.I st.1),(4,.I st.2)])) (fun n st=>Su N d n st.1 st.2) (r:=r) (fun _=>rfl) ?_ (fun ih=>?_))
 ·intro n2 ih6
  rintro ⟨e,f⟩ h
  unfold Su at h
  refine ZU J 8 h (fun h=>wa J 2 (ZO [] (j1 () h))) fun h=>?_
  refine wa J 11 (Z4 (σ:=Bool) (fun st=>(WZ [(0,.c (.s d)),(3,.I e),(4,.I f),(20,.O st)])) (fun st=>PT N d e f (Su N d n2) st=some r) ?_ (fun j9=>?_))
  ·intro g h
   unfold PT at h
   refine Xf h (fun h=>wa J 8 (ZO [] (ih6 (e,(ZN (f+1))) h))) fun h=>?_
   refine wO J 7 h fun i j h=>VD J j ?_
   have ⟨k,l,h⟩:=ob h
   refine ZR (Sn N i _ l) [] [] ?_
   exact wB J 2 h (fun h=>oi h▸wr J 5 func183 []) fun h=>wa J 13 (ZO [] (ih6 ((ZN (f+1)),(ZN (f+1))) h))
  refine eB h (fun h=>wa J 6 (ZO [] (j9 true h))) fun h=>?_
  exact wO J 2 h fun m o h=>XV J o (wa J 3 (ZO [] (j9 (m==46) h)))
 exact ZO [] (ih N (0,0) h)
theorem Zt6 (N:Nat) (rc:(List ZY)->Option Bool) (rcT:(∀ (c:(List ZY)) (r:Bool),rc c=some r->Fn Tryz.prog 125 ⟨1,[.S 0],[(0,.sl YA c)],[],1,.O r,[],[]⟩)) (d:ZY) (r:Bool) (h:DB N rc d=some r) :
 Fn Tryz.prog 180 ⟨2,[.a [.I d.Zq,.s d.ZA,.sl 0,.s d.Zt,.s d.As,.I d.ZB,.sl 1]],[(0,.sl rS d.To),(1,.sl (Yx YA) d.ZC)],[],2,.O r,[],[]⟩:=by
 refine Z5 func180 rfl (fun E F w=>?_)
 unfold DB at h
 refine wa J 28 (Z4 (σ:=Bool) (fun st=>(HW d.Zq d.ZA d.Zt d.As d.ZB d.To d.ZC [(1,.B 2 0),(3,.I (d.ZC.length:Int)),(4,.O st)])) (fun st=>Xd N rc d st=some r) ?_ (fun j1=>?_))
 ·intro e h
  unfold Xd at h
  refine wa J 6 (Z4 (σ:=Bool) (fun st=>⟨[(4,.O st)],[],[(0,.sl rS d.To),(1,.sl (Yx YA) d.ZC)],3⟩) (fun st=>LY st=some r) ?_ (fun j3=>?_))
  ·intro f h
   unfold LY at h
   exact oi h▸wr J 5 func180 []
  refine wa J 1 (Ye (σ:=Bool × Int) (fun st=>(HW d.Zq d.ZA d.Zt d.As d.ZB d.To d.ZC [(1,.B 2 0),(3,.I (d.ZC.length:Int)),(4,.O st.1),(6,.I st.2)])) (fun n st=>PS rc d n st.1 st.2) (r:=r) (fun _=>rfl) ?_ (fun ih=>?_))
  ·intro n2 ih5
   rintro ⟨g,i⟩ h
   unfold PS at h
   refine ZU J 7 h (fun h=>wa J 5 (ZO [] (j3 g h))) fun h=>?_
   refine ZU J 3 h (fun h=>wa J 2 (ZO [] (j3 g h))) fun h=>?_
   refine wO J 8 h fun j k h=>Ya J (Y8 YA) k ?_
   exact wO J 1 h fun l m h=>ZR (rcT j _ m) [] [(0,.sl 4)] (wa J 8 (ZO [] (ih5 (l,(ZN (i+1))) h)))
  exact ZO [] (ih N (e,0) h)
 refine eB h (fun h=>?_) fun h=>?_
 ·refine wO J 4 h fun o p h=>ZR (Sn N d.ZA _ p) [] [] ?_
  refine ZU J 1 h (fun h=>wa J 25 (ZO [] (j1 false h))) fun h=>?_
  refine wO J 2 h fun q t h=>ZR (Zf4 N d.To 5 _ t) [] [(0,.sl 0)] ?_
  refine ZU J 2 h (fun h=>wa J 20 (ZO [] (j1 false h))) fun h=>?_
  refine wO J 2 h fun u v h=>ZR (L3 N d.Zt _ v) [] [] ?_
  refine ZU J 2 h (fun h=>wa J 15 (ZO [] (j1 false h))) fun h=>?_
  refine ZU J 5 h (fun h=>wa J 10 (ZO [] (j1 false h))) fun h=>?_
  exact wB J 5 h (fun h=>wa J 5 (ZO [] (j1 ((d.ZC.length:Int)==0) h))) fun h=>wa J 5 (ZO [] (j1 false h))
 obtain ⟨K,h⟩|⟨K,h⟩:=oc h
 ·refine wH J 6 K (wa J 12 (Z4 (σ:=Int) (fun st=>(HW d.Zq d.ZA d.Zt d.As d.ZB d.To d.ZC [(1,.B 2 0),(3,.I (d.ZC.length:Int)),(5,.I st)])) (fun st=>LZ N rc d st=some r) ?_ (fun j6=>?_)))
  ·intro x h
   unfold LZ at h
   refine wO J 3 h fun y z h=>ZR (Sn N d.ZA _ z) [] [] ?_
   refine ZU J 1 h (fun h=>wa J 36 (ZO [] (j1 false h))) fun h=>?_
   refine ZU J 6 h (fun h=>wa J 30 (ZO [] (j1 false h))) fun h=>?_
   refine ZU J 5 h (fun h=>wa J 25 (ZO [] (j1 false h))) fun h=>?_
   refine ZU J 5 h (fun h=>wa J 20 (ZO [] (j1 false h))) fun h=>?_
   refine ZU J 5 h (fun h=>wa J 15 (ZO [] (j1 false h))) fun h=>?_
   refine ZU J 5 h (fun h=>wa J 10 (ZO [] (j1 false h))) fun h=>?_
   exact wB J 5 h (fun h=>wa J 5 (ZO [] (j1 (decide ((d.ZC.length:Int)<=8)) h))) fun h=>wa J 5 (ZO [] (j1 false h))
  exact eB h (fun h=>wa J 4 (ZO [] (j6 2 h))) fun h=>wa J 2 (ZO [] (j6 1 h))
 refine wH J 6 K ?_
 refine wB J 6 h (fun h=>?_) fun h=>?_
 ·refine ZU J 6 h (fun h=>wa J 26 (ZO [] (j1 false h))) fun h=>?_
  refine ZU J 6 h (fun h=>wa J 20 (ZO [] (j1 false h))) fun h=>?_
  refine wO J 2 h fun A C h=>ZR (L3 N d.Zt _ C) [] [] ?_
  refine ZU J 2 h (fun h=>wa J 15 (ZO [] (j1 false h))) fun h=>?_
  refine ZU J 5 h (fun h=>wa J 10 (ZO [] (j1 false h))) fun h=>?_
  exact wB J 5 h (fun h=>wa J 5 (ZO [] (j1 ((d.ZC.length:Int)==1) h))) fun h=>wa J 5 (ZO [] (j1 false h))
 refine wB J 6 h (fun h=>?_) fun h=>?_
 ·refine ZU J 6 h (fun h=>wa J 26 (ZO [] (j1 false h))) fun h=>?_
  refine ZU J 6 h (fun h=>wa J 20 (ZO [] (j1 false h))) fun h=>?_
  refine wO J 2 h fun D G h=>ZR (L3 N d.Zt _ G) [] [] ?_
  refine ZU J 2 h (fun h=>wa J 15 (ZO [] (j1 false h))) fun h=>?_
  refine ZU J 5 h (fun h=>wa J 10 (ZO [] (j1 false h))) fun h=>?_
  exact wB J 5 h (fun h=>wa J 5 (ZO [] (j1 ((d.ZC.length:Int)==0) h))) fun h=>wa J 5 (ZO [] (j1 false h))
 refine wB J 6 h (fun h=>?_) fun h=>?_
 ·refine ZU J 6 h (fun h=>wa J 30 (ZO [] (j1 false h))) fun h=>?_
  refine ZU J 6 h (fun h=>wa J 24 (ZO [] (j1 false h))) fun h=>?_
  refine ZU J 5 h (fun h=>wa J 19 (ZO [] (j1 false h))) fun h=>?_
  refine ZU J 5 h (fun h=>wa J 14 (ZO [] (j1 false h))) fun h=>?_
  refine ZU J 5 h (fun h=>wa J 9 (ZO [] (j1 false h))) fun h=>?_
  exact wB J 4 h (fun h=>wa J 5 (ZO [] (j1 (decide ((d.ZC.length:Int)<=8)) h))) fun h=>wa J 5 (ZO [] (j1 false h))
 refine ZU J 6 h (fun h=>wa J 2 (ZO [] (j1 false h))) fun h=>?_
 refine ZU J 6 h (fun h=>wa J 25 (ZO [] (j1 false h))) fun h=>?_
 refine wO J 2 h fun H R h=>ZR (Zf4 N d.To 6 _ R) [] [(0,.sl 0)] ?_
 refine ZU J 2 h (fun h=>wa J 20 (ZO [] (j1 false h))) fun h=>?_
 refine wO J 2 h fun T U h=>ZR (Sn N d.Zt _ U) [] [] ?_
 refine ZU J 2 h (fun h=>wa J 15 (ZO [] (j1 false h))) fun h=>?_
 refine wO J 2 h fun X Y h=>ZR (Sn N d.As _ Y) [] [] ?_
 refine ZU J 2 h (fun h=>wa J 10 (ZO [] (j1 false h))) fun h=>?_
 exact wB J 5 h (fun h=>wa J 5 (ZO [] (j1 ((d.ZC.length:Int)==0) h))) fun h=>wa J 5 (ZO [] (j1 false h))
theorem Zti (N:Nat) (rc:(List ZY)->Option Bool) (rcT:(∀ (c:(List ZY)) (r:Bool),rc c=some r->Fn Tryz.prog 125 ⟨1,[.S 0],[(0,.sl YA c)],[],1,.O r,[],[]⟩)) (c:(List ZY)) (r:Bool) (h:G8 N rc c=some r) :
 Fn Tryz.prog 125 ⟨1,[.S 0],[(0,.sl YA c)],[],1,.O r,[],[]⟩:=by
 refine Z5 func125 rfl (fun E F w=>?_)
 unfold G8 at h
 refine wa J 9 (Z4 (σ:=Unit) (fun st=>(Tc c [])) (fun st=>Zbr=some r) ?_ (fun j1=>?_))
 ·intro _ h
  unfold Zbr at h
  exact oi h▸wr J 4 func125 []
 refine wa J 1 (Ye (σ:=Int) (fun st=>(Tc c [(0,.S 0),(3,.I st)])) (fun n st=>LI N rc c n st) (r:=r) (fun _=>rfl) ?_ (fun ih=>?_))
 ·intro n2 ih3
  intro d h
  unfold LI at h
  refine ZU J 8 h (fun h=>wa J 2 (ZO [] (j1 () h))) fun h=>?_
  refine wO J 8 h fun e f h=>Ya J Us f ?_
  refine wO J 1 h fun g i h=>ZR (Zt6 N rc rcT e _ i) [] [(0,.sl 2),(1,.sl 3)] ?_
  exact wB J 2 h (fun h=>oi h▸wr J 5 func125 []) fun h=>wa J 8 (ZO [] (ih3 (ZN (d+1)) h))
 exact ZO [] (ih N 0 h)
theorem Ztk:∀ (N:Nat) (c:(List ZY)) (r:Bool) (h:Zbs N c=some r),Fn Tryz.prog 125 ⟨1,[.S 0],[(0,.sl YA c)],[],1,.O r,[],[]⟩:=by
 intro N
 induction N with
 | zero=>intros;rename_i h;cases h
 | succ N ih=>intro c r h;exact Zti N (Zbs N) ih c r h
theorem Ztj (N:Nat) (c:(List ZY)) (r:Bool) (h:Zbq N c=some r):Fn Tryz.prog 125 ⟨1,[.S 0],[(0,.sl YA c)],[],1,.O r,[],[]⟩:=Ztk N c r h
theorem Zgq (N:Nat) (c:Int) (r:Bool) (h:L2 N c=some r) :
 Fn Tryz.prog 181 ⟨0,[.I c],[],[],0,.O r,[],[]⟩:=by
 refine Z5 func181 rfl (fun E F w=>?_)
 unfold L2 at h
 exact wB J 9 h (fun h=>oi h▸wr J 5 func181 []) fun h=>oi h▸wr J 5 func181 []
theorem Zl8 (N:Nat) (c:Yq) (r:Bool) (h:z182 N c=some r) :
 Fn Tryz.prog 182 ⟨0,[.a (Xp c)],[],[],0,.O r,[],[]⟩:=by
 refine Z5 func182 rfl (fun E F w=>?_)
 unfold z182 at h
 refine wO J 10 h fun d e h=>ZR (Zgq N c.N _ e) [] [] ?_
 refine wB J 2 h (fun h=>oi h▸wr J 5 func182 []) fun h=>?_
 refine wB J 9 h (fun h=>?_) fun h=>?_
 ·exact wB J 7 h (fun h=>oi h▸wr J 6 func182 []) fun h=>oi h▸wr J 6 func182 []
 refine wB J 8 h (fun h=>?_) fun h=>?_
 ·refine wO J 7 h fun f g h=>ZR (Sn N c.Field _ g) [] [] ?_
  refine ZU J 2 h (fun h=>oi h▸wr J 11 func182 []) fun h=>?_
  refine wB J 4 h (fun h=>oi h▸wr J 7 func182 []) fun h=>?_
  refine wO J 2 h fun i j h=>ZR (L3 N c.Zv _ j) [] [] ?_
  exact oi h▸wr J 4 func182 []
 refine ZU J 5 h (fun h=>oi h▸wr J 16 func182 []) fun h=>?_
 refine wO J 2 h fun k l h=>ZR (Sn N c.Field _ l) [] [] ?_
 refine ZU J 2 h (fun h=>oi h▸wr J 11 func182 []) fun h=>?_
 refine wB J 4 h (fun h=>oi h▸wr J 7 func182 []) fun h=>?_
 refine wO J 2 h fun m o h=>ZR (L3 N c.Zv _ o) [] [] ?_
 exact oi h▸wr J 4 func182 []
theorem Ztl (N:Nat) (c:Yg) (r:Bool) (h:G9 N c=some r) :
 Fn Tryz.prog 126 ⟨2,[.a [.s c.Zt,.sl 0,.sl 1]],(WA 0 1 c []),[],2,.O r,[],[]⟩:=by
 refine Z5 func126 rfl (fun E F w=>?_)
 unfold G9 at h
 refine wa J 10 (Z4 (σ:=Unit) (fun st=>(Qz c.Zt c [(1,.B 2 0)])) (fun st=>Zbu N c=some r) ?_ (fun j1=>?_))
 ·intro _ h
  unfold Zbu at h
  refine wa J 5 (Z4 (σ:=Unit) (fun st=>(Qz c.Zt c [(1,.B 2 0)])) (fun st=>Zbt N c=some r) ?_ (fun j3=>?_))
  ·intro _ h
   unfold Zbt at h
   refine wO J 4 h fun d e h=>ZR (L3 N c.Zt _ e) [] [] ?_
   refine ZU J 1 h (fun h=>oi h▸wr J 13 func126 []) fun h=>?_
   exact wB J 6 h (fun h=>oi h▸wr J 7 func126 []) fun h=>oi h▸wr J 7 func126 []
  refine wa J 1 (Ye (σ:=Int) (fun st=>(Qz c.Zt c [(1,.B 2 0),(5,.I st)])) (fun n st=>TA N c n st) (r:=r) (fun _=>rfl) ?_ (fun ih=>?_))
  ·intro n3 ih5
   intro f h
   unfold TA at h
   refine ZU J 9 h (fun h=>wa J 2 (ZO [] (j3 () h))) fun h=>?_
   refine wO J 9 h fun g i h=>Ya J Q2 i ?_
   refine wO J 8 h fun j k h=>ZR (Zl8 N g.Zw _ k) [] [] ?_
   refine wB J 2 h (fun h=>oi h▸wr J 36 func126 []) fun h=>?_
   refine wO J 2 h fun l m h=>ZR (Zl8 N g.Zx _ m) [] [] ?_
   refine wB J 3 h (fun h=>oi h▸wr J 30 func126 []) fun h=>?_
   refine ZU J 4 h (fun h=>wa J 29 (ZO [] (ih5 (ZN (f+1)) h))) fun h=>?_
   refine ZU J 5 h (fun h=>wa J 24 (ZO [] (ih5 (ZN (f+1)) h))) fun h=>?_
   refine ZU J 5 h (fun h=>wa J 19 (ZO [] (ih5 (ZN (f+1)) h))) fun h=>?_
   refine ZU J 5 h (fun h=>wa J 14 (ZO [] (ih5 (ZN (f+1)) h))) fun h=>?_
   exact wB J 6 h (fun h=>oi h▸wr J 5 func126 []) fun h=>wa J 8 (ZO [] (ih5 (ZN (f+1)) h))
  exact ZO [] (ih N 0 h)
 refine wa J 1 (Ye (σ:=Int) (fun st=>(Qz c.Zt c [(1,.B 2 0),(3,.I st)])) (fun n st=>TB N c n st) (r:=r) (fun _=>rfl) ?_ (fun ih=>?_))
 ·intro n4 ih6
  intro o h
  unfold TB at h
  refine ZU J 9 h (fun h=>wa J 2 (ZO [] (j1 () h))) fun h=>?_
  refine wO J 9 h fun p q h=>Ya J XK q ?_
  refine wO J 10 h fun t u h=>Ya J XK u ?_
  refine wO J 2 h fun v x h=>ZR (Sn N t.Zt _ x) [] [] ?_
  refine wB J 2 h (fun h=>oi h▸wr J 42 func126 []) fun h=>?_
  refine wO J 2 h fun y z h=>ZR (Zgq N p.Zu.Lo _ z) [] [] ?_
  refine wB J 3 h (fun h=>oi h▸wr J 36 func126 []) fun h=>?_
  refine wO J 2 h fun A C h=>ZR (Zgq N p.Zu.Hi _ C) [] [] ?_
  refine wB J 3 h (fun h=>oi h▸wr J 30 func126 []) fun h=>?_
  refine ZU J 4 h (fun h=>?_) fun h=>?_
  ·refine ZU J 10 h (fun h=>wa J 19 (ZO [] (ih6 (ZN (o+1)) h))) fun h=>?_
   refine wB J 4 h (fun h=>oi h▸wr J 12 func126 []) fun h=>?_
   exact wB J 7 h (fun h=>oi h▸wr J 5 func126 []) fun h=>wa J 8 (ZO [] (ih6 (ZN (o+1)) h))
  refine wB J 6 h (fun h=>oi h▸wr J 20 func126 []) fun h=>?_
  refine ZU J 4 h (fun h=>wa J 19 (ZO [] (ih6 (ZN (o+1)) h))) fun h=>?_
  refine wB J 4 h (fun h=>oi h▸wr J 12 func126 []) fun h=>?_
  exact wB J 7 h (fun h=>oi h▸wr J 5 func126 []) fun h=>wa J 8 (ZO [] (ih6 (ZN (o+1)) h))
 exact ZO [] (ih N 0 h)
theorem Zgr (N:Nat) (d:(List ByteArray)) (r:ByteArray) (h:PU N d=some r) :
 Fn Tryz.prog 184 ⟨1,[.S 0],[(0,.sl rS d)],[],1,.c (.s r),[],[]⟩:=by
 refine Z5 func184 rfl (fun E F w=>?_)
 unfold PU at h
 refine wa J 13 (Z4 (σ:=ByteArray) (fun st=>(Ug d [(3,.c (.s st))])) (fun st=>Zcd st=some r) ?_ (fun j1=>?_))
 ·intro e h
  unfold Zcd at h
  exact oi h▸wr J 5 func184 []
 refine wa J 1 (Ye (σ:=ByteArray × Int) (fun st=>(Ug d [(0,.S 0),(3,.c (.s st.1)),(4,.I st.2)])) (fun n st=>Qf d n st.1 st.2) (r:=r) (fun _=>rfl) ?_ (fun ih=>?_))
 ·intro n2 ih3
  rintro ⟨f,g⟩ h
  unfold Qf at h
  refine ZU J 8 h (fun h=>wa J 2 (ZO [] (j1 f h))) fun h=>?_
  refine ZU J 10 h (fun h=>?_) fun h=>?_
  ·refine wO J 6 h fun i j h=>Ya J oS j ?_
   exact wO J 1 h fun k l h=>Yt l (wa J 8 (ZO [] (ih3 (k,(ZN (g+1))) h)))
  refine wO J 3 h fun m o h=>Yt o ?_
  refine wO J 6 h fun p q h=>Ya J oS q ?_
  exact wO J 1 h fun t u h=>Yt u (wa J 8 (ZO [] (ih3 (t,(ZN (g+1))) h)))
 exact ZO [] (ih N ((str []),0) h)
theorem Zur (N:Nat) (rc:Int->Option ByteArray) (rcT:(∀ (d:Int) (r:ByteArray),rc d=some r->Fn Tryz.prog 218 ⟨0,[.I d],[],[],0,.c (.s r),[],[]⟩)) (d:Int) (r:ByteArray) (h:DS N rc d=some r) :
 Fn Tryz.prog 218 ⟨0,[.I d],[],[],0,.c (.s r),[],[]⟩:=by
 refine Z5 func218 rfl (fun E F w=>?_)
 unfold DS at h
 refine wB J 12 h (fun h=>?_) fun h=>?_
 ·refine wO J 5 h fun e f h=>ZR (rcT (ZN (d.tdiv 10)) _ f) [] [] (wa J 4 (Gd ?_))
  have ⟨g,i,h⟩:=ob h
  refine Yt i ?_
  exact oi h▸wr J 2 func218 []
 refine wB J 7 h (fun h=>wa J 6 (Gd ?_)) fun h=>?_
 ·have ⟨j,k,h⟩:=ob h
  refine Yt k ?_
  exact oi h▸wr J 2 func218 []
 refine wB J 7 h (fun h=>wa J 6 (Gd (oi h▸wr J 2 func218 []))) fun h=>?_
 refine wO J 7 h fun l m h=>ZR (rcT (ZN (d.tdiv 10)) _ m) [] [] (wa J 4 (Gd ?_))
 have ⟨o,p,h⟩:=ob h
 refine Yt p ?_
 exact oi h▸wr J 2 func218 []
theorem Zus:∀ (N:Nat) (d:Int) (r:ByteArray) (h:Ql N d=some r),Fn Tryz.prog 218 ⟨0,[.I d],[],[],0,.c (.s r),[],[]⟩:=by
 intro N
 induction N with
 | zero=>intros;rename_i h;cases h
 | succ N ih=>intro d r h;exact Zur N (Ql N) ih d r h
theorem He (N:Nat) (d:Int) (r:ByteArray) (h:z218 N d=some r):Fn Tryz.prog 218 ⟨0,[.I d],[],[],0,.c (.s r),[],[]⟩:=Zus N d r h
theorem Zmb (N:Nat) (d:Yq) (r:ByteArray) (h:Hf N d=some r) :
 Fn Tryz.prog 219 ⟨0,[.a (Xp d)],[],[],0,.c (.s r),[],[]⟩:=by
 refine Z5 func219 rfl (fun E F w=>?_)
 unfold Hf at h
 refine wB J 12 h (fun h=>?_) fun h=>wa J 15 (Z4 (σ:=ByteArray) (fun st=>⟨[(1,.B 0 0),(3,.c (.s st))],[(0,.box (Xp d) 93)],[],1⟩) (fun st=>Hh N d st=some r) ?_ (fun j1=>?_))
 ·refine wO J 5 h fun e f h=>ZR (He N d.N _ f) [] [] ?_
  exact oi h▸wr J 2 func219 []
 ·intro g h
  unfold Hh at h
  refine wa J 7 (Z4 (σ:=ByteArray) (fun st=>⟨[(1,.B 0 0),(3,.c (.s st))],[(0,.box (Xp d) 93)],[],1⟩) (fun st=>Hg N d st=some r) ?_ (fun j2=>?_))
  ·intro i h
   unfold Hg at h
   refine wB J 9 h (fun h=>?_) fun h=>?_
   ·refine wO J 5 h fun j k h=>ZR (He N d.N _ k) [] [] ?_
    have ⟨l,m,h⟩:=ob h
    refine Yt m ?_
    have ⟨o,p,h⟩:=ob h
    refine Yt p ?_
    exact oi h▸wr J 8 func219 []
   refine ZU J 8 h (fun h=>oi h▸wr J 8 func219 []) fun h=>?_
   refine wO J 6 h fun q t h=>ZR (He N (ZN (0-d.N)) _ t) [] [] ?_
   have ⟨u,v,h⟩:=ob h
   refine Yt v ?_
   have ⟨x,y,h⟩:=ob h
   refine Yt y ?_
   exact oi h▸wr J 8 func219 []
  refine Xf h (fun h=>wa J 2 (ZO [] (j2 g h))) fun h=>?_
  refine wO J 3 h fun z A h=>Yt A ?_
  have ⟨C,D,h⟩:=ob h
  exact Yt D (wa J 2 (ZO [] (j2 C h)))
 refine Xf h (fun h=>wa J 2 (ZO [] (j1 d.Field h))) fun h=>?_
 refine wO J 4 h fun G H h=>Yt H ?_
 exact wO J 1 h fun R T h=>Yt T (wa J 2 (ZO [] (j1 R h)))
theorem Zt7 (N:Nat) (d:Yg) (r:ByteArray) (h:DD N d=some r) :
 Fn Tryz.prog 185 ⟨2,[.a [.s d.Zt,.sl 0,.sl 1]],(WA 0 1 d []),[],2,.c (.s r),[],[]⟩:=by
 refine Z5 func185 rfl (fun E F w=>?_)
 unfold DD at h
 refine wO J 9 h fun e f h=>Yt f ?_
 have ⟨g,i,h⟩:=ob h
 refine Yt i (wa J 7 (Z4 (σ:=ByteArray) (fun st=>(Qz d.Zt d [(1,.B 2 0),(3,.c (.s st))])) (fun st=>DF N d st=some r) ?_ (fun j1=>?_)))
 ·intro j h
  unfold DF at h
  refine wO J 3 h fun k l h=>Yt l (wa J 7 (Z4 (σ:=ByteArray) (fun st=>⟨[(3,.c (.s st))],[],(WA 0 1 d []),3⟩) (fun st=>DE st=some r) ?_ (fun j9=>?_)))
  ·intro m h
   unfold DE at h
   refine wO J 3 h fun o p h=>Yt p ?_
   exact oi h▸wr J 2 func185 []
  refine wa J 1 (Ye (σ:=ByteArray × Int) (fun st=>(Qz d.Zt d [(1,.B 2 0),(3,.c (.s st.1)),(7,.I st.2)])) (fun n st=>TE N d n st.1 st.2) (r:=r) (fun _=>rfl) ?_ (fun ih=>?_))
  ·intro n3 ih14
   rintro ⟨q,t⟩ h
   unfold TE at h
   refine ZU J 9 h (fun h=>wa J 2 (ZO [] (j9 q h))) fun h=>wa J 10 (Z4 (σ:=ByteArray) (fun st=>(Qz d.Zt d [(1,.B 2 0),(3,.c (.s st)),(7,.I t)])) (fun st=>L4 N d t (TE N d n3) st=some r) ?_ (fun j17=>?_))
   ·intro u h
    unfold L4 at h
    refine wO J 5 h fun v x h=>Ya J Q2 x ?_
    refine wO J 2 h fun y z h=>ZR (Zmb N v.Zw _ z) [] [] ?_
    have ⟨A,C,h⟩:=ob h
    refine Yt C ?_
    refine wO J 3 h fun D G h=>Ya J Q2 G ?_
    refine wO J 2 h fun H R h=>Yt R ?_
    have ⟨T,U,h⟩:=ob h
    refine Yt U ?_
    refine wO J 3 h fun X Y h=>Ya J Q2 Y ?_
    refine wO J 2 h fun Z a0 h=>ZR (Zmb N X.Zx _ a0) [] [] ?_
    have ⟨b0,c0,h⟩:=ob h
    refine Yt c0 ?_
    have ⟨e0,g0,h⟩:=ob h
    exact Yt g0 (wa J 1 (Yn (wa J 6 (ZO [] (ih14 (e0,(ZN (t+1))) h)))))
   refine eB h (fun h=>?_) fun h=>?_
   ·exact wO J 3 h fun i0 j0 h=>Yt j0 (wa J 2 (ZO [] (j17 i0 h)))
   exact wO J 3 h fun k0 l0 h=>Yt l0 (wa J 2 (ZO [] (j17 k0 h)))
  exact ZO [] (ih N (k,0) h)
 refine wa J 1 (Ye (σ:=ByteArray × Int) (fun st=>(Qz d.Zt d [(1,.B 2 0),(3,.c (.s st.1)),(4,.I st.2)])) (fun n st=>Ub N d n st.1 st.2) (r:=r) (fun _=>rfl) ?_ (fun ih=>?_))
 ·intro n4 ih18
  rintro ⟨m0,o0⟩ h
  unfold Ub at h
  refine ZU J 9 h (fun h=>wa J 2 (ZO [] (j1 m0 h))) fun h=>?_
  refine wO J 9 h fun p0 q0 h=>Ya J XK q0 (wa J 16 (Z4 (σ:=ByteArray) (fun st=>⟨[(1,.B 2 0),(3,.c (.s m0)),(4,.I o0),(5,.B 4 0),(6,.c (.s st))],[(2,.box [.s d.Zt,.sl 0,.sl 1] 58),(4,.box (XZ p0) 69)],(WA 0 1 d []),5⟩) (fun st=>L6 N m0 o0 (Ub N d n4) p0 st=some r) ?_ (fun j23=>?_)))
  ·intro s0 h
   unfold L6 at h
   refine wa J 6 (Z4 (σ:=ByteArray) (fun st=>⟨[(1,.B 2 0),(3,.c (.s st)),(4,.I o0),(5,.B 4 0),(6,.c (.s s0))],[(2,.box [.s d.Zt,.sl 0,.sl 1] 58),(4,.box (XZ p0) 69)],(WA 0 1 d []),5⟩) (fun st=>L5 N o0 (Ub N d n4) p0 s0 st=some r) ?_ (fun j24=>?_))
   ·intro t0 h
    unfold L5 at h
    refine wO J 4 h fun u0 v0 h=>Yt v0 ?_
    refine wO J 1 h fun x0 y0 h=>Yt y0 ?_
    have ⟨z0,A0,h⟩:=ob h
    refine Yt A0 ?_
    refine wO J 3 h fun B0 C0 h=>ZR (He N p0.Zu.Lo _ C0) [] [] ?_
    have ⟨D0,G0,h⟩:=ob h
    refine Yt G0 ?_
    have ⟨H0,I0,h⟩:=ob h
    refine Yt I0 ?_
    refine wO J 3 h fun L0 M0 h=>ZR (He N p0.Zu.Hi _ M0) [] [] ?_
    have ⟨O0,R0,h⟩:=ob h
    refine Yt R0 ?_
    have ⟨S0,U0,h⟩:=ob h
    exact Yt U0 (wa J 1 (Yn (wa J 6 (ZO [] (ih18 (S0,(ZN (o0+1))) h)))))
   refine Xf h (fun h=>wa J 2 (ZO [] (j24 m0 h))) fun h=>?_
   exact wO J 3 h fun V0 X0 h=>Yt X0 (wa J 2 (ZO [] (j24 V0 h)))
  exact eB h (fun h=>wa J 4 (ZO [] (j23 (str [116,101,120,116]) h))) fun h=>wa J 2 (ZO [] (j23 (str [105,110,116]) h))
 exact ZO [] (ih N (g,0) h)
theorem ZgC (N:Nat) (rc:ZY->ByteArray->Option ByteArray) (rcT:(∀ (d:ZY) (e:ByteArray) (r:ByteArray),rc d e=some r->Fn Tryz.prog 186 ⟨2,[.a [.I d.Zq,.s d.ZA,.sl 0,.s d.Zt,.s d.As,.I d.ZB,.sl 1],.c (.s e)],[(0,.sl rS d.To),(1,.sl (Yx YA) d.ZC)],[],2,.c (.s r),[],[]⟩)) (f:(List ZY)) (e:ByteArray) (r:ByteArray) (h:Rt N rc f e=some r) :
 Fn Tryz.prog 220 ⟨1,[.S 0,.c (.s e)],[(0,.sl YA f)],[],1,.c (.s r),[],[]⟩:=by
 refine Z5 func220 rfl (fun E F w=>?_)
 unfold Rt at h
 refine wa J 13 (Z4 (σ:=ByteArray) (fun st=>(Tc f [(1,.c (.s e)),(5,.c (.s st))])) (fun st=>ZcE e st=some r) ?_ (fun j1=>?_))
 ·intro g h
  unfold ZcE at h
  refine wO J 4 h fun i j h=>Yt j ?_
  have ⟨k,l,h⟩:=ob h
  refine Yt l ?_
  exact oi h▸wr J 2 func220 []
 refine wa J 1 (Ye (σ:=ByteArray × Int) (fun st=>(Tc f [(0,.S 0),(1,.c (.s e)),(5,.c (.s st.1)),(6,.I st.2)])) (fun n st=>P7 rc f e n st.1 st.2) (r:=r) (fun _=>rfl) ?_ (fun ih=>?_))
 ·intro n2 ih3
  rintro ⟨m,o⟩ h
  unfold P7 at h
  refine ZU J 8 h (fun h=>wa J 2 (ZO [] (j1 m h))) fun h=>?_
  refine wO J 7 h fun p q h=>Yt q ?_
  refine wO J 2 h fun t u h=>Ya J Us u ?_
  refine wO J 2 h fun v x h=>Yt x ?_
  have ⟨y,z,h⟩:=ob h
  refine ZR (rcT t v _ z) [] [(0,.sl 2),(1,.sl 3)] ?_
  have ⟨A,C,h⟩:=ob h
  refine Yt C ?_
  have ⟨D,G,h⟩:=ob h
  refine Yt G ?_
  have ⟨H,R,h⟩:=ob h
  exact Yt R (wa J 8 (ZO [] (ih3 (H,(ZN (o+1))) h)))
 exact ZO [] (ih N ((str [123,10]),0) h)
theorem Zt8 (N:Nat) (rc:ZY->ByteArray->Option ByteArray) (rcT:(∀ (d:ZY) (e:ByteArray) (r:ByteArray),rc d e=some r->Fn Tryz.prog 186 ⟨2,[.a [.I d.Zq,.s d.ZA,.sl 0,.s d.Zt,.s d.As,.I d.ZB,.sl 1],.c (.s e)],[(0,.sl rS d.To),(1,.sl (Yx YA) d.ZC)],[],2,.c (.s r),[],[]⟩)) (d:ZY) (e:ByteArray) (r:ByteArray) (h:DH N rc d e=some r) :
 Fn Tryz.prog 186 ⟨2,[.a [.I d.Zq,.s d.ZA,.sl 0,.s d.Zt,.s d.As,.I d.ZB,.sl 1],.c (.s e)],[(0,.sl rS d.To),(1,.sl (Yx YA) d.ZC)],[],2,.c (.s r),[],[]⟩:=by
 refine Z5 func186 rfl (fun E F w=>?_)
 unfold DH at h
 refine wB J 22 h (fun h=>?_) fun h=>?_
 ·refine wO J 5 h fun f g h=>Yt g ?_
  refine wO J 2 h fun i j h=>ZR (Zgr N d.To _ j) [] [(0,.sl 0)] ?_
  have ⟨k,l,h⟩:=ob h
  refine Yt l ?_
  have ⟨m,o,h⟩:=ob h
  refine Yt o ?_
  refine wO J 2 h fun p q h=>Yt q ?_
  have ⟨t,u,h⟩:=ob h
  refine Yt u (wa J 1 (Yn ?_))
  cases h
  exact Y2 J func186 []
 refine wB J 6 h (fun h=>?_) fun h=>?_
 ·refine wO J 5 h fun v x h=>Yt x ?_
  have ⟨y,z,h⟩:=ob h
  refine Yt z ?_
  exact oi h▸wr J 2 func186 []
 refine wB J 6 h (fun h=>?_) fun h=>wa J 6 (Z4 (σ:=ByteArray × ByteArray) (fun st=>(HW d.Zq d.ZA d.Zt d.As d.ZB d.To d.ZC [(1,.c (.s e)),(2,.B 2 0),(5,.c (.s st.1)),(6,.c (.s st.2))])) (fun st=>Qg N rc d e st.1 st.2=some r) ?_ (fun j1=>?_))
 ·refine wO J 5 h fun A C h=>Yt C ?_
  have ⟨D,G,h⟩:=ob h
  refine Yt G ?_
  refine wO J 2 h fun H R h=>ZR (Zgr N d.To _ R) [] [(0,.sl 0)] ?_
  have ⟨T,U,h⟩:=ob h
  refine Yt U ?_
  have ⟨X,Y,h⟩:=ob h
  refine Yt Y ?_
  refine wO J 2 h fun Z a0 h=>Yt a0 ?_
  have ⟨b0,c0,h⟩:=ob h
  refine Yt c0 (wa J 1 (Yn ?_))
  cases h
  exact Y2 J func186 []
 ·rintro ⟨e0,g0⟩ h
  unfold Qg at h
  refine wa J 6 (Z4 (σ:=ByteArray) (fun st=>⟨[(5,.c (.s st))],[],[(0,.sl rS d.To),(1,.sl (Yx YA) d.ZC)],3⟩) (fun st=>Zce st=some r) ?_ (fun j2=>?_))
  ·intro i0 h
   unfold Zce at h
   exact oi h▸wr J 5 func186 []
  refine wa J 1 (Ye (σ:=ByteArray × Int) (fun st=>(HW d.Zq d.ZA d.Zt d.As d.ZB d.To d.ZC [(1,.c (.s e)),(2,.B 2 0),(5,.c (.s st.1)),(6,.c (.s g0)),(7,.I st.2)])) (fun n st=>Uc N rc d e g0 n st.1 st.2) (r:=r) (fun _=>rfl) ?_ (fun ih=>?_))
  ·intro n2 ih7
   rintro ⟨j0,k0⟩ h
   unfold Uc at h
   refine ZU J 9 h (fun h=>wa J 2 (ZO [] (j2 j0 h))) fun h=>?_
   refine wa J 11 (Z4 (σ:=Bool) (fun st=>(HW d.Zq d.ZA d.Zt d.As d.ZB d.To d.ZC [(1,.c (.s e)),(2,.B 2 0),(5,.c (.s j0)),(6,.c (.s g0)),(7,.I k0),(74,.O st)])) (fun st=>Rq N rc d e g0 j0 k0 (Uc N rc d e g0 n2) st=some r) ?_ (fun j10=>?_))
   ·intro l0 h
    unfold Rq at h
    refine eB h (fun h=>?_) fun h=>?_
    ·refine wO J 3 h fun m0 o0 h=>Yt o0 ?_
     refine wO J 8 h fun p0 q0 h=>Ya J (Y8 YA) q0 ?_
     refine wO J 2 h fun s0 t0 h=>ZR (ZgC N rc rcT p0 e _ t0) [] [(0,.sl 4)] ?_
     have ⟨u0,v0,h⟩:=ob h
     exact Yt v0 (wa J 8 (ZO [] (ih7 (u0,(ZN (k0+1))) h)))
    refine ZU J 7 h (fun h=>?_) fun h=>?_
    ·refine wO J 8 h fun x0 y0 h=>Ya J (Y8 YA) y0 ?_
     refine wO J 2 h fun z0 A0 h=>ZR (ZgC N rc rcT x0 e _ A0) [] [(0,.sl 4)] ?_
     have ⟨B0,C0,h⟩:=ob h
     exact Yt C0 (wa J 8 (ZO [] (ih7 (B0,(ZN (k0+1))) h)))
    refine wO J 4 h fun D0 G0 h=>Yt G0 ?_
    refine wO J 8 h fun H0 I0 h=>Ya J (Y8 YA) I0 ?_
    refine wO J 2 h fun L0 M0 h=>ZR (ZgC N rc rcT H0 e _ M0) [] [(0,.sl 4)] ?_
    have ⟨O0,R0,h⟩:=ob h
    exact Yt R0 (wa J 8 (ZO [] (ih7 (O0,(ZN (k0+1))) h)))
   refine Xf h (fun h=>wa J 14 (ZO [] (j10 false h))) fun h=>?_
   exact wB J 5 h (fun h=>wa J 9 (ZO [] (j10 (k0==(ZN ((d.ZC.length:Int)-1))) h))) fun h=>wa J 9 (ZO [] (j10 false h))
  exact ZO [] (ih N (e0,0) h)
 refine eB h (fun h=>?_) fun h=>?_
 ·refine wO J 4 h fun S0 U0 h=>Yt U0 ?_
  have ⟨V0,X0,h⟩:=ob h
  exact Yt X0 (wa J 2 (ZO [] (j1 (V0,(str [])) h)))
 refine wB J 6 h (fun h=>wa J 5 (ZO [] (j1 ((str [112,97,114,32]),(str [32,97,110,100,32])) h))) fun h=>?_
 refine wO J 5 h fun Y0 Z0 h=>Yt Z0 ?_
 have ⟨a1,b1,h⟩:=ob h
 refine Yt b1 ?_
 refine ZU J 9 h (fun h=>wa J 2 (ZO [] (j1 (a1,(str [32,111,114,32])) h))) fun h=>?_
 refine wO J 5 h fun c1 e1 h=>ZR (He N d.ZB _ e1) [] [] ?_
 have ⟨g1,i1,h⟩:=ob h
 refine Yt i1 ?_
 have ⟨k1,l1,h⟩:=ob h
 refine Yt l1 ?_
 have ⟨m1,o1,h⟩:=ob h
 exact Yt o1 (wa J 2 (ZO [] (j1 (m1,(str [32,111,114,32])) h)))
theorem Zua:∀ (N:Nat) (d:ZY) (e:ByteArray) (r:ByteArray) (h:Zcf N d e=some r),Fn Tryz.prog 186 ⟨2,[.a [.I d.Zq,.s d.ZA,.sl 0,.s d.Zt,.s d.As,.I d.ZB,.sl 1],.c (.s e)],[(0,.sl rS d.To),(1,.sl (Yx YA) d.ZC)],[],2,.c (.s r),[],[]⟩:=by
 intro N
 induction N with
 | zero=>intros;rename_i h;cases h
 | succ N ih=>intro d e r h;exact Zt8 N (Zcf N) ih d e r h
theorem Zt9 (N:Nat) (d:ZY) (e:ByteArray) (r:ByteArray) (h:DG N d e=some r):Fn Tryz.prog 186 ⟨2,[.a [.I d.Zq,.s d.ZA,.sl 0,.s d.Zt,.s d.As,.I d.ZB,.sl 1],.c (.s e)],[(0,.sl rS d.To),(1,.sl (Yx YA) d.ZC)],[],2,.c (.s r),[],[]⟩:=Zua N d e r h
theorem Ztm (N:Nat) (d:(List Z3)) (r:ByteArray) (h:z127 N d=some r) :
 Fn Tryz.prog 127 ⟨1,[.S 0],[(0,.sl Yw d)],[],1,.c (.s r),[],[]⟩:=by
 refine Z5 func127 rfl (fun E F w=>?_)
 unfold z127 at h
 refine wa J 13 (Z4 (σ:=ByteArray) (fun st=>(HU d [(3,.c (.s st))])) (fun st=>Zbv st=some r) ?_ (fun j1=>?_))
 ·intro e h
  unfold Zbv at h
  exact oi h▸wr J 5 func127 []
 refine wa J 1 (Ye (σ:=ByteArray × Int) (fun st=>(HU d [(0,.S 0),(3,.c (.s st.1)),(4,.I st.2)])) (fun n st=>VP N d n st.1 st.2) (r:=r) (fun _=>rfl) ?_ (fun ih=>?_))
 ·intro n22 ih21
  rintro ⟨f,g⟩ h
  unfold VP at h
  refine ZU J 8 h (fun h=>wa J 2 (ZO [] (j1 f h))) fun h=>?_
  refine wO J 9 h fun i j h=>Ya J WQ j ?_
  refine wO J 2 h fun k l h=>Yt l ?_
  have ⟨m,o,h⟩:=ob h
  refine Yt o ?_
  refine wO J 2 h fun p q h=>Ya J WQ q ?_
  refine wO J 2 h fun t u h=>ZR (Zgr N p.ZD _ u) [] [(0,.sl 6)] ?_
  have ⟨v,x,h⟩:=ob h
  refine Yt x ?_
  have ⟨y,z,h⟩:=ob h
  refine Yt z ?_
  have ⟨A,C,h⟩:=ob h
  refine Yt C (wa J 1 (Yn (wa J 5 (Z4 (σ:=ByteArray) (fun st=>(HV d [(0,.S 0),(3,.c (.s st)),(4,.I g)])) (fun st=>Db N d g (VP N d n22) st=some r) ?_ (fun j34=>?_)))))
  ·intro D h
   unfold Db at h
   refine wa J 5 (Z4 (σ:=ByteArray) (fun st=>(HV d [(0,.S 0),(3,.c (.s st)),(4,.I g)])) (fun st=>Da g (VP N d n22) st=some r) ?_ (fun j36=>?_))
   ·intro G h
    unfold Da at h
    exact wO J 2 h fun H R h=>Yt R (wa J 8 (ZO [] (ih21 (H,(ZN (g+1))) h)))
   refine wa J 1 (Ye (σ:=ByteArray × Int) (fun st=>(HV d [(0,.S 0),(3,.c (.s st.1)),(4,.I g),(6,.I st.2)])) (fun n st=>Pu N d g (VP N d n22) n st.1 st.2) (r:=r) (fun _=>rfl) ?_ (fun ih=>?_))
   ·intro n25 ih38
    rintro ⟨T,U⟩ h
    unfold Pu at h
    refine wO J 6 h fun X Y h=>Ya J WQ Y ?_
    refine ZU J 5 h (fun h=>wa J 2 (ZO [] (j36 T h))) fun h=>?_
    refine wO J 8 h fun Z a0 h=>Ya J WQ a0 ?_
    refine wO J 3 h fun b0 c0 h=>Ya J Us c0 ?_
    refine wO J 1 h fun e0 g0 h=>ZR (Zt9 N b0 (str [9]) _ g0) [] [(0,.sl 18),(1,.sl 19)] ?_
    have ⟨i0,j0,h⟩:=ob h
    refine Yt j0 ?_
    have ⟨k0,l0,h⟩:=ob h
    refine Yt l0 ?_
    have ⟨m0,o0,h⟩:=ob h
    exact Yt o0 (wa J 8 (ZO [] (ih38 (m0,(ZN (U+1))) h)))
   exact ZO [] (ih N (D,0) h)
  refine wa J 1 (Ye (σ:=ByteArray × Int) (fun st=>(HV d [(0,.S 0),(3,.c (.s st.1)),(4,.I g),(5,.I st.2)])) (fun n st=>Pv N d g (VP N d n22) n st.1 st.2) (r:=r) (fun _=>rfl) ?_ (fun ih=>?_))
  ·intro n26 ih39
   rintro ⟨p0,q0⟩ h
   unfold Pv at h
   refine wO J 6 h fun s0 t0 h=>Ya J WQ t0 ?_
   refine ZU J 5 h (fun h=>wa J 2 (ZO [] (j34 p0 h))) fun h=>?_
   refine wO J 8 h fun u0 v0 h=>Ya J WQ v0 ?_
   refine wO J 3 h fun x0 y0 h=>Ya J VJ y0 ?_
   refine wO J 1 h fun z0 A0 h=>ZR (Zt7 N x0 _ A0) [] [(0,.sl 18),(1,.sl 19)] ?_
   have ⟨B0,C0,h⟩:=ob h
   refine Yt C0 ?_
   have ⟨D0,G0,h⟩:=ob h
   refine Yt G0 ?_
   have ⟨H0,I0,h⟩:=ob h
   exact Yt I0 (wa J 8 (ZO [] (ih39 (H0,(ZN (q0+1))) h)))
  exact ZO [] (ih N (A,0) h)
 exact ZO [] (ih N ((str []),0) h)
end Gx
end
