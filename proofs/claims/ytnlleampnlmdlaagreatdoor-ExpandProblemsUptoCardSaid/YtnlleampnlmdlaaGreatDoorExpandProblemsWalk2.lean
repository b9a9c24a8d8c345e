/- Each function of the statement computes what its plain definition says, part 2. -/
import Derived.Test.YtnlleampnlmdlaaGreatDoorExpandProblemsWalk1
set_option linter.all false
section
set_option maxRecDepth 10000
set_option maxHeartbeats 4000000
open Go Go.Kx Go.Proofs Tryz
namespace Gx
theorem Zsr (N:Nat) (c:T7) (r:T7) (h:Db N c=some r) :
 Fn Tryz.prog 26 ⟨6,[.B 0 0],((1,.sl ZV c.all')::Yz 2 3 4 c.p' []),[(0,.box (Xe 1 2 3 4 5 c) 86),(5,.own rS c.calls' false)],11,.t [],((6,.sl ZV r.all')::Yz 7 8 9 r.p' []),[(5,.gone),(10,.own rS r.calls' false),(0,.box (Xe 6 7 8 9 10 r) 86)]⟩:=by
 refine Z5 func26 rfl (fun E F w=>?_)
 unfold Db at h
 refine wa J 10 (Z2 (σ:=(List ZL) × ByteArray × (List ByteArray) × (List ZS) × (List ZJ) × (List ByteArray) × ByteArray × ByteArray × Int) (fun st=>(Zc6 st.2.1 st.2.2.2.2.2.2.1 st.2.2.2.2.2.2.2.1 st.2.2.2.2.2.2.2.2 st.2.2.2.2.2.1 c.all' c.p' st.1 st.2.2.1 st.2.2.2.1 st.2.2.2.2.1 [])) (fun st=>Dc st.1 st.2.1 st.2.2.1 st.2.2.2.1 st.2.2.2.2.1 st.2.2.2.2.2.1 st.2.2.2.2.2.2.1 st.2.2.2.2.2.2.2.1 st.2.2.2.2.2.2.2.2=some r) ?_ (fun j1=>?_))
 ·rintro ⟨d,e,f,g,i,j,k,l,m⟩ h
  unfold Dc at h
  cases h
  exact Y7 J func26 [(6,.sl 6),(7,.sl 7),(8,.sl 8),(9,.sl 9),(10,.sl 10)]
 refine wa J 1 (Yc (σ:=(List ZL) × ByteArray × (List ByteArray) × (List ZS) × (List ZJ) × (List ByteArray) × ByteArray × ByteArray × Int × Int) (fun st=>(Zc6 st.2.1 st.2.2.2.2.2.2.1 st.2.2.2.2.2.2.2.1 st.2.2.2.2.2.2.2.2.1 st.2.2.2.2.2.1 c.all' c.p' st.1 st.2.2.1 st.2.2.2.1 st.2.2.2.2.1 [(0,.B 0 0),(12,.S 3),(13,.I (c.p'.ZE.length:Int)),(14,.I st.2.2.2.2.2.2.2.2.2)])) (fun n st=>V5 N c n st.1 st.2.1 st.2.2.1 st.2.2.2.1 st.2.2.2.2.1 st.2.2.2.2.2.1 st.2.2.2.2.2.2.1 st.2.2.2.2.2.2.2.1 st.2.2.2.2.2.2.2.2.1 st.2.2.2.2.2.2.2.2.2) (r:=r) (fun _=>rfl) ?_ (fun ih=>?_))
 ·intro n12 ih51
  rintro ⟨o,p,q,u,v,x,y,z,A,C⟩ h
  unfold V5 at h
  refine ZQ J 5 h (fun h=>wa J 2 (ZK [] (j1 (o,p,q,u,v,x,y,z,A) h))) fun h=>?_
  refine wO J 7 h fun D G h=>Yb J VU G ?_
  refine wO J 14 h fun H R h=>QU J YE R ?_
  refine wO J 1 h fun T U h=>ZO (Zs5 N H D _ U) [] [(0,.sl 15),(1,.bp 14 0),(2,.sl 12),(3,.sl 13)] (wa J 1 (Z2 (σ:=(List ZL) × ByteArray × (List ByteArray) × (List ZS) × (List ZJ) × (List ByteArray) × ByteArray × ByteArray × Int) (fun st=>⟨[(0,.B 0 0),(3,.B 14 0),(12,.S 3),(13,.I (c.p'.ZE.length:Int)),(14,.I C)],[(0,.box [.sl 16,.s st.2.1,.sl 17,.sl 18,.sl 19,.sl 20,.s st.2.2.2.2.2.2.1,.s st.2.2.2.2.2.2.2.1,.I st.2.2.2.2.2.2.2.2] 86),(14,.box [.s D.Zt,.sl 12,.sl 13] 32),(20,.own rS st.2.2.2.2.2.1 false)],((1,.sl ZV c.all')::Yz 2 3 4 c.p' (Xu 12 13 D [(16,.sl ZV st.1),(17,.sl rS st.2.2.1),(18,.sl YE st.2.2.2.1),(19,.sl ZR st.2.2.2.2.1)])),21⟩) (fun st=>Hb N C (V5 N c n12) D st.1 st.2.1 st.2.2.1 st.2.2.2.1 st.2.2.2.2.1 st.2.2.2.2.2.1 st.2.2.2.2.2.2.1 st.2.2.2.2.2.2.2.1 st.2.2.2.2.2.2.2.2=some r) ?_ (fun j84=>?_)))
  ·rintro ⟨X,Y,Z,a0,b0,c0,e0,g0,i0⟩ h
   unfold Hb at h
   refine wa J 7 (Z2 (σ:=(List ZL) × ByteArray × (List ByteArray) × (List ZS) × (List ZJ) × (List ByteArray) × ByteArray × ByteArray × Int) (fun st=>⟨[(0,.B 0 0),(12,.S 3),(13,.I (c.p'.ZE.length:Int)),(14,.I C)],[(0,.box [.sl 21,.s st.2.1,.sl 22,.sl 23,.sl 24,.sl 25,.s st.2.2.2.2.2.2.1,.s st.2.2.2.2.2.2.2.1,.I st.2.2.2.2.2.2.2.2] 86),(25,.own rS st.2.2.2.2.2.1 false)],((1,.sl ZV c.all')::Yz 2 3 4 c.p' [(21,.sl ZV st.1),(22,.sl rS st.2.2.1),(23,.sl YE st.2.2.2.1),(24,.sl ZR st.2.2.2.2.1)]),26⟩) (fun st=>Dd C (V5 N c n12) st.1 st.2.1 st.2.2.1 st.2.2.2.1 st.2.2.2.2.1 st.2.2.2.2.2.1 st.2.2.2.2.2.2.1 st.2.2.2.2.2.2.2.1 st.2.2.2.2.2.2.2.2=some r) ?_ (fun j85=>?_))
   ·rintro ⟨j0,k0,l0,m0,o0,p0,q0,s0,t0⟩ h
    unfold Dd at h
    exact wa J 5 (ZK [(6,.sl 21),(7,.sl 22),(8,.sl 23),(9,.sl 24),(10,.sl 25)] (ih51 (j0,k0,l0,m0,o0,p0,q0,s0,t0,(ZM (C+1))) h))
   refine wa J 1 (Yc (σ:=(List ZL) × ByteArray × (List ByteArray) × (List ZS) × (List ZJ) × (List ByteArray) × ByteArray × ByteArray × Int × Int) (fun st=>⟨[(0,.B 0 0),(3,.B 14 0),(12,.S 3),(13,.I (c.p'.ZE.length:Int)),(14,.I C),(33,.S 12),(34,.I (D.Zy.length:Int)),(35,.I st.2.2.2.2.2.2.2.2.2)],[(0,.box [.sl 21,.s st.2.1,.sl 22,.sl 23,.sl 24,.sl 25,.s st.2.2.2.2.2.2.1,.s st.2.2.2.2.2.2.2.1,.I st.2.2.2.2.2.2.2.2.1] 86),(14,.box [.s D.Zt,.sl 12,.sl 13] 32),(25,.own rS st.2.2.2.2.2.1 false)],((1,.sl ZV c.all')::Yz 2 3 4 c.p' (Xu 12 13 D [(21,.sl ZV st.1),(22,.sl rS st.2.2.1),(23,.sl YE st.2.2.2.1),(24,.sl ZR st.2.2.2.2.1)])),26⟩) (fun n st=>Tx N C (V5 N c n12) D n st.1 st.2.1 st.2.2.1 st.2.2.2.1 st.2.2.2.2.1 st.2.2.2.2.2.1 st.2.2.2.2.2.2.1 st.2.2.2.2.2.2.2.1 st.2.2.2.2.2.2.2.2.1 st.2.2.2.2.2.2.2.2.2) (r:=r) (fun _=>rfl) ?_ (fun ih=>?_))
   ·intro n14 ih93
    rintro ⟨u0,v0,x0,y0,z0,A0,B0,C0,D0,G0⟩ h
    unfold Tx at h
    refine ZQ J 5 h (fun h=>wa J 2 (ZK [] (j85 (u0,v0,x0,y0,z0,A0,B0,C0,D0) h))) fun h=>?_
    refine wO J 7 h fun H0 I0 h=>Yb J W9 I0 ?_
    refine wO J 11 h fun L0 M0 h=>QU J Xs M0 ?_
    refine wO J 1 h fun O0 R0 h=>ZO (Zs8 N L0 H0 _ R0) [] [(0,.sl 28),(1,.bp 27 0)] (wa J 1 (Z2 (σ:=(List ZL) × ByteArray × (List ByteArray) × (List ZS) × (List ZJ) × (List ByteArray) × ByteArray × ByteArray × Int) (fun st=>(Zk6 st.2.1 st.2.2.2.2.2.2.1 st.2.2.2.2.2.2.2.1 st.2.2.2.2.2.2.2.2 D.Zt H0 st.2.2.2.2.2.1 c.all' c.p' D st.1 st.2.2.1 st.2.2.2.1 st.2.2.2.2.1 [(0,.B 0 0),(3,.B 14 0),(5,.B 27 0),(12,.S 3),(13,.I (c.p'.ZE.length:Int)),(14,.I C),(33,.S 12),(34,.I (D.Zy.length:Int)),(35,.I G0)])) (fun st=>Ha N G0 (Tx N C (V5 N c n12) D n14) H0 st.1 st.2.1 st.2.2.1 st.2.2.2.1 st.2.2.2.2.1 st.2.2.2.2.2.1 st.2.2.2.2.2.2.1 st.2.2.2.2.2.2.2.1 st.2.2.2.2.2.2.2.2=some r) ?_ (fun j98=>?_)))
    ·rintro ⟨S0,U0,V0,X0,Y0,Z0,a1,b1,c1⟩ h
     unfold Ha at h
     refine wa J 13 (Z2 (σ:=Int × Int) (fun st=>(Zk6 U0 a1 b1 c1 D.Zt H0 Z0 c.all' c.p' D S0 V0 X0 Y0 [(0,.B 0 0),(3,.B 14 0),(5,.B 27 0),(6,.I st.1),(7,.I st.2),(12,.S 3),(13,.I (c.p'.ZE.length:Int)),(14,.I C),(33,.S 12),(34,.I (D.Zy.length:Int)),(35,.I G0)])) (fun st=>L9 N G0 (Tx N C (V5 N c n12) D n14) H0 S0 U0 V0 X0 Y0 Z0 a1 b1 c1 st.1 st.2=some r) ?_ (fun j99=>?_))
     ·rintro ⟨e1,g1⟩ h
      unfold L9 at h
      refine wB J 10 h (fun h=>?_) fun h=>?_
      ·exact wO J 19 h fun i1 k1 h=>ZO (XR N (⟨S0,(⟨U0,V0,X0,Y0⟩:ZL),Z0,(⟨a1,b1,c1⟩:T6)⟩:T7) H0.Zt 2 _ k1) [] [(0,.bp 0 0),(1,.sl 29),(2,.sl 30),(3,.sl 31),(4,.sl 32),(5,.sl 33)] (wa J 6 (ZK [(21,.sl 34),(22,.sl 35),(23,.sl 36),(24,.sl 37),(25,.sl 38)] (ih93 (i1.all',i1.p'.Zt,i1.p'.ZD,i1.p'.ZE,i1.p'.ZF,i1.calls',i1.out'.ZH,i1.out'.Zt,i1.out'.ZI,(ZM (G0+1))) h)))
      refine wB J 7 h (fun h=>?_) fun h=>?_
      ·exact wO J 12 h fun l1 m1 h=>ZO (XR N (⟨S0,(⟨U0,V0,X0,Y0⟩:ZL),Z0,(⟨a1,b1,c1⟩:T6)⟩:T7) H0.Zt 2 _ m1) [] [(0,.bp 0 0),(1,.sl 29),(2,.sl 30),(3,.sl 31),(4,.sl 32),(5,.sl 33)] (wa J 6 (ZK [(21,.sl 34),(22,.sl 35),(23,.sl 36),(24,.sl 37),(25,.sl 38)] (ih93 (l1.all',l1.p'.Zt,l1.p'.ZD,l1.p'.ZE,l1.p'.ZF,l1.calls',l1.out'.ZH,l1.out'.Zt,l1.out'.ZI,(ZM (G0+1))) h)))
      refine ZQ J 7 h (fun h=>wa J 7 (ZK [(21,.sl 29),(22,.sl 30),(23,.sl 31),(24,.sl 32),(25,.sl 33)] (ih93 (S0,U0,V0,X0,Y0,Z0,a1,b1,c1,(ZM (G0+1))) h))) fun h=>?_
      exact wO J 5 h fun o1 p1 h=>ZO (XR N (⟨S0,(⟨U0,V0,X0,Y0⟩:ZL),Z0,(⟨a1,b1,c1⟩:T6)⟩:T7) H0.Zt 2 _ p1) [] [(0,.bp 0 0),(1,.sl 29),(2,.sl 30),(3,.sl 31),(4,.sl 32),(5,.sl 33)] (wa J 6 (ZK [(21,.sl 34),(22,.sl 35),(23,.sl 36),(24,.sl 37),(25,.sl 38)] (ih93 (o1.all',o1.p'.Zt,o1.p'.ZD,o1.p'.ZE,o1.p'.ZF,o1.calls',o1.out'.ZH,o1.out'.Zt,o1.out'.ZI,(ZM (G0+1))) h)))
     exact eB h (fun h=>wa J 5 (ZK [] (j99 (0,40) h))) fun h=>wa J 2 (ZK [] (j99 ((-1000),1000) h))
    refine YZ h (fun h=>wa J 2 (ZK [(29,.sl 21),(30,.sl 22),(31,.sl 23),(32,.sl 24),(33,.sl 25)] (j98 (u0,v0,x0,y0,z0,A0,B0,C0,D0) h))) fun h=>?_
    exact wO J 5 h fun q1 s1 h=>ZO (XR N (⟨u0,(⟨v0,x0,y0,z0⟩:ZL),A0,(⟨B0,C0,D0⟩:T6)⟩:T7) H0.Zt 9 _ s1) [] [(0,.bp 0 0),(1,.sl 21),(2,.sl 22),(3,.sl 23),(4,.sl 24),(5,.sl 25)] (wa J 1 (ZK [] (j98 (q1.all',q1.p'.Zt,q1.p'.ZD,q1.p'.ZE,q1.p'.ZF,q1.calls',q1.out'.ZH,q1.out'.Zt,q1.out'.ZI) h)))
   exact ZK [(21,.sl 16),(22,.sl 17),(23,.sl 18),(24,.sl 19),(25,.sl 20)] (ih N (X,Y,Z,a0,b0,c0,e0,g0,i0,0) h)
  refine YZ h (fun h=>wa J 2 (ZK [(16,.sl 6),(17,.sl 7),(18,.sl 8),(19,.sl 9),(20,.sl 10)] (j84 (o,p,q,u,v,x,y,z,A) h))) fun h=>?_
  exact wO J 5 h fun t1 u1 h=>ZO (XR N (⟨o,(⟨p,q,u,v⟩:ZL),x,(⟨y,z,A⟩:T6)⟩:T7) D.Zt 9 _ u1) [] [(0,.bp 0 0),(1,.sl 6),(2,.sl 7),(3,.sl 8),(4,.sl 9),(5,.sl 10)] (wa J 1 (ZK [] (j84 (t1.all',t1.p'.Zt,t1.p'.ZD,t1.p'.ZE,t1.p'.ZF,t1.calls',t1.out'.ZH,t1.out'.Zt,t1.out'.ZI) h)))
 exact ZK [(6,.sl 1),(7,.sl 2),(8,.sl 3),(9,.sl 4),(10,.sl 5)] (ih N (c.all',c.p'.Zt,c.p'.ZD,c.p'.ZE,c.p'.ZF,c.calls',c.out'.ZH,c.out'.Zt,c.out'.ZI,0) h)
theorem Zss (N:Nat) (c:T7) (r:T7) (h:De N c=some r) :
 Fn Tryz.prog 27 ⟨6,[.B 0 0],((1,.sl ZV c.all')::Yz 2 3 4 c.p' []),[(0,.box (Xe 1 2 3 4 5 c) 86),(5,.own rS c.calls' false)],11,.t [],((6,.sl ZV r.all')::Yz 7 8 9 r.p' []),[(5,.gone),(10,.own rS r.calls' false),(0,.box (Xe 6 7 8 9 10 r) 86)]⟩:=by
 refine Z5 func27 rfl (fun E F w=>?_)
 unfold De at h
 refine wa J 10 (Z2 (σ:=(List ZL) × ByteArray × (List ByteArray) × (List ZS) × (List ZJ) × (List ByteArray) × ByteArray × ByteArray × Int) (fun st=>(Zc6 st.2.1 st.2.2.2.2.2.2.1 st.2.2.2.2.2.2.2.1 st.2.2.2.2.2.2.2.2 st.2.2.2.2.2.1 c.all' c.p' st.1 st.2.2.1 st.2.2.2.1 st.2.2.2.2.1 [])) (fun st=>Df st.1 st.2.1 st.2.2.1 st.2.2.2.1 st.2.2.2.2.1 st.2.2.2.2.2.1 st.2.2.2.2.2.2.1 st.2.2.2.2.2.2.2.1 st.2.2.2.2.2.2.2.2=some r) ?_ (fun j1=>?_))
 ·rintro ⟨d,e,f,g,i,j,k,l,m⟩ h
  unfold Df at h
  cases h
  exact Y7 J func27 [(6,.sl 6),(7,.sl 7),(8,.sl 8),(9,.sl 9),(10,.sl 10)]
 refine wa J 1 (Yc (σ:=(List ZL) × ByteArray × (List ByteArray) × (List ZS) × (List ZJ) × (List ByteArray) × ByteArray × ByteArray × Int × Int) (fun st=>(Zc6 st.2.1 st.2.2.2.2.2.2.1 st.2.2.2.2.2.2.2.1 st.2.2.2.2.2.2.2.2.1 st.2.2.2.2.2.1 c.all' c.p' st.1 st.2.2.1 st.2.2.2.1 st.2.2.2.2.1 [(0,.B 0 0),(17,.S 3),(18,.I (c.p'.ZE.length:Int)),(19,.I st.2.2.2.2.2.2.2.2.2)])) (fun n st=>WG N c n st.1 st.2.1 st.2.2.1 st.2.2.2.1 st.2.2.2.2.1 st.2.2.2.2.2.1 st.2.2.2.2.2.2.1 st.2.2.2.2.2.2.2.1 st.2.2.2.2.2.2.2.2.1 st.2.2.2.2.2.2.2.2.2) (r:=r) (fun _=>rfl) ?_ (fun ih=>?_))
 ·intro n132 ih516
  rintro ⟨o,p,q,u,v,x,y,z,A,C⟩ h
  unfold WG at h
  refine ZQ J 5 h (fun h=>wa J 2 (ZK [] (j1 (o,p,q,u,v,x,y,z,A) h))) fun h=>?_
  refine wO J 6 h fun D G h=>Yb J VU G (wa J 11 (Z2 (σ:=(List ZL) × ByteArray × (List ByteArray) × (List ZS) × (List ZJ) × (List ByteArray) × ByteArray × ByteArray × Int) (fun st=>⟨[(0,.B 0 0),(17,.S 3),(18,.I (c.p'.ZE.length:Int)),(19,.I C)],[(0,.box [.sl 15,.s st.2.1,.sl 16,.sl 17,.sl 18,.sl 19,.s st.2.2.2.2.2.2.1,.s st.2.2.2.2.2.2.2.1,.I st.2.2.2.2.2.2.2.2] 86),(19,.own rS st.2.2.2.2.2.1 false)],((1,.sl ZV c.all')::Yz 2 3 4 c.p' [(15,.sl ZV st.1),(16,.sl rS st.2.2.1),(17,.sl YE st.2.2.2.1),(18,.sl ZR st.2.2.2.2.1)]),20⟩) (fun st=>Dg C (WG N c n132) st.1 st.2.1 st.2.2.1 st.2.2.2.1 st.2.2.2.2.1 st.2.2.2.2.2.1 st.2.2.2.2.2.2.1 st.2.2.2.2.2.2.2.1 st.2.2.2.2.2.2.2.2=some r) ?_ (fun j859=>?_)))
  ·rintro ⟨H,R,T,U,X,Y,Z,a0,b0⟩ h
   unfold Dg at h
   exact wa J 5 (ZK [(6,.sl 15),(7,.sl 16),(8,.sl 17),(9,.sl 18),(10,.sl 19)] (ih516 (H,R,T,U,X,Y,Z,a0,b0,(ZM (C+1))) h))
  refine wa J 1 (Yc (σ:=(List ZL) × ByteArray × (List ByteArray) × (List ZS) × (List ZJ) × (List ByteArray) × ByteArray × ByteArray × Int × Int) (fun st=>⟨[(0,.B 0 0),(3,.B 14 0),(17,.S 3),(18,.I (c.p'.ZE.length:Int)),(19,.I C),(24,.S 13),(25,.I (D.Zz.length:Int)),(26,.I st.2.2.2.2.2.2.2.2.2)],[(0,.box [.sl 15,.s st.2.1,.sl 16,.sl 17,.sl 18,.sl 19,.s st.2.2.2.2.2.2.1,.s st.2.2.2.2.2.2.2.1,.I st.2.2.2.2.2.2.2.2.1] 86),(14,.box [.s D.Zt,.sl 12,.sl 13] 32),(19,.own rS st.2.2.2.2.2.1 false)],((1,.sl ZV c.all')::Yz 2 3 4 c.p' (Xu 12 13 D [(15,.sl ZV st.1),(16,.sl rS st.2.2.1),(17,.sl YE st.2.2.2.1),(18,.sl ZR st.2.2.2.2.1)])),20⟩) (fun n st=>VA N C (WG N c n132) D n st.1 st.2.1 st.2.2.1 st.2.2.2.1 st.2.2.2.2.1 st.2.2.2.2.2.1 st.2.2.2.2.2.2.1 st.2.2.2.2.2.2.2.1 st.2.2.2.2.2.2.2.2.1 st.2.2.2.2.2.2.2.2.2) (r:=r) (fun _=>rfl) ?_ (fun ih=>?_))
  ·intro n154 ih945
   rintro ⟨c0,e0,g0,i0,j0,k0,l0,m0,o0,p0⟩ h
   unfold VA at h
   refine ZQ J 5 h (fun h=>wa J 2 (ZK [] (j859 (c0,e0,g0,i0,j0,k0,l0,m0,o0) h))) fun h=>?_
   refine wO J 6 h fun q0 s0 h=>Yb J RS s0 (wa J 24 (Z2 (σ:=(List ZL) × ByteArray × (List ByteArray) × (List ZS) × (List ZJ) × (List ByteArray) × ByteArray × ByteArray × Int × Int × Int) (fun st=>(Zk7 st.2.1 st.2.2.2.2.2.2.1 st.2.2.2.2.2.2.2.1 st.2.2.2.2.2.2.2.2.1 D.Zt q0.Zw.Zq q0.Zw.Zv q0.Zw.Field q0.Zw.N q0.Op q0.Zx.Zq q0.Zx.Zv q0.Zx.Field q0.Zx.N st.2.2.2.2.2.2.2.2.2.1 st.2.2.2.2.2.2.2.2.2.2 st.2.2.2.2.2.1 c.all' c.p' D st.1 st.2.2.1 st.2.2.2.1 st.2.2.2.2.1 [(0,.B 0 0),(3,.B 14 0),(5,.B 21 0),(6,.B 22 0),(7,.B 23 0),(17,.S 3),(18,.I (c.p'.ZE.length:Int)),(19,.I C),(24,.S 13),(25,.I (D.Zz.length:Int)),(26,.I p0)])) (fun st=>Zb7 N D p0 (VA N C (WG N c n132) D n154) q0 st.1 st.2.1 st.2.2.1 st.2.2.2.1 st.2.2.2.2.1 st.2.2.2.2.2.1 st.2.2.2.2.2.2.1 st.2.2.2.2.2.2.2.1 st.2.2.2.2.2.2.2.2.1 st.2.2.2.2.2.2.2.2.2.1 st.2.2.2.2.2.2.2.2.2.2=some r) ?_ (fun j1002=>?_)))
   ·rintro ⟨t0,u0,v0,x0,y0,z0,A0,B0,C0,D0,G0⟩ h
    unfold Zb7 at h
    refine wa J 10 (Z2 (σ:=(List ZL) × ByteArray × (List ByteArray) × (List ZS) × (List ZJ) × (List ByteArray) × ByteArray × ByteArray × Int × Int) (fun st=>⟨[(0,.B 0 0),(3,.B 14 0),(5,.B 21 0),(10,.I st.2.2.2.2.2.2.2.2.2),(17,.S 3),(18,.I (c.p'.ZE.length:Int)),(19,.I C),(24,.S 13),(25,.I (D.Zz.length:Int)),(26,.I p0)],[(0,.box [.sl 29,.s st.2.1,.sl 30,.sl 31,.sl 32,.sl 33,.s st.2.2.2.2.2.2.1,.s st.2.2.2.2.2.2.2.1,.I st.2.2.2.2.2.2.2.2.1] 86),(14,.box [.s D.Zt,.sl 12,.sl 13] 32),(21,.box [.I q0.Zw.Zq,.s q0.Zw.Zv,.s q0.Zw.Field,.I q0.Zw.N,.s q0.Op,.I q0.Zx.Zq,.s q0.Zx.Zv,.s q0.Zx.Field,.I q0.Zx.N] 78),(33,.own rS st.2.2.2.2.2.1 false)],((1,.sl ZV c.all')::Yz 2 3 4 c.p' (Xu 12 13 D [(29,.sl ZV st.1),(30,.sl rS st.2.2.1),(31,.sl YE st.2.2.2.1),(32,.sl ZR st.2.2.2.2.1)])),34⟩) (fun st=>Dh N D p0 (VA N C (WG N c n132) D n154) q0 st.1 st.2.1 st.2.2.1 st.2.2.2.1 st.2.2.2.2.1 st.2.2.2.2.2.1 st.2.2.2.2.2.2.1 st.2.2.2.2.2.2.2.1 st.2.2.2.2.2.2.2.2.1 st.2.2.2.2.2.2.2.2.2=some r) ?_ (fun j1007=>?_))
    ·rintro ⟨H0,I0,L0,M0,O0,R0,S0,U0,V0,X0⟩ h
     unfold Dh at h
     refine wB J 5 h (fun h=>?_) fun h=>?_
     ·exact wO J 26 h fun Y0 Z0 h=>ZO (XR N (⟨H0,(⟨I0,L0,M0,O0⟩:ZL),R0,(⟨S0,U0,V0⟩:T6)⟩:T7) D.Zt 11 _ Z0) [] [(0,.bp 0 0),(1,.sl 29),(2,.sl 30),(3,.sl 31),(4,.sl 32),(5,.sl 33)] (wa J 6 (ZK [(15,.sl 34),(16,.sl 35),(17,.sl 36),(18,.sl 37),(19,.sl 38)] (ih945 (Y0.all',Y0.p'.Zt,Y0.p'.ZD,Y0.p'.ZE,Y0.p'.ZF,Y0.calls',Y0.out'.ZH,Y0.out'.Zt,Y0.out'.ZI,(ZM (p0+1))) h)))
     refine ZQ J 3 h (fun h=>wa J 25 (ZK [(15,.sl 29),(16,.sl 30),(17,.sl 31),(18,.sl 32),(19,.sl 33)] (ih945 (H0,I0,L0,M0,O0,R0,S0,U0,V0,(ZM (p0+1))) h))) fun h=>?_
     refine wB J 4 h (fun h=>?_) fun h=>?_
     ·exact wO J 19 h fun a1 b1 h=>ZO (XR N (⟨H0,(⟨I0,L0,M0,O0⟩:ZL),R0,(⟨S0,U0,V0⟩:T6)⟩:T7) D.Zt 11 _ b1) [] [(0,.bp 0 0),(1,.sl 29),(2,.sl 30),(3,.sl 31),(4,.sl 32),(5,.sl 33)] (wa J 6 (ZK [(15,.sl 34),(16,.sl 35),(17,.sl 36),(18,.sl 37),(19,.sl 38)] (ih945 (a1.all',a1.p'.Zt,a1.p'.ZD,a1.p'.ZE,a1.p'.ZF,a1.calls',a1.out'.ZH,a1.out'.Zt,a1.out'.ZI,(ZM (p0+1))) h)))
     refine wB J 6 h (fun h=>?_) fun h=>?_
     ·exact wO J 13 h fun c1 e1 h=>ZO (XR N (⟨H0,(⟨I0,L0,M0,O0⟩:ZL),R0,(⟨S0,U0,V0⟩:T6)⟩:T7) D.Zt 11 _ e1) [] [(0,.bp 0 0),(1,.sl 29),(2,.sl 30),(3,.sl 31),(4,.sl 32),(5,.sl 33)] (wa J 6 (ZK [(15,.sl 34),(16,.sl 35),(17,.sl 36),(18,.sl 37),(19,.sl 38)] (ih945 (c1.all',c1.p'.Zt,c1.p'.ZD,c1.p'.ZE,c1.p'.ZF,c1.calls',c1.out'.ZH,c1.out'.Zt,c1.out'.ZI,(ZM (p0+1))) h)))
     refine ZQ J 8 h (fun h=>wa J 7 (ZK [(15,.sl 29),(16,.sl 30),(17,.sl 31),(18,.sl 32),(19,.sl 33)] (ih945 (H0,I0,L0,M0,O0,R0,S0,U0,V0,(ZM (p0+1))) h))) fun h=>?_
     exact wO J 5 h fun g1 i1 h=>ZO (XR N (⟨H0,(⟨I0,L0,M0,O0⟩:ZL),R0,(⟨S0,U0,V0⟩:T6)⟩:T7) D.Zt 11 _ i1) [] [(0,.bp 0 0),(1,.sl 29),(2,.sl 30),(3,.sl 31),(4,.sl 32),(5,.sl 33)] (wa J 6 (ZK [(15,.sl 34),(16,.sl 35),(17,.sl 36),(18,.sl 37),(19,.sl 38)] (ih945 (g1.all',g1.p'.Zt,g1.p'.ZD,g1.p'.ZE,g1.p'.ZF,g1.calls',g1.out'.ZH,g1.out'.Zt,g1.out'.ZI,(ZM (p0+1))) h)))
    refine wa J 1 (Yc (σ:=(List ZL) × ByteArray × (List ByteArray) × (List ZS) × (List ZJ) × (List ByteArray) × ByteArray × ByteArray × Int × Int × Int) (fun st=>⟨[(0,.B 0 0),(3,.B 14 0),(5,.B 21 0),(7,.B 23 0),(10,.I st.2.2.2.2.2.2.2.2.2.1),(17,.S 3),(18,.I (c.p'.ZE.length:Int)),(19,.I C),(24,.S 13),(25,.I (D.Zz.length:Int)),(26,.I p0),(58,.a [.I q0.Zw.Zq,.s q0.Zw.Zv,.s q0.Zw.Field,.I q0.Zw.N,.I q0.Zx.Zq,.s q0.Zx.Zv,.s q0.Zx.Field,.I q0.Zx.N]),(59,.I st.2.2.2.2.2.2.2.2.2.2)],[(0,.box [.sl 29,.s st.2.1,.sl 30,.sl 31,.sl 32,.sl 33,.s st.2.2.2.2.2.2.1,.s st.2.2.2.2.2.2.2.1,.I st.2.2.2.2.2.2.2.2.1] 86),(14,.box [.s D.Zt,.sl 12,.sl 13] 32),(21,.box [.I q0.Zw.Zq,.s q0.Zw.Zv,.s q0.Zw.Field,.I q0.Zw.N,.s q0.Op,.I q0.Zx.Zq,.s q0.Zx.Zv,.s q0.Zx.Field,.I q0.Zx.N] 78),(23,.box [.I D0,.I G0] 132),(33,.own rS st.2.2.2.2.2.1 false)],((1,.sl ZV c.all')::Yz 2 3 4 c.p' (Xu 12 13 D [(29,.sl ZV st.1),(30,.sl rS st.2.2.1),(31,.sl YE st.2.2.2.1),(32,.sl ZR st.2.2.2.2.1)])),34⟩) (fun n st=>Ty N D p0 (VA N C (WG N c n132) D n154) q0 D0 G0 n st.1 st.2.1 st.2.2.1 st.2.2.2.1 st.2.2.2.2.1 st.2.2.2.2.2.1 st.2.2.2.2.2.2.1 st.2.2.2.2.2.2.2.1 st.2.2.2.2.2.2.2.2.1 st.2.2.2.2.2.2.2.2.2.1 st.2.2.2.2.2.2.2.2.2.2) (r:=r) (fun _=>rfl) ?_ (fun ih=>?_))
    ·intro n157 ih1017
     rintro ⟨k1,l1,m1,o1,p1,q1,s1,t1,u1,v1,x1⟩ h
     unfold Ty at h
     refine ZQ J 5 h (fun h=>wa J 2 (ZK [] (j1007 (k1,l1,m1,o1,p1,q1,s1,t1,u1,v1) h))) fun h=>?_
     refine wa J 7 (Z2 (σ:=Int × ByteArray × ByteArray × Int) (fun st=>(Zk8 l1 s1 t1 u1 D.Zt q0.Zw.Zq q0.Zw.Zv q0.Zw.Field q0.Zw.N q0.Op q0.Zx.Zq q0.Zx.Zv q0.Zx.Field q0.Zx.N D0 G0 q1 st.1 st.2.1 st.2.2.1 st.2.2.2 c.all' c.p' D k1 m1 o1 p1 [(0,.B 0 0),(3,.B 14 0),(5,.B 21 0),(7,.B 23 0),(10,.I v1),(11,.I x1),(12,.B 34 0),(17,.S 3),(18,.I (c.p'.ZE.length:Int)),(19,.I C),(24,.S 13),(25,.I (D.Zz.length:Int)),(26,.I p0),(58,.a [.I q0.Zw.Zq,.s q0.Zw.Zv,.s q0.Zw.Field,.I q0.Zw.N,.I q0.Zx.Zq,.s q0.Zx.Zv,.s q0.Zx.Field,.I q0.Zx.N]),(59,.I x1)])) (fun st=>Hf N D D0 G0 k1 l1 m1 o1 p1 q1 s1 t1 u1 v1 x1 (Ty N D p0 (VA N C (WG N c n132) D n154) q0 D0 G0 n157) st.1 st.2.1 st.2.2.1 st.2.2.2=some r) ?_ (fun j1023=>?_))
     ·rintro ⟨y1,z1,A1,B1⟩ h
      unfold Hf at h
      refine wa J 7 (Z2 (σ:=Bool) (fun st=>(Zk8 l1 s1 t1 u1 D.Zt q0.Zw.Zq q0.Zw.Zv q0.Zw.Field q0.Zw.N q0.Op q0.Zx.Zq q0.Zx.Zv q0.Zx.Field q0.Zx.N D0 G0 q1 y1 z1 A1 B1 c.all' c.p' D k1 m1 o1 p1 [(0,.B 0 0),(3,.B 14 0),(5,.B 21 0),(7,.B 23 0),(10,.I v1),(11,.I x1),(12,.B 34 0),(17,.S 3),(18,.I (c.p'.ZE.length:Int)),(19,.I C),(24,.S 13),(25,.I (D.Zz.length:Int)),(26,.I p0),(58,.a [.I q0.Zw.Zq,.s q0.Zw.Zv,.s q0.Zw.Field,.I q0.Zw.N,.I q0.Zx.Zq,.s q0.Zx.Zv,.s q0.Zx.Field,.I q0.Zx.N]),(59,.I x1),(71,.O st)])) (fun st=>He N D D0 G0 k1 l1 m1 o1 p1 q1 s1 t1 u1 v1 x1 (Ty N D p0 (VA N C (WG N c n132) D n154) q0 D0 G0 n157) y1 st=some r) ?_ (fun j1024=>?_))
      ·intro C1 h
       unfold He at h
       refine Z2 (σ:=(List ZL) × ByteArray × (List ByteArray) × (List ZS) × (List ZJ) × (List ByteArray) × ByteArray × ByteArray × Int) (fun st=>⟨[(0,.B 0 0),(3,.B 14 0),(5,.B 21 0),(7,.B 23 0),(10,.I v1),(11,.I x1),(12,.B 34 0),(17,.S 3),(18,.I (c.p'.ZE.length:Int)),(19,.I C),(24,.S 13),(25,.I (D.Zz.length:Int)),(26,.I p0),(58,.a [.I q0.Zw.Zq,.s q0.Zw.Zv,.s q0.Zw.Field,.I q0.Zw.N,.I q0.Zx.Zq,.s q0.Zx.Zv,.s q0.Zx.Field,.I q0.Zx.N]),(59,.I x1)],[(0,.box [.sl 35,.s st.2.1,.sl 36,.sl 37,.sl 38,.sl 39,.s st.2.2.2.2.2.2.1,.s st.2.2.2.2.2.2.2.1,.I st.2.2.2.2.2.2.2.2] 86),(14,.box [.s D.Zt,.sl 12,.sl 13] 32),(21,.box [.I q0.Zw.Zq,.s q0.Zw.Zv,.s q0.Zw.Field,.I q0.Zw.N,.s q0.Op,.I q0.Zx.Zq,.s q0.Zx.Zv,.s q0.Zx.Field,.I q0.Zx.N] 78),(23,.box [.I D0,.I G0] 132),(34,.box [.I y1,.s z1,.s A1,.I B1] 76),(39,.own rS st.2.2.2.2.2.1 false)],((1,.sl ZV c.all')::Yz 2 3 4 c.p' (Xu 12 13 D [(35,.sl ZV st.1),(36,.sl rS st.2.2.1),(37,.sl YE st.2.2.2.1),(38,.sl ZR st.2.2.2.2.1)])),40⟩) (fun st=>Hd D0 G0 v1 x1 (Ty N D p0 (VA N C (WG N c n132) D n154) q0 D0 G0 n157) y1 st.1 st.2.1 st.2.2.1 st.2.2.2.1 st.2.2.2.2.1 st.2.2.2.2.2.1 st.2.2.2.2.2.2.1 st.2.2.2.2.2.2.2.1 st.2.2.2.2.2.2.2.2=some r) ?_ (fun j1025=>?_)
       ·rintro ⟨D1,G1,H1,I1,L1,M1,O1,R1,S1⟩ h
        unfold Hd at h
        refine ZQ J 6 h (fun h=>wa J 13 (ZK [(29,.sl 35),(30,.sl 36),(31,.sl 37),(32,.sl 38),(33,.sl 39)] (ih1017 (D1,G1,H1,I1,L1,M1,O1,R1,S1,v1,(ZM (x1+1))) h))) fun h=>?_
        obtain ⟨K,h⟩|⟨K,h⟩:=oc h
        ·refine wa J 1 (UB 0 (by exact eq_of_beq K) ?_)
         exact wB J 4 h (fun h=>wa J 11 (ZK [(29,.sl 35),(30,.sl 36),(31,.sl 37),(32,.sl 38),(33,.sl 39)] (ih1017 (D1,G1,H1,I1,L1,M1,O1,R1,S1,(ZM (v1+1)),(ZM (x1+1))) h))) fun h=>wa J 7 (ZK [(29,.sl 35),(30,.sl 36),(31,.sl 37),(32,.sl 38),(33,.sl 39)] (ih1017 (D1,G1,H1,I1,L1,M1,O1,R1,S1,v1,(ZM (x1+1))) h))
        obtain ⟨K,h⟩|⟨K,h⟩:=HY h
        ·cases h
        refine wa J 1 (UB 1 (by exact eq_of_beq K) ?_)
        exact wB J 4 h (fun h=>wa J 11 (ZK [(29,.sl 35),(30,.sl 36),(31,.sl 37),(32,.sl 38),(33,.sl 39)] (ih1017 (D1,G1,H1,I1,L1,M1,O1,R1,S1,(ZM (v1+1)),(ZM (x1+1))) h))) fun h=>wa J 7 (ZK [(29,.sl 35),(30,.sl 36),(31,.sl 37),(32,.sl 38),(33,.sl 39)] (ih1017 (D1,G1,H1,I1,L1,M1,O1,R1,S1,v1,(ZM (x1+1))) h))
       refine YZ h (fun h=>wa J 2 (ZK [(35,.sl 29),(36,.sl 30),(37,.sl 31),(38,.sl 32),(39,.sl 33)] (j1025 (k1,l1,m1,o1,p1,q1,s1,t1,u1) h))) fun h=>?_
       exact wO J 5 h fun U1 V1 h=>ZO (XR N (⟨k1,(⟨l1,m1,o1,p1⟩:ZL),q1,(⟨s1,t1,u1⟩:T6)⟩:T7) D.Zt 11 _ V1) [] [(0,.bp 0 0),(1,.sl 29),(2,.sl 30),(3,.sl 31),(4,.sl 32),(5,.sl 33)] (wa J 1 (ZK [] (j1025 (U1.all',U1.p'.Zt,U1.p'.ZD,U1.p'.ZE,U1.p'.ZF,U1.calls',U1.out'.ZH,U1.out'.Zt,U1.out'.ZI) h)))
      refine YZ h (fun h=>wa J 6 (ZK [] (j1024 false h))) fun h=>?_
      obtain ⟨K,h⟩|⟨K,h⟩:=oc h
      ·exact wa J 1 (UB 0 (by exact eq_of_beq K) (wa J 4 (ZK [] (j1024 (D0 != 2) h))))
      obtain ⟨K,h⟩|⟨K,h⟩:=oc h
      ·exact wa J 1 (UB 1 (by exact eq_of_beq K) (wa J 4 (ZK [] (j1024 (G0 != 2) h))))
      cases h
     obtain ⟨K,h⟩|⟨K,h⟩:=oc h
     ·exact BM 0 (by exact eq_of_beq K) (wa J 4 (ZK [] (j1023 (q0.Zw.Zq,q0.Zw.Zv,q0.Zw.Field,q0.Zw.N) h)))
     obtain ⟨K,h⟩|⟨K,h⟩:=oc h
     ·exact BM 1 (by exact eq_of_beq K) (wa J 4 (ZK [] (j1023 (q0.Zx.Zq,q0.Zx.Zv,q0.Zx.Field,q0.Zx.N) h)))
     cases h
    exact ZK [(29,.sl 24),(30,.sl 25),(31,.sl 26),(32,.sl 27),(33,.sl 28)] (ih N (t0,u0,v0,x0,y0,z0,A0,B0,C0,0,0) h)
   refine wa J 1 (Yc (σ:=(List ZL) × ByteArray × (List ByteArray) × (List ZS) × (List ZJ) × (List ByteArray) × ByteArray × ByteArray × Int × Int × Int × Int) (fun st=>(Zk7 st.2.1 st.2.2.2.2.2.2.1 st.2.2.2.2.2.2.2.1 st.2.2.2.2.2.2.2.2.1 D.Zt q0.Zw.Zq q0.Zw.Zv q0.Zw.Field q0.Zw.N q0.Op q0.Zx.Zq q0.Zx.Zv q0.Zx.Field q0.Zx.N st.2.2.2.2.2.2.2.2.2.1 st.2.2.2.2.2.2.2.2.2.2.1 st.2.2.2.2.2.1 c.all' c.p' D st.1 st.2.2.1 st.2.2.2.1 st.2.2.2.2.1 [(0,.B 0 0),(3,.B 14 0),(5,.B 21 0),(6,.B 22 0),(7,.B 23 0),(17,.S 3),(18,.I (c.p'.ZE.length:Int)),(19,.I C),(24,.S 13),(25,.I (D.Zz.length:Int)),(26,.I p0),(35,.a [.I q0.Zw.Zq,.s q0.Zw.Zv,.s q0.Zw.Field,.I q0.Zw.N,.I q0.Zx.Zq,.s q0.Zx.Zv,.s q0.Zx.Field,.I q0.Zx.N]),(36,.I st.2.2.2.2.2.2.2.2.2.2.2)])) (fun n st=>Si N D p0 (VA N C (WG N c n132) D n154) q0 n st.1 st.2.1 st.2.2.1 st.2.2.2.1 st.2.2.2.2.1 st.2.2.2.2.2.1 st.2.2.2.2.2.2.1 st.2.2.2.2.2.2.2.1 st.2.2.2.2.2.2.2.2.1 st.2.2.2.2.2.2.2.2.2.1 st.2.2.2.2.2.2.2.2.2.2.1 st.2.2.2.2.2.2.2.2.2.2.2) (r:=r) (fun _=>rfl) ?_ (fun ih=>?_))
   ·intro n158 ih1026
    rintro ⟨X1,Y1,Z1,a2,b2,c2,e2,g2,i2,j2,k2,l2⟩ h
    unfold Si at h
    refine ZQ J 5 h (fun h=>wa J 2 (ZK [] (j1002 (X1,Y1,Z1,a2,b2,c2,e2,g2,i2,j2,k2) h))) fun h=>?_
    refine wa J 7 (Z2 (σ:=Int × ByteArray × ByteArray × Int) (fun st=>⟨[(0,.B 0 0),(3,.B 14 0),(5,.B 21 0),(6,.B 22 0),(7,.B 23 0),(8,.I l2),(9,.B 29 0),(17,.S 3),(18,.I (c.p'.ZE.length:Int)),(19,.I C),(24,.S 13),(25,.I (D.Zz.length:Int)),(26,.I p0),(35,.a [.I q0.Zw.Zq,.s q0.Zw.Zv,.s q0.Zw.Field,.I q0.Zw.N,.I q0.Zx.Zq,.s q0.Zx.Zv,.s q0.Zx.Field,.I q0.Zx.N]),(36,.I l2)],[(0,.box [.sl 24,.s Y1,.sl 25,.sl 26,.sl 27,.sl 28,.s e2,.s g2,.I i2] 86),(14,.box [.s D.Zt,.sl 12,.sl 13] 32),(21,.box [.I q0.Zw.Zq,.s q0.Zw.Zv,.s q0.Zw.Field,.I q0.Zw.N,.s q0.Op,.I q0.Zx.Zq,.s q0.Zx.Zv,.s q0.Zx.Field,.I q0.Zx.N] 78),(22,.box [.I q0.Zw.Zq,.s q0.Zw.Zv,.s q0.Zw.Field,.I q0.Zw.N,.I q0.Zx.Zq,.s q0.Zx.Zv,.s q0.Zx.Field,.I q0.Zx.N] 131),(23,.box [.I j2,.I k2] 132),(28,.own rS c2 false),(29,.box [.I st.1,.s st.2.1,.s st.2.2.1,.I st.2.2.2] 76)],((1,.sl ZV c.all')::Yz 2 3 4 c.p' (Xu 12 13 D [(24,.sl ZV X1),(25,.sl rS Z1),(26,.sl YE a2),(27,.sl ZR b2)])),30⟩) (fun st=>Hc N D X1 Y1 Z1 a2 b2 c2 e2 g2 i2 j2 k2 l2 (Si N D p0 (VA N C (WG N c n132) D n154) q0 n158) st.1 st.2.1 st.2.2.1 st.2.2.2=some r) ?_ (fun j1029=>?_))
    ·rintro ⟨m2,o2,p2,q2⟩ h
     unfold Hc at h
     refine wB J 7 h (fun h=>wa J 6 (ZK [] (ih1026 (X1,Y1,Z1,a2,b2,c2,e2,g2,i2,j2,k2,(ZM (l2+1))) h))) fun h=>?_
     refine wO J 8 h fun s2 t2 h=>Wo (Zta N (⟨X1,(⟨Y1,Z1,a2,b2⟩:ZL),c2,(⟨e2,g2,i2⟩:T6)⟩:T7) D (⟨m2,o2,p2,q2⟩:Ys) _ t2) [] [(0,.bp 0 0),(1,.sl 24),(2,.sl 25),(3,.sl 26),(4,.sl 27),(5,.sl 28),(6,.sl 12),(7,.sl 13)] [28] (.inr ⟨rfl,trivial⟩) ?_
     obtain ⟨K,h⟩|⟨K,h⟩:=oc h
     ·refine UB 0 (by exact eq_of_beq K) ?_
      obtain ⟨K,h⟩|⟨K,h⟩:=oc h
      ·refine wa J 5 (UB 0 (by exact eq_of_beq K) ?_)
       refine ZQ J 3 h (fun h=>wa J 7 (ZK [] (ih1026 (X1,Y1,Z1,a2,b2,c2,e2,g2,i2,s2,k2,(ZM (l2+1))) h))) fun h=>?_
       exact wO J 5 h fun u2 v2 h=>ZO (XR N (⟨X1,(⟨Y1,Z1,a2,b2⟩:ZL),c2,(⟨e2,g2,i2⟩:T6)⟩:T7) D.Zt 10 _ v2) [] [(0,.bp 0 0),(1,.sl 24),(2,.sl 25),(3,.sl 26),(4,.sl 27),(5,.sl 28)] (wa J 6 (ZK [(24,.sl 30),(25,.sl 31),(26,.sl 32),(27,.sl 33),(28,.sl 34)] (ih1026 (u2.all',u2.p'.Zt,u2.p'.ZD,u2.p'.ZE,u2.p'.ZF,u2.calls',u2.out'.ZH,u2.out'.Zt,u2.out'.ZI,s2,k2,(ZM (l2+1))) h)))
      obtain ⟨K,h⟩|⟨K,h⟩:=HY h
      ·cases h
      refine wa J 5 (UB 1 (by exact eq_of_beq K) ?_)
      refine ZQ J 3 h (fun h=>wa J 7 (ZK [] (ih1026 (X1,Y1,Z1,a2,b2,c2,e2,g2,i2,s2,k2,(ZM (l2+1))) h))) fun h=>?_
      exact wO J 5 h fun x2 y2 h=>ZO (XR N (⟨X1,(⟨Y1,Z1,a2,b2⟩:ZL),c2,(⟨e2,g2,i2⟩:T6)⟩:T7) D.Zt 10 _ y2) [] [(0,.bp 0 0),(1,.sl 24),(2,.sl 25),(3,.sl 26),(4,.sl 27),(5,.sl 28)] (wa J 6 (ZK [(24,.sl 30),(25,.sl 31),(26,.sl 32),(27,.sl 33),(28,.sl 34)] (ih1026 (x2.all',x2.p'.Zt,x2.p'.ZD,x2.p'.ZE,x2.p'.ZF,x2.calls',x2.out'.ZH,x2.out'.Zt,x2.out'.ZI,s2,k2,(ZM (l2+1))) h)))
     obtain ⟨K,h⟩|⟨K,h⟩:=HY h
     ·cases h
     refine UB 1 (by exact eq_of_beq K) ?_
     obtain ⟨K,h⟩|⟨K,h⟩:=oc h
     ·refine wa J 5 (UB 0 (by exact eq_of_beq K) ?_)
      refine ZQ J 3 h (fun h=>wa J 7 (ZK [] (ih1026 (X1,Y1,Z1,a2,b2,c2,e2,g2,i2,j2,s2,(ZM (l2+1))) h))) fun h=>?_
      exact wO J 5 h fun z2 A2 h=>ZO (XR N (⟨X1,(⟨Y1,Z1,a2,b2⟩:ZL),c2,(⟨e2,g2,i2⟩:T6)⟩:T7) D.Zt 10 _ A2) [] [(0,.bp 0 0),(1,.sl 24),(2,.sl 25),(3,.sl 26),(4,.sl 27),(5,.sl 28)] (wa J 6 (ZK [(24,.sl 30),(25,.sl 31),(26,.sl 32),(27,.sl 33),(28,.sl 34)] (ih1026 (z2.all',z2.p'.Zt,z2.p'.ZD,z2.p'.ZE,z2.p'.ZF,z2.calls',z2.out'.ZH,z2.out'.Zt,z2.out'.ZI,j2,s2,(ZM (l2+1))) h)))
     obtain ⟨K,h⟩|⟨K,h⟩:=HY h
     ·cases h
     refine wa J 5 (UB 1 (by exact eq_of_beq K) ?_)
     refine ZQ J 3 h (fun h=>wa J 7 (ZK [] (ih1026 (X1,Y1,Z1,a2,b2,c2,e2,g2,i2,j2,s2,(ZM (l2+1))) h))) fun h=>?_
     exact wO J 5 h fun B2 C2 h=>ZO (XR N (⟨X1,(⟨Y1,Z1,a2,b2⟩:ZL),c2,(⟨e2,g2,i2⟩:T6)⟩:T7) D.Zt 10 _ C2) [] [(0,.bp 0 0),(1,.sl 24),(2,.sl 25),(3,.sl 26),(4,.sl 27),(5,.sl 28)] (wa J 6 (ZK [(24,.sl 30),(25,.sl 31),(26,.sl 32),(27,.sl 33),(28,.sl 34)] (ih1026 (B2.all',B2.p'.Zt,B2.p'.ZD,B2.p'.ZE,B2.p'.ZF,B2.calls',B2.out'.ZH,B2.out'.Zt,B2.out'.ZI,j2,s2,(ZM (l2+1))) h)))
    obtain ⟨K,h⟩|⟨K,h⟩:=oc h
    ·exact BM 0 (by exact eq_of_beq K) (wa J 4 (ZK [] (j1029 (q0.Zw.Zq,q0.Zw.Zv,q0.Zw.Field,q0.Zw.N) h)))
    obtain ⟨K,h⟩|⟨K,h⟩:=oc h
    ·exact BM 1 (by exact eq_of_beq K) (wa J 4 (ZK [] (j1029 (q0.Zx.Zq,q0.Zx.Zv,q0.Zx.Field,q0.Zx.N) h)))
    cases h
   exact ZK [(24,.sl 15),(25,.sl 16),(26,.sl 17),(27,.sl 18),(28,.sl 19)] (ih N (c0,e0,g0,i0,j0,k0,l0,m0,o0,0,0,0) h)
  exact ZK [(15,.sl 6),(16,.sl 7),(17,.sl 8),(18,.sl 9),(19,.sl 10)] (ih N (o,p,q,u,v,x,y,z,A,0) h)
 exact ZK [(6,.sl 1),(7,.sl 2),(8,.sl 3),(9,.sl 4),(10,.sl 5)] (ih N (c.all',c.p'.Zt,c.p'.ZD,c.p'.ZE,c.p'.ZF,c.calls',c.out'.ZH,c.out'.Zt,c.out'.ZI,0) h)
theorem Ztj (N:Nat) (c:ZL) (d:ZL) (r:Bool) (h:ZcH N c d=some r) :
 Fn Tryz.prog 68 ⟨7,[.a [.s c.Zt,.sl 0,.sl 1,.sl 2],.B 3 0],(Yz 0 1 2 c (Yz 4 5 6 d [])),[(3,.box [.s d.Zt,.sl 4,.sl 5,.sl 6] 35)],7,.O r,[],[(3,.box [.s d.Zt,.sl 4,.sl 5,.sl 6] 35)]⟩:=by
 refine Z5 func68 rfl (fun E F w=>?_)
 unfold ZcH at h
 exact oi h▸wr J 14 func68 []
theorem Zs3 (N:Nat) (d:(List ZL)) (e:ZL) (r:Int) (h:DN N d e=some r) :
 Fn Tryz.prog 53 ⟨5,[.S 0,.c (.cl 68 [] [1])],((0,.sl ZV d)::Yz 2 3 4 e []),[(1,.box [.s e.Zt,.sl 2,.sl 3,.sl 4] 35)],5,.I r,[],[(1,.box [.s e.Zt,.sl 2,.sl 3,.sl 4] 35)]⟩:=by
 refine Z5 func53 rfl (fun E F w=>?_)
 unfold DN at h
 refine wa J 11 (Z2 (σ:=Unit) (fun st=>(Zc4 e.Zt d e [])) (fun st=>Zcy=some r) ?_ (fun j1=>?_))
 ·intro _ h
  unfold Zcy at h
  exact oi h▸wr J 4 func53 []
 refine wa J 1 (Yc (σ:=Int) (fun st=>(Zc4 e.Zt d e [(0,.S 0),(1,.c (.cl 68 [] [1])),(7,.I (d.length:Int)),(8,.I st)])) (fun n st=>Me N d e n st) (r:=r) (fun _=>rfl) ?_ (fun ih=>?_))
 ·intro n2 ih3
  intro f h
  unfold Me at h
  refine ZQ J 5 h (fun h=>wa J 2 (ZK [] (j1 () h))) fun h=>?_
  refine wO J 14 h fun g i h=>Yb J X2 i ?_
  refine wO J 1 h fun j k h=>ZO (Ztj N g e _ k) [] [(0,.sl 6),(1,.sl 7),(2,.sl 8),(3,.bp 1 0),(4,.sl 2),(5,.sl 3),(6,.sl 4)] ?_
  exact wB J 1 h (fun h=>oi h▸wr J 6 func53 []) fun h=>wa J 7 (ZK [] (ih3 (ZM (f+1)) h))
 exact ZK [] (ih N 0 h)
theorem Ztk (N:Nat) (rc:(List ZJ)->Option (List ByteArray)) (rcT:(∀ (c:(List ZJ)) (r:(List ByteArray)),rc c=some r->Fn Tryz.prog 69 ⟨1,[.S 0],[(0,.sl ZR c)],[],2,.S 1,[],[(1,.own rS r true)]⟩)) (c:(List ZJ)) (r:(List ByteArray)) (h:DY N rc c=some r) :
 Fn Tryz.prog 69 ⟨1,[.S 0],[(0,.sl ZR c)],[],2,.S 1,[],[(1,.own rS r true)]⟩:=by
 refine Z5 func69 rfl (fun E F w=>?_)
 unfold DY at h
 refine wa J 15 (Z2 (σ:=(List ByteArray)) (fun st=>⟨[(3,.S 1)],[(1,.own rS st true)],[(0,.sl ZR c)],2⟩) (fun st=>ZcI st=some r) ?_ (fun j1=>?_))
 ·intro d h
  unfold ZcI at h
  exact oi h▸wr J 5 func69 [(1,.sl 1)]
 refine wa J 1 (Yc (σ:=(List ByteArray) × Int) (fun st=>⟨[(3,.S 1),(8,.S 0),(9,.I (c.length:Int)),(10,.I st.2)],[(1,.own rS st.1 true)],[(0,.sl ZR c)],2⟩) (fun n st=>TC N rc c n st.1 st.2) (r:=r) (fun _=>rfl) ?_ (fun ih=>?_))
 ·intro n12 ih15
  rintro ⟨e,f⟩ h
  unfold TC at h
  refine ZQ J 5 h (fun h=>wa J 2 (ZK [] (j1 e h))) fun h=>?_
  refine wO J 6 h fun g i h=>Yb J Va i (wa J 11 (Z2 (σ:=(List ByteArray)) (fun st=>⟨[(3,.S 6),(5,.B 5 0),(8,.S 0),(9,.I (c.length:Int)),(10,.I f)],[(5,.box [.I g.Zq,.s g.ZA,.sl 3,.s g.Zt,.s g.As,.I g.ZB,.sl 4] 27),(6,.own rS st true)],[(0,.sl ZR c),(3,.sl rS g.To),(4,.sl (Yk ZR) g.ZC)],7⟩) (fun st=>Ht N rc f (TC N rc c n12) g st=some r) ?_ (fun j24=>?_)))
  ·intro j h
   unfold Ht at h
   refine wa J 7 (Z2 (σ:=(List ByteArray)) (fun st=>⟨[(3,.S 7),(8,.S 0),(9,.I (c.length:Int)),(10,.I f)],[(7,.own rS st true)],[(0,.sl ZR c)],8⟩) (fun st=>ZcJ f (TC N rc c n12) st=some r) ?_ (fun j25=>?_))
   ·intro k h
    unfold ZcJ at h
    exact wa J 5 (ZK [(1,.sl 7)] (ih15 (k,(ZM (f+1))) h))
   refine wa J 1 (Yc (σ:=(List ByteArray) × Int) (fun st=>⟨[(3,.S 7),(8,.S 0),(9,.I (c.length:Int)),(10,.I f),(23,.S 4),(24,.I (g.ZC.length:Int)),(25,.I st.2)],[(7,.own rS st.1 true)],[(0,.sl ZR c),(4,.sl (Yk ZR) g.ZC)],8⟩) (fun n st=>Mn rc f (TC N rc c n12) g n st.1 st.2) (r:=r) (fun _=>rfl) ?_ (fun ih=>?_))
   ·intro n14 ih27
    rintro ⟨l,m⟩ h
    unfold Mn at h
    refine ZQ J 5 h (fun h=>wa J 2 (ZK [] (j25 l h))) fun h=>?_
    refine wO J 6 h fun o p h=>Yb J (YQ ZR) p ?_
    refine wO J 6 h fun q t h=>ZO (rcT o _ t) [] [(0,.sl 9)] ?_
    have ⟨u,v,h⟩:=ob h
    exact YK J rS v (wa J 7 (ZK [(7,.sl 11)] (ih27 (u,(ZM (m+1))) h)))
   exact ZK [(7,.sl 6)] (ih N (j,0) h)
  refine YZ h (fun h=>wa J 2 (ZK [(6,.sl 1)] (j24 e h))) fun h=>wa J 5 (YB J [] oS ([g.Zt]:List ByteArray) ?_)
  have ⟨x,y,h⟩:=ob h
  exact YK J rS y (wa J 2 (ZK [(6,.sl 7)] (j24 x h)))
 exact ZK [(1,.nil)] (ih N (([]:List ByteArray),0) h)
theorem Ztm:∀ (N:Nat) (c:(List ZJ)) (r:(List ByteArray)) (h:ZcK N c=some r),Fn Tryz.prog 69 ⟨1,[.S 0],[(0,.sl ZR c)],[],2,.S 1,[],[(1,.own rS r true)]⟩:=by
 intro N
 induction N with
 | zero=>intros;rename_i h;cases h
 | succ N ih=>intro c r h;exact Ztk N (ZcK N) ih c r h
theorem Ztl (N:Nat) (c:(List ZJ)) (r:(List ByteArray)) (h:Mm N c=some r):Fn Tryz.prog 69 ⟨1,[.S 0],[(0,.sl ZR c)],[],2,.S 1,[],[(1,.own rS r true)]⟩:=Ztm N c r h
theorem Ztn (N:Nat) (c:List ByteArray) (r:List ByteArray) (h:z70 N c=some r):Fn Tryz.prog 70 ⟨1,[.S 0],[],[(0,.own rS c false)],1,.t [],[],[(0,.own rS r false)]⟩:=by
 unfold z70 at h
 cases hb:(decide ((c.length:Int)<=4611686018427387903)) with
 | false=>rw [hb] at h;cases h
 | true =>
  rw [hb] at h
  simp only [cond_true,Option.some.injEq] at h
  subst h
  simp only [decide_eq_true_eq] at hb
  exact Zqy c (by omega)
theorem Zto (N:Nat) (c:List ByteArray) (r:List ByteArray) (h:z71 N c=some r):Fn Tryz.prog 71 ⟨1,[.S 0],[],[(0,.own rS c false)],2,.S 1,[],[(1,.own rS r false),(0,.gone)]⟩:=by
 unfold z71 at h
 cases hb:(decide ((c.length:Int)<=4611686018427387903)) with
 | false=>rw [hb] at h;cases h
 | true =>
  rw [hb] at h
  simp only [cond_true,Option.some.injEq] at h
  subst h
  simp only [decide_eq_true_eq] at hb
  exact Zmo c (by omega)
theorem Ztq (N:Nat) (c:ZL) (d:ByteArray) (r:Bool) (h:ZcN N c d=some r) :
 Fn Tryz.prog 74 ⟨4,[.a [.s c.Zt,.sl 0,.sl 1,.sl 2],.B 3 0],(Yz 0 1 2 c []),[(3,.box [.s d] 9)],4,.O r,[],[(3,.box [.s d] 9)]⟩:=by
 refine Z5 func74 rfl (fun E F w=>?_)
 unfold ZcN at h
 exact oi h▸wr J 13 func74 []
theorem Zs4 (N:Nat) (d:(List ZL)) (e:ByteArray) (r:Int) (h:DO N d e=some r) :
 Fn Tryz.prog 53 ⟨2,[.S 0,.c (.cl 74 [] [1])],[(0,.sl ZV d)],[(1,.box [.s e] 9)],2,.I r,[],[(1,.box [.s e] 9)]⟩:=by
 refine Z5 func53 rfl (fun E F w=>?_)
 unfold DO at h
 refine wa J 11 (Z2 (σ:=Unit) (fun st=>⟨[],[(1,.box [.s e] 9)],[(0,.sl ZV d)],2⟩) (fun st=>Zcz=some r) ?_ (fun j1=>?_))
 ·intro _ h
  unfold Zcz at h
  exact oi h▸wr J 4 func53 []
 refine wa J 1 (Yc (σ:=Int) (fun st=>⟨[(0,.S 0),(1,.c (.cl 74 [] [1])),(7,.I (d.length:Int)),(8,.I st)],[(1,.box [.s e] 9)],[(0,.sl ZV d)],2⟩) (fun n st=>Mf N d e n st) (r:=r) (fun _=>rfl) ?_ (fun ih=>?_))
 ·intro n2 ih3
  intro f h
  unfold Mf at h
  refine ZQ J 5 h (fun h=>wa J 2 (ZK [] (j1 () h))) fun h=>?_
  refine wO J 14 h fun g i h=>Yb J X2 i ?_
  refine wO J 1 h fun j k h=>ZO (Ztq N g e _ k) [] [(0,.sl 3),(1,.sl 4),(2,.sl 5),(3,.bp 1 0)] ?_
  exact wB J 1 h (fun h=>oi h▸wr J 6 func53 []) fun h=>wa J 7 (ZK [] (ih3 (ZM (f+1)) h))
 exact ZK [] (ih N 0 h)
theorem Zso (N:Nat) (d:(List ZL)) (e:ByteArray) (r:Bool) (h:Da N d e=some r) :
 Fn Tryz.prog 22 ⟨2,[.S 0,.c (.cl 74 [] [1])],[(0,.sl ZV d)],[(1,.box [.s e] 9)],2,.O r,[],[(1,.box [.s e] 9)]⟩:=by
 refine Z5 func22 rfl (fun E F w=>?_)
 unfold Da at h
 refine wO J 8 h fun f g h=>ZO (Zs4 N d e _ g) [] [(0,.sl 0),(1,.bp 1 0)] ?_
 exact oi h▸wr J 3 func22 []
theorem ZkM (N:Nat) (d:ByteArray) (e:T7) (r:Bool) (h:Mo N d e=some r) :
 Fn Tryz.prog 73 ⟨7,[.c (.s d),.B 6 0],(Q8 1 2 3 4 5 e []),[(0,.box (Xe 1 2 3 4 5 e) 86),(6,.box [.bp 0 0] 84)],7,.O r,[],[(0,.box (Xe 1 2 3 4 5 e) 86),(6,.box [.bp 0 0] 84)]⟩:=by
 refine Z5 func73 rfl (fun E F w=>?_)
 unfold Mo at h
 refine wO J 12 h fun f g h=>ZO (Zso N e.all' d _ g) [] [(0,.sl 1),(1,.bp 7 0)] ?_
 exact oi h▸wr J 3 func73 []
theorem ZrA (N:Nat) (d:(List ByteArray)) (e:T7) (r:Int) (h:GP N d e=some r) :
 Fn Tryz.prog 131 ⟨8,[.S 0,.c (.cl 73 [] [7])],((0,.sl rS d)::Q8 2 3 4 5 6 e []),[(1,.box (Xe 2 3 4 5 6 e) 86),(7,.box [.bp 1 0] 84)],8,.I r,[],[(1,.box (Xe 2 3 4 5 6 e) 86),(7,.box [.bp 1 0] 84)]⟩:=by
 refine Z5 func131 rfl (fun E F w=>?_)
 unfold GP at h
 refine wa J 11 (Z2 (σ:=Unit) (fun st=>(Zk9 e d [])) (fun st=>Zbf=some r) ?_ (fun j1=>?_))
 ·intro _ h
  unfold Zbf at h
  exact oi h▸wr J 4 func131 []
 refine wa J 1 (Yc (σ:=Int) (fun st=>(Zk9 e d [(0,.S 0),(1,.c (.cl 73 [] [7])),(7,.I (d.length:Int)),(8,.I st)])) (fun n st=>Px N d e n st) (r:=r) (fun _=>rfl) ?_ (fun ih=>?_))
 ·intro n2 ih3
  intro f h
  unfold Px at h
  refine ZQ J 5 h (fun h=>wa J 2 (ZK [] (j1 () h))) fun h=>?_
  refine wO J 14 h fun g i h=>Yb J oS i ?_
  refine wO J 1 h fun j k h=>ZO (ZkM N g e _ k) [] [(0,.bp 1 0),(1,.sl 2),(2,.sl 3),(3,.sl 4),(4,.sl 5),(5,.sl 6),(6,.bp 7 0)] ?_
  exact wB J 1 h (fun h=>oi h▸wr J 6 func131 []) fun h=>wa J 7 (ZK [] (ih3 (ZM (f+1)) h))
 exact ZK [] (ih N 0 h)
theorem Ztp (N:Nat) (d:(List ByteArray)) (e:T7) (r:(List ByteArray)) (h:DZ N d e=some r) :
 Fn Tryz.prog 72 ⟨8,[.S 0,.c (.cl 73 [] [7])],(Q8 2 3 4 5 6 e []),[(0,.own rS d false),(1,.box (Xe 2 3 4 5 6 e) 86),(7,.box [.bp 1 0] 84)],9,.S 8,[],[(8,.own rS r false),(0,.gone),(1,.box (Xe 2 3 4 5 6 e) 86),(7,.box [.bp 1 0] 84)]⟩:=by
 refine Z5 func72 rfl (fun E F w=>?_)
 unfold DZ at h
 refine wO J 8 h fun f g h=>Wo (ZrA N d e _ g) [] [(0,.sl 0),(1,.bp 1 0),(2,.sl 2),(3,.sl 3),(4,.sl 4),(5,.sl 5),(6,.sl 6),(7,.bp 7 0)] [0] (.inr ⟨rfl,trivial⟩) ?_
 refine wB J 8 h (fun h=>oi h▸wr J 6 func72 [(8,.sl 0)]) fun h=>wa J 9 (Z2 (σ:=(List ByteArray) × Int) (fun st=>(Zla st.1 e [(0,.S 0),(5,.I st.2)])) (fun st=>ZcM st.1 st.2=some r) ?_ (fun j1=>?_))
 ·rintro ⟨i,j⟩ h
  unfold ZcM at h
  refine wO J 4 h fun k l h=>eVw J rS l ?_
  have ⟨m,o,h⟩:=ob h
  refine eCe J o ?_
  refine wO J 5 h fun p q h=>eVw J rS q (wa J 2 (eSl rS 9 q ?_))
  cases h
  exact Y7 J func72 [(8,.sl 9)]
 refine wa J 1 (Yc (σ:=(List ByteArray) × Int × Int) (fun st=>(Zla st.1 e [(0,.S 0),(1,.c (.cl 73 [] [7])),(5,.I st.2.1),(6,.I st.2.2)])) (fun n st=>Qx N e n st.1 st.2.1 st.2.2) (r:=r) (fun _=>rfl) ?_ (fun ih=>?_))
 ·intro n2 ih3
  rintro ⟨s,t,u⟩ h
  unfold Qx at h
  refine ZQ J 8 h (fun h=>wa J 2 (ZK [] (j1 (s,t) h))) fun h=>?_
  refine wO J 8 h fun v x h=>Vm J rS x (MI J oS x ?_)
  refine wO J 6 h fun y z h=>ZO (ZkM N v e _ z) [] [(0,.bp 1 0),(1,.sl 2),(2,.sl 3),(3,.sl 4),(4,.sl 5),(5,.sl 6),(6,.bp 7 0)] ?_
  refine ZQ J 2 h (fun h=>wa J 8 (ZK [] (ih3 (s,t,(ZM (u+1))) h))) fun h=>?_
  exact wO J 6 h fun A C h=>Vm J rS C (SB J [] oS v C (wa J 12 (ZK [] (ih3 ((XK s t v),(ZM (t+1)),(ZM (u+1))) h))))
 exact ZK [] (ih N (d,f,(ZM (f+1))) h)
theorem Zsw (N:Nat) (c:T7) (r:T7) (h:Dn N c=some r) :
 Fn Tryz.prog 29 ⟨6,[.B 0 0],((1,.sl ZV c.all')::Yz 2 3 4 c.p' []),[(0,.box (Xe 1 2 3 4 5 c) 86),(5,.own rS c.calls' false)],11,.t [],((6,.sl ZV r.all')::Yz 7 8 9 r.p' []),[(5,.gone),(10,.own rS r.calls' false),(0,.box (Xe 6 7 8 9 10 r) 86)]⟩:=by
 refine Z5 func29 rfl (fun E F w=>?_)
 unfold Dn at h
 refine wa J 11 (YB J [] oS ([c.p'.Zt]:List ByteArray) (wa J 7 (Z2 (σ:=(List ByteArray)) (fun st=>(Zlb c c.calls' st c.all' c.p' [(1,.B 6 0),(2,.S 8)])) (fun st=>Zb9 N c st=some r) ?_ (fun j1=>?_))))
 ·intro d h
  unfold Zb9 at h
  refine ZQ J 6 h (fun h=>oi h▸wr J 2 func29 [(6,.sl 1),(7,.sl 2),(8,.sl 3),(9,.sl 4),(10,.sl 5)]) fun h=>?_
  refine wO J 8 h fun e f h=>ZO (XR N c c.p'.Zt 6 _ f) [] [(0,.bp 0 0),(1,.sl 1),(2,.sl 2),(3,.sl 3),(4,.sl 4),(5,.sl 5)] (Yr ?_)
  cases h
  exact Y7 J func29 [(6,.sl 9),(7,.sl 10),(8,.sl 11),(9,.sl 12),(10,.sl 13)]
 refine wa J 1 (Yc (σ:=(List ByteArray) × Int) (fun st=>(Zlb c c.calls' st.1 c.all' c.p' [(1,.B 6 0),(2,.S 8),(13,.I st.2)])) (fun n st=>Sj N c n st.1 st.2) (r:=r) (fun _=>rfl) ?_ (fun ih=>?_))
 ·intro n12 ih12
  rintro ⟨g,i⟩ h
  unfold Sj at h
  refine ZQ J 5 h (fun h=>wa J 2 (ZK [] (j1 g h))) fun h=>wa J 18 (Z2 (σ:=(List ByteArray)) (fun st=>⟨[(1,.B 6 0),(3,.S 9),(13,.I i)],[(0,.box (Xe 1 2 3 4 5 c) 86),(5,.own rS c.calls' false),(6,.box [.bp 0 0] 84),(9,.own rS st true)],((1,.sl ZV c.all')::Yz 2 3 4 c.p' []),10⟩) (fun st=>Hh N c i (Sj N c n12) st=some r) ?_ (fun j19=>?_))
  ·intro j h
   unfold Hh at h
   refine wO J 3 h fun k l h=>ZO (Ztn N j _ l) [] [(0,.sl 9)] ?_
   refine wO J 4 h fun m o h=>ZO (Zto N k _ o) [] [(0,.sl 9)] ?_
   exact wO J 5 h fun p q h=>Wo (Ztp N m c _ q) [] [(0,.sl 10),(1,.bp 0 0),(2,.sl 1),(3,.sl 2),(4,.sl 3),(5,.sl 4),(6,.sl 5),(7,.bp 6 0)] [5] (.inr ⟨rfl,⟨Zpx,trivial⟩⟩) (wa J 7 (ZK [(8,.sl 11)] (ih12 (p,(ZM (i+1))) h)))
  refine wa J 1 (Yc (σ:=(List ByteArray) × Int) (fun st=>⟨[(1,.B 6 0),(2,.S 8),(3,.S 9),(13,.I i),(18,.S 1),(19,.I (c.all'.length:Int)),(20,.I st.2)],[(0,.box (Xe 1 2 3 4 5 c) 86),(5,.own rS c.calls' false),(6,.box [.bp 0 0] 84),(8,.own rS g true),(9,.own rS st.1 true)],((1,.sl ZV c.all')::Yz 2 3 4 c.p' []),10⟩) (fun n st=>Tz N c g i (Sj N c n12) n st.1 st.2) (r:=r) (fun _=>rfl) ?_ (fun ih=>?_))
  ·intro n14 ih21
   rintro ⟨s,u⟩ h
   unfold Tz at h
   refine ZQ J 5 h (fun h=>wa J 2 (ZK [] (j19 s h))) fun h=>?_
   refine wO J 7 h fun v x h=>Yb J X2 x ?_
   refine wO J 12 h fun y z h=>ZO (Zs3 N c.all' v _ z) [] [(0,.sl 1),(1,.bp 14 0),(2,.sl 11),(3,.sl 12),(4,.sl 13)] ?_
   refine ZQ J 8 h (fun h=>wa J 13 (ZK [] (ih21 (s,(ZM (u+1))) h))) fun h=>?_
   refine wO J 3 h fun A C h=>Wo (Rq N g v.Zt _ C) [] [(0,.sl 8)] [8] (.inr ⟨rfl,trivial⟩) ?_
   refine ZQ J 2 h (fun h=>wa J 7 (ZK [] (ih21 (s,(ZM (u+1))) h))) fun h=>?_
   refine wO J 5 h fun D G h=>ZO (Ztl N v.ZF _ G) [] [(0,.sl 13)] ?_
   have ⟨H,R,h⟩:=ob h
   exact YK J rS R (wa J 7 (ZK [(9,.sl 16)] (ih21 (H,(ZM (u+1))) h)))
  exact ZK [(9,.nil)] (ih N (([]:List ByteArray),0) h)
 exact ZK [(8,.sl 7)] (ih N (([c.p'.Zt]:List ByteArray),0) h)
theorem Zkv (N:Nat) (c:(List ZL)) (r:T6) (h:Qb N c=some r) :
 Fn Tryz.prog 13 ⟨2,[.S 0],[(0,.sl ZV c)],[(1,.abs powT)],2,.a (cC6 r),[],[(1,.abs powT)]⟩:=by
 refine Z5 func13 rfl (fun E F w=>?_)
 unfold Qb at h
 refine wO J 8 h fun d e h=>ZO (Zfr N c _ e) [] [(0,.sl 0),(1,.sl 1)] ?_
 refine wB J 2 h (fun h=>oi h▸wr J 6 func13 []) fun h=>wa J 9 (Z2 (σ:=Unit) (fun st=>(Zlc powT c [(2,.B 2 0)])) (fun st=>Ze8=some r) ?_ (fun j1=>?_))
 ·intro _ h
  unfold Ze8 at h
  exact oi h▸wr J 5 func13 []
 refine wa J 1 (Yc (σ:=Int) (fun st=>(Zlc powT c [(0,.S 0),(2,.B 2 0),(11,.S 0),(12,.I (c.length:Int)),(13,.I st)])) (fun n st=>V2 N c n st) (r:=r) (fun _=>rfl) ?_ (fun ih=>?_))
 ·intro n12 ih15
  intro f h
  unfold V2 at h
  refine ZQ J 5 h (fun h=>wa J 2 (ZK [] (j1 () h))) fun h=>?_
  refine wO J 7 h fun g i h=>Yb J X2 i ?_
  refine wO J 18 h fun j k h=>QU J ZV k ?_
  refine wO J 1 h fun l m h=>ZO (Zsn N j g _ m) [] [(0,.sl 9),(1,.bp 7 0),(2,.sl 4),(3,.sl 5),(4,.sl 6)] (wa J 1 (Z2 (σ:=(List ZL) × ByteArray × (List ByteArray) × (List ZS) × (List ZJ) × (List ByteArray) × ByteArray × ByteArray × Int) (fun st=>⟨[(0,.S 0),(2,.B 2 0),(4,.B 7 0),(5,.B 8 0),(11,.S 0),(12,.I (c.length:Int)),(13,.I f)],[(1,.abs powT),(2,.box [.s (str []),.s (str []),.I 0] 52),(7,.box [.s g.Zt,.sl 4,.sl 5,.sl 6] 35),(8,.box [.sl 10,.s st.2.1,.sl 11,.sl 12,.sl 13,.sl 14,.s st.2.2.2.2.2.2.1,.s st.2.2.2.2.2.2.2.1,.I st.2.2.2.2.2.2.2.2] 86),(14,.own rS st.2.2.2.2.2.1 true)],((0,.sl ZV c)::Yz 4 5 6 g [(10,.sl ZV st.1),(11,.sl rS st.2.2.1),(12,.sl YE st.2.2.2.1),(13,.sl ZR st.2.2.2.2.1)]),15⟩) (fun st=>Qc N f (V2 N c n12) g st.1 st.2.1 st.2.2.1 st.2.2.2.1 st.2.2.2.2.1 st.2.2.2.2.2.1 st.2.2.2.2.2.2.1 st.2.2.2.2.2.2.2.1 st.2.2.2.2.2.2.2.2=some r) ?_ (fun j24=>?_)))
  ·rintro ⟨o,p,q,t,u,v,x,y,z⟩ h
   unfold Qc at h
   refine wa J 8 (Z2 (σ:=(List ZL) × ByteArray × (List ByteArray) × (List ZS) × (List ZJ) × (List ByteArray) × ByteArray × ByteArray × Int) (fun st=>(Zld powT g.Zt st.2.1 st.2.2.2.2.2.2.1 st.2.2.2.2.2.2.2.1 st.2.2.2.2.2.2.2.2 st.2.2.2.2.2.1 c g st.1 st.2.2.1 st.2.2.2.1 st.2.2.2.2.1 [(0,.S 0),(2,.B 2 0),(4,.B 7 0),(5,.B 8 0),(11,.S 0),(12,.I (c.length:Int)),(13,.I f)])) (fun st=>LF N f (V2 N c n12) g st.1 st.2.1 st.2.2.1 st.2.2.2.1 st.2.2.2.2.1 st.2.2.2.2.2.1 st.2.2.2.2.2.2.1 st.2.2.2.2.2.2.2.1 st.2.2.2.2.2.2.2.2=some r) ?_ (fun j25=>?_))
   ·rintro ⟨A,C,D,G,H,R,T,U,X⟩ h
    unfold LF at h
    refine wO J 3 h fun Y Z h=>ZO (Zsr N (⟨A,(⟨C,D,G,H⟩:ZL),R,(⟨T,U,X⟩:T6)⟩:T7) _ Z) [] [(0,.bp 8 0),(1,.sl 15),(2,.sl 16),(3,.sl 17),(4,.sl 18),(5,.sl 19)] ?_
    refine wO J 4 h fun a0 b0 h=>ZO (Zss N Y _ b0) [] [(0,.bp 8 0),(1,.sl 20),(2,.sl 21),(3,.sl 22),(4,.sl 23),(5,.sl 24)] ?_
    refine wO J 6 h fun c0 e0 h=>ZO (Zsu N a0 g.ZF ([]:List T8) _ e0) [] [(0,.bp 8 0),(1,.sl 25),(2,.sl 26),(3,.sl 27),(4,.sl 28),(5,.sl 29),(6,.sl 6),(7,.nil)] ?_
    refine wO J 4 h fun g0 i0 h=>ZO (Zsw N c0 _ i0) [] [(0,.bp 8 0),(1,.sl 30),(2,.sl 31),(3,.sl 32),(4,.sl 33),(5,.sl 34)] ?_
    exact wB J 10 h (fun h=>oi h▸wr J 9 func13 []) fun h=>wa J 7 (ZK [] (ih15 (ZM (f+1)) h))
   refine wa J 1 (Yc (σ:=(List ZL) × ByteArray × (List ByteArray) × (List ZS) × (List ZJ) × (List ByteArray) × ByteArray × ByteArray × Int × Int) (fun st=>(Zld powT g.Zt st.2.1 st.2.2.2.2.2.2.1 st.2.2.2.2.2.2.2.1 st.2.2.2.2.2.2.2.2.1 st.2.2.2.2.2.1 c g st.1 st.2.2.1 st.2.2.2.1 st.2.2.2.2.1 [(0,.S 0),(2,.B 2 0),(4,.B 7 0),(5,.B 8 0),(11,.S 0),(12,.I (c.length:Int)),(13,.I f),(33,.I (g.ZD.length:Int)),(34,.I st.2.2.2.2.2.2.2.2.2)])) (fun n st=>Qd N f (V2 N c n12) g n st.1 st.2.1 st.2.2.1 st.2.2.2.1 st.2.2.2.2.1 st.2.2.2.2.2.1 st.2.2.2.2.2.2.1 st.2.2.2.2.2.2.2.1 st.2.2.2.2.2.2.2.2.1 st.2.2.2.2.2.2.2.2.2) (r:=r) (fun _=>rfl) ?_ (fun ih=>?_))
   ·intro n14 ih27
    rintro ⟨j0,k0,l0,m0,o0,p0,q0,s0,t0,u0⟩ h
    unfold Qd at h
    refine ZQ J 5 h (fun h=>wa J 2 (ZK [] (j25 (j0,k0,l0,m0,o0,p0,q0,s0,t0) h))) fun h=>?_
    refine wO J 14 h fun v0 x0 h=>ZO (ZkI N g.ZD u0 _ x0) [] [(0,.sl 4)] ?_
    refine ZQ J 1 h (fun h=>wa J 7 (ZK [] (ih27 (j0,k0,l0,m0,o0,p0,q0,s0,t0,(ZM (u0+1))) h))) fun h=>?_
    refine wO J 6 h fun y0 z0 h=>Yb J oS z0 ?_
    exact wO J 1 h fun A0 B0 h=>ZO (XR N (⟨j0,(⟨k0,l0,m0,o0⟩:ZL),p0,(⟨q0,s0,t0⟩:T6)⟩:T7) y0 9 _ B0) [] [(0,.bp 8 0),(1,.sl 15),(2,.sl 16),(3,.sl 17),(4,.sl 18),(5,.sl 19)] (wa J 6 (ZK [(15,.sl 21),(16,.sl 22),(17,.sl 23),(18,.sl 24),(19,.sl 25)] (ih27 (A0.all',A0.p'.Zt,A0.p'.ZD,A0.p'.ZE,A0.p'.ZF,A0.calls',A0.out'.ZH,A0.out'.Zt,A0.out'.ZI,(ZM (u0+1))) h)))
   exact ZK [(15,.sl 10),(16,.sl 11),(17,.sl 12),(18,.sl 13),(19,.sl 14)] (ih N (o,p,q,t,u,v,x,y,z,0) h)
  refine YZ h (fun h=>wa J 2 (ZK [(10,.sl 0),(11,.sl 4),(12,.sl 5),(13,.sl 6),(14,.nil)] (j24 (c,g.Zt,g.ZD,g.ZE,g.ZF,([]:List ByteArray),(str []),(str []),0) h))) fun h=>?_
  exact wO J 5 h fun C0 D0 h=>ZO (XR N (⟨c,g,([]:List ByteArray),(⟨(str []),(str []),0⟩:T6)⟩:T7) g.Zt 9 _ D0) [] [(0,.bp 8 0),(1,.sl 0),(2,.sl 4),(3,.sl 5),(4,.sl 6),(5,.nil)] (wa J 1 (ZK [] (j24 (C0.all',C0.p'.Zt,C0.p'.ZD,C0.p'.ZE,C0.p'.ZF,C0.calls',C0.out'.ZH,C0.out'.Zt,C0.out'.ZI) h)))
 exact ZK [] (ih N 0 h)
theorem Ztz (N:Nat) (rc:(List ZJ)->(List ByteArray)->Option (List ByteArray)) (rcT:(∀ (c:(List ZJ)) (d:(List ByteArray)) (r:(List ByteArray)),rc c d=some r->Fn Tryz.prog 93 ⟨2,[.S 0,.S 1],[(0,.sl ZR c)],[(1,.own rS d false)],3,.S 2,[],[(2,.own rS r false),(1,.gone)]⟩)) (c:(List ZJ)) (d:(List ByteArray)) (r:(List ByteArray)) (h:D8 N rc c d=some r) :
 Fn Tryz.prog 93 ⟨2,[.S 0,.S 1],[(0,.sl ZR c)],[(1,.own rS d false)],3,.S 2,[],[(2,.own rS r false),(1,.gone)]⟩:=by
 refine Z5 func93 rfl (fun E F w=>?_)
 unfold D8 at h
 refine wa J 11 (Z2 (σ:=(List ByteArray)) (fun st=>⟨[(1,.S 2)],[(2,.own rS st false)],[(0,.sl ZR c)],3⟩) (fun st=>ZcW st=some r) ?_ (fun j1=>?_))
 ·intro e h
  unfold ZcW at h
  exact oi h▸wr J 5 func93 [(2,.sl 2)]
 refine wa J 1 (Yc (σ:=(List ByteArray) × Int) (fun st=>⟨[(1,.S 2),(9,.S 0),(10,.I (c.length:Int)),(11,.I st.2)],[(2,.own rS st.1 false)],[(0,.sl ZR c)],3⟩) (fun n st=>V8 N rc c n st.1 st.2) (r:=r) (fun _=>rfl) ?_ (fun ih=>?_))
 ·intro n12 ih24
  rintro ⟨f,g⟩ h
  unfold V8 at h
  refine ZQ J 5 h (fun h=>wa J 2 (ZK [] (j1 f h))) fun h=>?_
  refine wO J 6 h fun i j h=>Yb J Va j ?_
  refine wa J 11 (Z2 (σ:=Bool) (fun st=>⟨[(1,.S 2),(6,.B 6 0),(9,.S 0),(10,.I (c.length:Int)),(11,.I g),(22,.O st)],[(2,.own rS f false),(6,.box [.I i.Zq,.s i.ZA,.sl 4,.s i.Zt,.s i.As,.I i.ZB,.sl 5] 27)],[(0,.sl ZR c),(4,.sl rS i.To),(5,.sl (Yk ZR) i.ZC)],7⟩) (fun st=>Mt N rc f g (V8 N rc c n12) i st=some r) ?_ (fun j39=>?_))
  ·intro k h
   unfold Mt at h
   refine Z2 (σ:=(List ByteArray)) (fun st=>(Zle i.Zq i.ZA i.Zt i.As i.ZB st c i.To i.ZC [(1,.S 7),(6,.B 6 0),(9,.S 0),(10,.I (c.length:Int)),(11,.I g)])) (fun st=>Bb N rc g (V8 N rc c n12) i st=some r) ?_ (fun j40=>?_)
   ·intro l h
    unfold Bb at h
    refine wa J 7 (Z2 (σ:=Bool) (fun st=>(Zle i.Zq i.ZA i.Zt i.As i.ZB l c i.To i.ZC [(1,.S 7),(6,.B 6 0),(9,.S 0),(10,.I (c.length:Int)),(11,.I g),(35,.O st)])) (fun st=>Ba N rc g (V8 N rc c n12) i l st=some r) ?_ (fun j41=>?_))
    ·intro m h
     unfold Ba at h
     refine Z2 (σ:=(List ByteArray)) (fun st=>⟨[(1,.S 8),(6,.B 6 0),(9,.S 0),(10,.I (c.length:Int)),(11,.I g)],[(6,.box [.I i.Zq,.s i.ZA,.sl 4,.s i.Zt,.s i.As,.I i.ZB,.sl 5] 27),(8,.own rS st false)],[(0,.sl ZR c),(4,.sl rS i.To),(5,.sl (Yk ZR) i.ZC)],9⟩) (fun st=>D9 N rc g (V8 N rc c n12) i st=some r) ?_ (fun j42=>?_)
     ·intro o h
      unfold D9 at h
      refine wa J 7 (Z2 (σ:=(List ByteArray)) (fun st=>⟨[(1,.S 9),(9,.S 0),(10,.I (c.length:Int)),(11,.I g)],[(9,.own rS st false)],[(0,.sl ZR c)],10⟩) (fun st=>ZcX g (V8 N rc c n12) st=some r) ?_ (fun j43=>?_))
      ·intro p h
       unfold ZcX at h
       exact wa J 5 (ZK [(2,.sl 9)] (ih24 (p,(ZM (g+1))) h))
      refine wa J 1 (Yc (σ:=(List ByteArray) × Int) (fun st=>⟨[(1,.S 9),(9,.S 0),(10,.I (c.length:Int)),(11,.I g),(41,.S 5),(42,.I (i.ZC.length:Int)),(43,.I st.2)],[(9,.own rS st.1 false)],[(0,.sl ZR c),(5,.sl (Yk ZR) i.ZC)],10⟩) (fun n st=>Rs rc g (V8 N rc c n12) i n st.1 st.2) (r:=r) (fun _=>rfl) ?_ (fun ih=>?_))
      ·intro n14 ih45
       rintro ⟨q,t⟩ h
       unfold Rs at h
       refine ZQ J 5 h (fun h=>wa J 2 (ZK [] (j43 q h))) fun h=>?_
       refine wO J 6 h fun u v h=>Yb J (YQ ZR) v ?_
       exact wO J 6 h fun x y h=>ZO (rcT u q _ y) [] [(0,.sl 11),(1,.sl 9)] (wa J 7 (ZK [(9,.sl 12)] (ih45 (x,(ZM (t+1))) h)))
      exact ZK [(9,.sl 8)] (ih N (o,0) h)
     refine YZ h (fun h=>wa J 2 (ZK [(8,.sl 7)] (j42 l h))) fun h=>?_
     exact wO J 5 h fun z A h=>YK J rS A (wa J 2 (ZK [] (j42 z h)))
    exact eB h (fun h=>wa J 5 (ZK [] (j41 true h))) fun h=>wa J 5 (ZK [] (j41 (i.Zq==6) h))
   refine YZ h (fun h=>wa J 2 (ZK [(7,.sl 2)] (j40 f h))) fun h=>wa J 5 (YB J [] oS ([i.ZA]:List ByteArray) ?_)
   have ⟨C,D,h⟩:=ob h
   exact YK J rS D (wa J 2 (ZK [(7,.sl 8)] (j40 C h)))
  exact eB h (fun h=>wa J 5 (ZK [] (j39 true h))) fun h=>wa J 5 (ZK [] (j39 (i.Zq==2) h))
 exact ZK [(2,.sl 1)] (ih N (d,0) h)
theorem ZtB:∀ (N:Nat) (c:(List ZJ)) (d:(List ByteArray)) (r:(List ByteArray)) (h:ZcY N c d=some r),Fn Tryz.prog 93 ⟨2,[.S 0,.S 1],[(0,.sl ZR c)],[(1,.own rS d false)],3,.S 2,[],[(2,.own rS r false),(1,.gone)]⟩:=by
 intro N
 induction N with
 | zero=>intros;rename_i h;cases h
 | succ N ih=>intro c d r h;exact Ztz N (ZcY N) ih c d r h
theorem ZtA (N:Nat) (c:(List ZJ)) (d:(List ByteArray)) (r:(List ByteArray)) (h:Ms N c d=some r):Fn Tryz.prog 93 ⟨2,[.S 0,.S 1],[(0,.sl ZR c)],[(1,.own rS d false)],3,.S 2,[],[(2,.own rS r false),(1,.gone)]⟩:=ZtB N c d r h
theorem ZsC (N:Nat) (c:(List ByteArray)) (d:(List ZJ)) (r:(List ByteArray)) (h:Dr N c d=some r) :
 Fn Tryz.prog 35 ⟨2,[.S 0,.S 1],[(0,.sl rS c),(1,.sl ZR d)],[],3,.S 2,[],[(2,.own rS r true)]⟩:=by
 refine Z5 func35 rfl (fun E F w=>?_)
 unfold Dr at h
 refine wO J 7 h fun e f h=>ZO (ZtA N d ([]:List ByteArray) _ f) [] [(0,.sl 1),(1,.nil)] (wa J 13 (Z2 (σ:=(List ByteArray)) (fun st=>⟨[(6,.S 3)],[(3,.own rS st true)],[(0,.sl rS c),(1,.sl ZR d)],4⟩) (fun st=>Zcd st=some r) ?_ (fun j1=>?_)))
 ·intro g h
  unfold Zcd at h
  exact oi h▸wr J 5 func35 [(2,.sl 3)]
 refine wa J 1 (Yc (σ:=(List ByteArray) × Int) (fun st=>⟨[(5,.S 2),(6,.S 3),(11,.S 0),(12,.I (c.length:Int)),(13,.I st.2)],[(2,.own rS e true),(3,.own rS st.1 true)],[(0,.sl rS c),(1,.sl ZR d)],4⟩) (fun n st=>Qr N c e n st.1 st.2) (r:=r) (fun _=>rfl) ?_ (fun ih=>?_))
 ·intro n2 ih3
  rintro ⟨i,j⟩ h
  unfold Qr at h
  refine ZQ J 5 h (fun h=>wa J 2 (ZK [] (j1 i h))) fun h=>?_
  refine wO J 6 h fun k l h=>Yb J oS l ?_
  refine wO J 7 h fun m o h=>Wo (Rq N e k _ o) [] [(0,.sl 2)] [2] (.inr ⟨rfl,trivial⟩) ?_
  refine ZQ J 1 h (fun h=>wa J 7 (ZK [] (ih3 (i,(ZM (j+1))) h))) fun h=>wa J 4 (YB J [] oS ([k]:List ByteArray) ?_)
  have ⟨p,q,h⟩:=ob h
  exact YK J rS q (wa J 7 (ZK [(3,.sl 6)] (ih3 (p,(ZM (j+1))) h)))
 exact ZK [(3,.nil)] (ih N (([]:List ByteArray),0) h)
theorem Zsz (N:Nat) (rc:T2->ByteArray->(List (ByteArray × Bool))->Option (Bool × (List (ByteArray × Bool)))) (rcT:(∀ (d:T2) (e:ByteArray) (f:(List (ByteArray × Bool))) (r:Bool × (List (ByteArray × Bool))),rc d e f=some r->Fn Tryz.prog 16 ⟨4,[.B 0 0,.c (.s e),.S 3],[],[(0,.box [.sl 1,.sl 2] 62),(1,.av (ZY ZV true false d.all')),(2,.av (ZY ZV true false d.done')),(3,.av (ZY rB false false f))],4,.O r.1,[],[(0,.box [.sl 1,.sl 2] 62),(1,.av (ZY ZV true false d.all')),(2,.av (ZY ZV true false d.done')),(3,.av (ZY rB false false r.2))]⟩)) (rd:(List ZJ)->T2->(List (ByteArray × Bool))->ZL->Option (Bool × (List (ByteArray × Bool)))) (rdT:(∀ (g:(List ZJ)) (i:T2) (j:(List (ByteArray × Bool))) (k:ZL) (r:Bool × (List (ByteArray × Bool))),rd g i j k=some r->Fn Tryz.prog 34 ⟨12,[.S 0,.B 4 0,.B 5 0,.B 7 0,.B 11 0],((0,.sl ZR g)::Yz 8 9 10 k []),[(1,.box [.sl 2,.sl 3] 62),(2,.av (ZY ZV true false i.all')),(3,.av (ZY ZV true false i.done')),(4,.box [.bp 1 0] 59),(5,.box [.sl 6] 65),(6,.av (ZY rB false false j)),(7,.box [.s k.Zt,.sl 8,.sl 9,.sl 10] 35),(11,.box [.cl 34 [] [4,5,7,11]] 101)],12,.O r.1,[],[(1,.box [.sl 2,.sl 3] 62),(2,.av (ZY ZV true false i.all')),(3,.av (ZY ZV true false i.done')),(4,.box [.bp 1 0] 59),(6,.av (ZY rB false false r.2)),(5,.box [.sl 6] 65),(7,.box [.s k.Zt,.sl 8,.sl 9,.sl 10] 35),(11,.box [.cl 34 [] [4,5,7,11]] 101)]⟩)) (g:(List ZJ)) (i:T2) (j:(List (ByteArray × Bool))) (k:ZL) (r:Bool × (List (ByteArray × Bool))) (h:Do N rc rd g i j k=some r) :
 Fn Tryz.prog 34 ⟨12,[.S 0,.B 4 0,.B 5 0,.B 7 0,.B 11 0],((0,.sl ZR g)::Yz 8 9 10 k []),[(1,.box [.sl 2,.sl 3] 62),(2,.av (ZY ZV true false i.all')),(3,.av (ZY ZV true false i.done')),(4,.box [.bp 1 0] 59),(5,.box [.sl 6] 65),(6,.av (ZY rB false false j)),(7,.box [.s k.Zt,.sl 8,.sl 9,.sl 10] 35),(11,.box [.cl 34 [] [4,5,7,11]] 101)],12,.O r.1,[],[(1,.box [.sl 2,.sl 3] 62),(2,.av (ZY ZV true false i.all')),(3,.av (ZY ZV true false i.done')),(4,.box [.bp 1 0] 59),(6,.av (ZY rB false false r.2)),(5,.box [.sl 6] 65),(7,.box [.s k.Zt,.sl 8,.sl 9,.sl 10] 35),(11,.box [.cl 34 [] [4,5,7,11]] 101)]⟩:=by
 refine Z5 func34 rfl (fun E F w=>?_)
 unfold Do at h
 refine wa J 11 (Z2 (σ:=(List (ByteArray × Bool))) (fun st=>(Zlf (ZY ZV true false i.all') (ZY ZV true false i.done') (ZY rB false false st) k.Zt g k [])) (fun st=>Zcb st=some r) ?_ (fun j1=>?_))
 ·intro l h
  unfold Zcb at h
  exact oi h▸wr J 4 func34 []
 refine wa J 1 (Yc (σ:=(List (ByteArray × Bool)) × Int) (fun st=>(Zlf (ZY ZV true false i.all') (ZY ZV true false i.done') (ZY rB false false st.1) k.Zt g k [(1,.B 4 0),(2,.B 5 0),(3,.B 7 0),(4,.B 11 0),(14,.S 0),(15,.I (g.length:Int)),(16,.I st.2)])) (fun n st=>VB N rc rd g i k n st.1 st.2) (r:=r) (fun _=>rfl) ?_ (fun ih=>?_))
 ·intro n72 ih69
  rintro ⟨m,o⟩ h
  unfold VB at h
  refine ZQ J 5 h (fun h=>wa J 2 (ZK [] (j1 m h))) fun h=>?_
  refine wO J 6 h fun p t h=>Yb J Va t ?_
  refine wa J 11 (Z2 (σ:=(List (ByteArray × Bool)) × Bool) (fun st=>⟨[(1,.B 4 0),(2,.B 5 0),(3,.B 7 0),(4,.B 11 0),(8,.B 15 0),(14,.S 0),(15,.I (g.length:Int)),(16,.I o),(30,.O st.2)],[(1,.box [.sl 2,.sl 3] 62),(2,.av (ZY ZV true false i.all')),(3,.av (ZY ZV true false i.done')),(4,.box [.bp 1 0] 59),(5,.box [.sl 6] 65),(6,.av (ZY rB false false st.1)),(7,.box [.s k.Zt,.sl 8,.sl 9,.sl 10] 35),(11,.box [.cl 34 [] [4,5,7,11]] 101),(15,.box [.I p.Zq,.s p.ZA,.sl 13,.s p.Zt,.s p.As,.I p.ZB,.sl 14] 27)],((0,.sl ZR g)::Yz 8 9 10 k [(13,.sl rS p.To),(14,.sl (Yk ZR) p.ZC)]),16⟩) (fun st=>PT N rd i k o (VB N rc rd g i k n72) p st.1 st.2=some r) ?_ (fun j114=>?_))
  ·rintro ⟨u,v⟩ h
   unfold PT at h
   refine eB h (fun h=>oi h▸wr J 5 func34 []) fun h=>wa J 4 (HM rB false (wa J 9 (Z2 (σ:=(List (ByteArray × Bool))) (fun st=>⟨[(1,.B 4 0),(2,.B 5 0),(3,.B 7 0),(4,.B 11 0),(14,.S 0),(15,.I (g.length:Int)),(16,.I o)],[(1,.box [.sl 2,.sl 3] 62),(2,.av (ZY ZV true false i.all')),(3,.av (ZY ZV true false i.done')),(4,.box [.bp 1 0] 59),(5,.box [.sl 6] 65),(6,.av (ZY rB false false st)),(7,.box [.s k.Zt,.sl 8,.sl 9,.sl 10] 35),(11,.box [.cl 34 [] [4,5,7,11]] 101)],((0,.sl ZR g)::Yz 8 9 10 k []),17⟩) (fun st=>Zcc o (VB N rc rd g i k n72) st=some r) ?_ (fun j115=>?_))))
   ·intro x h
    unfold Zcc at h
    exact wa J 5 (ZK [] (ih69 (x,(ZM (o+1))) h))
   refine wa J 1 (Yc (σ:=(List (ByteArray × Bool)) × (List (ByteArray × Bool)) × Int) (fun st=>⟨[(1,.B 4 0),(2,.B 5 0),(3,.B 7 0),(4,.B 11 0),(8,.B 15 0),(9,.S 16),(14,.S 0),(15,.I (g.length:Int)),(16,.I o),(33,.S 14),(34,.I (p.ZC.length:Int)),(35,.I st.2.2)],[(1,.box [.sl 2,.sl 3] 62),(2,.av (ZY ZV true false i.all')),(3,.av (ZY ZV true false i.done')),(4,.box [.bp 1 0] 59),(5,.box [.sl 6] 65),(6,.av (ZY rB false false st.1)),(7,.box [.s k.Zt,.sl 8,.sl 9,.sl 10] 35),(11,.box [.cl 34 [] [4,5,7,11]] 101),(15,.box [.I p.Zq,.s p.ZA,.sl 13,.s p.Zt,.s p.As,.I p.ZB,.sl 14] 27),(16,.av (ZY rB false false st.2.1))],((0,.sl ZR g)::Yz 8 9 10 k [(13,.sl rS p.To),(14,.sl (Yk ZR) p.ZC)]),17⟩) (fun n st=>Ur N rd i k o (VB N rc rd g i k n72) p n st.1 st.2.1 st.2.2) (r:=r) (fun _=>rfl) ?_ (fun ih=>?_))
   ·intro n84 ih126
    rintro ⟨y,z,A⟩ h
    unfold Ur at h
    refine ZQ J 5 h (fun h=>wa J 2 (ZK [] (j115 y h))) fun h=>?_
    refine wO J 6 h fun C D h=>Yb J (YQ ZR) D ?_
    refine ZQ J 10 h (fun h=>?_) fun h=>?_
    ·refine wO J 6 h fun G H h=>ZO (rdT C i y k _ H) [] [(0,.sl 18),(1,.bp 1 0),(2,.sl 2),(3,.sl 3),(4,.bp 4 0),(5,.bp 5 0),(6,.sl 6),(7,.bp 7 0),(8,.sl 8),(9,.sl 9),(10,.sl 10),(11,.bp 11 0)] ?_
     exact wB J 2 h (fun h=>oi h▸wr J 5 func34 []) fun h=>wa J 7 (ZK [] (ih126 (G.2,z,(ZM (A+1))) h))
    refine wO J 6 h fun R T h=>ZO (ZsC N k.ZD C _ T) [] [(0,.sl 8),(1,.sl 18)] (wa J 3 (Z2 (σ:=(List (ByteArray × Bool))) (fun st=>⟨[(1,.B 4 0),(2,.B 5 0),(3,.B 7 0),(4,.B 11 0),(8,.B 15 0),(9,.S 16),(11,.S 18),(14,.S 0),(15,.I (g.length:Int)),(16,.I o),(33,.S 14),(34,.I (p.ZC.length:Int)),(35,.I A)],[(1,.box [.sl 2,.sl 3] 62),(2,.av (ZY ZV true false i.all')),(3,.av (ZY ZV true false i.done')),(4,.box [.bp 1 0] 59),(5,.box [.sl 6] 65),(6,.av (ZY rB false false y)),(7,.box [.s k.Zt,.sl 8,.sl 9,.sl 10] 35),(11,.box [.cl 34 [] [4,5,7,11]] 101),(15,.box [.I p.Zq,.s p.ZA,.sl 13,.s p.Zt,.s p.As,.I p.ZB,.sl 14] 27),(16,.av (ZY rB false false st))],((0,.sl ZR g)::Yz 8 9 10 k [(13,.sl rS p.To),(14,.sl (Yk ZR) p.ZC),(18,.sl ZR C)]),20⟩) (fun st=>Dp rd i k y A (Ur N rd i k o (VB N rc rd g i k n72) p n84) C st=some r) ?_ (fun j133=>?_)))
    ·intro U h
     unfold Dp at h
     refine wO J 4 h fun X Y h=>ZO (rdT C i y k _ Y) [] [(0,.sl 18),(1,.bp 1 0),(2,.sl 2),(3,.sl 3),(4,.bp 4 0),(5,.bp 5 0),(6,.sl 6),(7,.bp 7 0),(8,.sl 8),(9,.sl 9),(10,.sl 10),(11,.bp 11 0)] ?_
     exact wB J 2 h (fun h=>oi h▸wr J 5 func34 []) fun h=>wa J 7 (ZK [] (ih126 (X.2,U,(ZM (A+1))) h))
    refine wa J 1 (Yc (σ:=(List (ByteArray × Bool)) × Int) (fun st=>⟨[(1,.B 4 0),(2,.B 5 0),(3,.B 7 0),(4,.B 11 0),(8,.B 15 0),(9,.S 16),(11,.S 18),(14,.S 0),(15,.I (g.length:Int)),(16,.I o),(33,.S 14),(34,.I (p.ZC.length:Int)),(35,.I A),(45,.S 19),(46,.I (R.length:Int)),(47,.I st.2)],[(1,.box [.sl 2,.sl 3] 62),(2,.av (ZY ZV true false i.all')),(3,.av (ZY ZV true false i.done')),(4,.box [.bp 1 0] 59),(5,.box [.sl 6] 65),(6,.av (ZY rB false false y)),(7,.box [.s k.Zt,.sl 8,.sl 9,.sl 10] 35),(11,.box [.cl 34 [] [4,5,7,11]] 101),(15,.box [.I p.Zq,.s p.ZA,.sl 13,.s p.Zt,.s p.As,.I p.ZB,.sl 14] 27),(16,.av (ZY rB false false st.1)),(19,.own rS R true)],((0,.sl ZR g)::Yz 8 9 10 k [(13,.sl rS p.To),(14,.sl (Yk ZR) p.ZC),(18,.sl ZR C)]),20⟩) (fun n st=>Rh rd i k y A (Ur N rd i k o (VB N rc rd g i k n72) p n84) C R n st.1 st.2) (r:=r) (fun _=>rfl) ?_ (fun ih=>?_))
    ·intro n86 ih135
     rintro ⟨Z,a0⟩ h
     unfold Rh at h
     refine ZQ J 5 h (fun h=>wa J 2 (ZK [] (j133 Z h))) fun h=>?_
     refine wO J 6 h fun b0 c0 h=>Vm J rS c0 (MI J oS c0 ?_)
     refine wO J 7 h fun e0 g0 h=>BN (nl:=false) oB Zah (Zk g0) ?_
     exact wB J 1 h (fun h=>oi h▸wr J 5 func34 []) fun h=>wa J 5 (HN (q:=b0) (kvs:=Z) [] oB true Zah (wa J 6 (ZK [] (ih135 ((Xo Z b0 true),(ZM (a0+1))) h))))
    exact ZK [] (ih N (z,0) h)
   exact ZK [] (ih N (u,([]:(List (ByteArray × Bool))),0) h)
  refine YZ h (fun h=>wa J 8 (ZK [] (j114 (m,false) h))) fun h=>?_
  exact wO J 4 h fun i0 j0 h=>ZO (rcT i p.Zt m _ j0) [] [(0,.bp 1 0),(1,.sl 2),(2,.sl 3),(3,.sl 6)] (wa J 3 (ZK [] (j114 (i0.2,(!i0.1)) h)))
 exact ZK [] (ih N (j,0) h)
theorem ZsB (rc:T2->ByteArray->(List (ByteArray × Bool))->Option (Bool × (List (ByteArray × Bool)))) (rcT:(∀ (d:T2) (e:ByteArray) (f:(List (ByteArray × Bool))) (r:Bool × (List (ByteArray × Bool))),rc d e f=some r->Fn Tryz.prog 16 ⟨4,[.B 0 0,.c (.s e),.S 3],[],[(0,.box [.sl 1,.sl 2] 62),(1,.av (ZY ZV true false d.all')),(2,.av (ZY ZV true false d.done')),(3,.av (ZY rB false false f))],4,.O r.1,[],[(0,.box [.sl 1,.sl 2] 62),(1,.av (ZY ZV true false d.all')),(2,.av (ZY ZV true false d.done')),(3,.av (ZY rB false false r.2))]⟩)):∀ (N:Nat) (g:(List ZJ)) (i:T2) (j:(List (ByteArray × Bool))) (k:ZL) (r:Bool × (List (ByteArray × Bool))) (h:US rc N g i j k=some r),Fn Tryz.prog 34 ⟨12,[.S 0,.B 4 0,.B 5 0,.B 7 0,.B 11 0],((0,.sl ZR g)::Yz 8 9 10 k []),[(1,.box [.sl 2,.sl 3] 62),(2,.av (ZY ZV true false i.all')),(3,.av (ZY ZV true false i.done')),(4,.box [.bp 1 0] 59),(5,.box [.sl 6] 65),(6,.av (ZY rB false false j)),(7,.box [.s k.Zt,.sl 8,.sl 9,.sl 10] 35),(11,.box [.cl 34 [] [4,5,7,11]] 101)],12,.O r.1,[],[(1,.box [.sl 2,.sl 3] 62),(2,.av (ZY ZV true false i.all')),(3,.av (ZY ZV true false i.done')),(4,.box [.bp 1 0] 59),(6,.av (ZY rB false false r.2)),(5,.box [.sl 6] 65),(7,.box [.s k.Zt,.sl 8,.sl 9,.sl 10] 35),(11,.box [.cl 34 [] [4,5,7,11]] 101)]⟩:=by
 intro N
 induction N with
 | zero=>intros;rename_i h;cases h
 | succ N ih=>intro g i j k r h;exact Zsz N rc rcT (US rc N) ih g i j k r h
theorem ZsA (N:Nat) (rc:T2->ByteArray->(List (ByteArray × Bool))->Option (Bool × (List (ByteArray × Bool)))) (rcT:(∀ (d:T2) (e:ByteArray) (f:(List (ByteArray × Bool))) (r:Bool × (List (ByteArray × Bool))),rc d e f=some r->Fn Tryz.prog 16 ⟨4,[.B 0 0,.c (.s e),.S 3],[],[(0,.box [.sl 1,.sl 2] 62),(1,.av (ZY ZV true false d.all')),(2,.av (ZY ZV true false d.done')),(3,.av (ZY rB false false f))],4,.O r.1,[],[(0,.box [.sl 1,.sl 2] 62),(1,.av (ZY ZV true false d.all')),(2,.av (ZY ZV true false d.done')),(3,.av (ZY rB false false r.2))]⟩)) (g:(List ZJ)) (i:T2) (j:(List (ByteArray × Bool))) (k:ZL) (r:Bool × (List (ByteArray × Bool))) (h:ZfI N rc g i j k=some r):Fn Tryz.prog 34 ⟨12,[.S 0,.B 4 0,.B 5 0,.B 7 0,.B 11 0],((0,.sl ZR g)::Yz 8 9 10 k []),[(1,.box [.sl 2,.sl 3] 62),(2,.av (ZY ZV true false i.all')),(3,.av (ZY ZV true false i.done')),(4,.box [.bp 1 0] 59),(5,.box [.sl 6] 65),(6,.av (ZY rB false false j)),(7,.box [.s k.Zt,.sl 8,.sl 9,.sl 10] 35),(11,.box [.cl 34 [] [4,5,7,11]] 101)],12,.O r.1,[],[(1,.box [.sl 2,.sl 3] 62),(2,.av (ZY ZV true false i.all')),(3,.av (ZY ZV true false i.done')),(4,.box [.bp 1 0] 59),(6,.av (ZY rB false false r.2)),(5,.box [.sl 6] 65),(7,.box [.s k.Zt,.sl 8,.sl 9,.sl 10] 35),(11,.box [.cl 34 [] [4,5,7,11]] 101)]⟩:=ZsB rc rcT N g i j k r h
theorem ZrT (N:Nat) (rc:T2->ByteArray->(List (ByteArray × Bool))->Option (Bool × (List (ByteArray × Bool)))) (rcT:(∀ (d:T2) (e:ByteArray) (f:(List (ByteArray × Bool))) (r:Bool × (List (ByteArray × Bool))),rc d e f=some r->Fn Tryz.prog 16 ⟨4,[.B 0 0,.c (.s e),.S 3],[],[(0,.box [.sl 1,.sl 2] 62),(1,.av (ZY ZV true false d.all')),(2,.av (ZY ZV true false d.done')),(3,.av (ZY rB false false f))],4,.O r.1,[],[(0,.box [.sl 1,.sl 2] 62),(1,.av (ZY ZV true false d.all')),(2,.av (ZY ZV true false d.done')),(3,.av (ZY rB false false r.2))]⟩)) (d:T2) (e:ByteArray) (f:(List (ByteArray × Bool))) (r:Bool × (List (ByteArray × Bool))) (h:LR N rc d e f=some r) :
 Fn Tryz.prog 16 ⟨4,[.B 0 0,.c (.s e),.S 3],[],[(0,.box [.sl 1,.sl 2] 62),(1,.av (ZY ZV true false d.all')),(2,.av (ZY ZV true false d.done')),(3,.av (ZY rB false false f))],4,.O r.1,[],[(0,.box [.sl 1,.sl 2] 62),(1,.av (ZY ZV true false d.all')),(2,.av (ZY ZV true false d.done')),(3,.av (ZY rB false false r.2))]⟩:=by
 refine Z5 func16 rfl (fun E F w=>?_)
 unfold LR at h
 refine wO J 11 h fun g i h=>BN (nl:=false) oB Zah (Zk i) ?_
 refine wB J 1 h (fun h=>oi h▸wr J 5 func16 []) fun h=>wa J 6 (HN (q:=e) (kvs:=f) [] oB true Zah ?_)
 refine wO J 8 h fun j k h=>BN (nl:=false) X2 MT (Zk k) ?_
 refine wO J 17 h fun l m h=>ZO (ZsA N rc rcT j.ZF d (Xo f e true) j _ m) [] [(0,.sl 8),(1,.bp 0 0),(2,.sl 1),(3,.sl 2),(4,.bp 4 0),(5,.bp 5 0),(6,.sl 3),(7,.bp 9 0),(8,.sl 6),(9,.sl 7),(10,.sl 8),(11,.bp 10 0)] ?_
 exact oi h▸wr J 2 func16 []
theorem ZrV:∀ (N:Nat) (d:T2) (e:ByteArray) (f:(List (ByteArray × Bool))) (r:Bool × (List (ByteArray × Bool))) (h:PI N d e f=some r),Fn Tryz.prog 16 ⟨4,[.B 0 0,.c (.s e),.S 3],[],[(0,.box [.sl 1,.sl 2] 62),(1,.av (ZY ZV true false d.all')),(2,.av (ZY ZV true false d.done')),(3,.av (ZY rB false false f))],4,.O r.1,[],[(0,.box [.sl 1,.sl 2] 62),(1,.av (ZY ZV true false d.all')),(2,.av (ZY ZV true false d.done')),(3,.av (ZY rB false false r.2))]⟩:=by
 intro N
 induction N with
 | zero=>intros;rename_i h;cases h
 | succ N ih=>intro d e f r h;exact ZrT N (PI N) ih d e f r h
theorem ZrU (N:Nat) (d:T2) (e:ByteArray) (f:(List (ByteArray × Bool))) (r:Bool × (List (ByteArray × Bool))) (h:z16 N d e f=some r):Fn Tryz.prog 16 ⟨4,[.B 0 0,.c (.s e),.S 3],[],[(0,.box [.sl 1,.sl 2] 62),(1,.av (ZY ZV true false d.all')),(2,.av (ZY ZV true false d.done')),(3,.av (ZY rB false false f))],4,.O r.1,[],[(0,.box [.sl 1,.sl 2] 62),(1,.av (ZY ZV true false d.all')),(2,.av (ZY ZV true false d.done')),(3,.av (ZY rB false false r.2))]⟩:=ZrV N d e f r h
theorem ZkJ (N:Nat) (c:(List ByteArray)) (r:(List ByteArray)) (h:Hj N c=some r) :
 Fn Tryz.prog 36 ⟨1,[.S 0],[(0,.sl rS c)],[],2,.S 1,[],[(1,.own rS r true)]⟩:=by
 refine Z5 func36 rfl (fun E F w=>?_)
 unfold Hj at h
 refine wa J 8 (eNi rS c false ?_)
 intro nb hnb
 cases nb
 ·refine wa J 5 (YB J [] oS ([]:List ByteArray) ?_)
  refine wO J 1 h fun d e h=>YK J rS e ?_
  exact oi h▸wr J 2 func36 [(1,.sl 2)]
 ·obtain rfl:=hnb rfl
  replace h:(some ([]:List ByteArray):Option (List ByteArray))=some r:=h
  exact oi h▸wr J 6 func36 [(1,.nil)]
theorem ZtC (N:Nat) (c:(List T0)) (r:(List T0)) (h:Bc N c=some r) :
 Fn Tryz.prog 95 ⟨1,[.S 0],[(0,.sl Xs c)],[],2,.S 1,[],[(1,.own Xs r true)]⟩:=by
 refine Z5 func95 rfl (fun E F w=>?_)
 unfold Bc at h
 refine wa J 8 (eNi Xs c false ?_)
 intro nb hnb
 cases nb
 ·refine wa J 5 (YB J [] W9 ([]:List T0) ?_)
  refine wO J 1 h fun d e h=>YK J Xs e ?_
  exact oi h▸wr J 2 func95 [(1,.sl 2)]
 ·obtain rfl:=hnb rfl
  replace h:(some ([]:List T0):Option (List T0))=some r:=h
  exact oi h▸wr J 6 func95 [(1,.nil)]
theorem ZkP (N:Nat) (c:Ys) (d:T3) (r:Ys) (h:Qz N c d=some r) :
 Fn Tryz.prog 94 ⟨2,[.a (XE c),.B 0 0],[],[(0,.box [.sl 1,.s d.head'] 105),(1,.av (ZY rS false true d.roles'))],2,.a (XE r),[],[(0,.box [.sl 1,.s d.head'] 105),(1,.av (ZY rS false true d.roles'))]⟩:=by
 refine Z5 func94 rfl (fun E F w=>?_)
 unfold Qz at h
 refine ZQ J 12 h (fun h=>oi h▸wr J 7 func94 []) fun h=>?_
 refine wO J 6 h fun e f h=>Yn f ?_
 exact oi h▸wr J 8 func94 []
theorem ZkK (N:Nat) (d:T3) (e:(List ZS)) (r:(List ZS)) (h:z37 N d e=some r) :
 Fn Tryz.prog 37 ⟨2,[.a [.sl 0,.s d.head'],.S 1],[(1,.sl YE e)],[(0,.av (ZY rS false true d.roles'))],3,.S 2,[],[(2,.own YE r true),(0,.av (ZY rS false true d.roles'))]⟩:=by
 refine Z5 func37 rfl (fun E F w=>?_)
 unfold z37 at h
 refine wa J 21 (Z2 (σ:=(List ZS)) (fun st=>⟨[(5,.S 3)],[(0,.av (ZY rS false true d.roles')),(3,.own YE st true)],[(1,.sl YE e)],4⟩) (fun st=>Ds st=some r) ?_ (fun j1=>?_))
 ·intro f h
  unfold Ds at h
  exact oi h▸wr J 5 func37 [(2,.sl 3)]
 refine wa J 1 (Yc (σ:=(List ZS) × Int) (fun st=>⟨[(2,.B 2 0),(5,.S 3),(6,.c (.cl 94 [] [2])),(13,.S 1),(14,.I (e.length:Int)),(15,.I st.2)],[(0,.av (ZY rS false true d.roles')),(2,.box [.sl 0,.s d.head'] 105),(3,.own YE st.1 true)],[(1,.sl YE e)],4⟩) (fun n st=>Vg N d e n st.1 st.2) (r:=r) (fun _=>rfl) ?_ (fun ih=>?_))
 ·intro n12 ih12
  rintro ⟨g,i⟩ h
  unfold Vg at h
  refine ZQ J 5 h (fun h=>wa J 2 (ZK [] (j1 g h))) fun h=>?_
  refine wO J 6 h fun j k h=>Yb J VU k ?_
  refine wO J 10 h fun l m h=>Yn m ?_
  refine wO J 2 h fun o p h=>ZO (ZtC N j.Zy _ p) [] [(0,.sl 5)] (wa J 3 (Yr (wa J 8 (Z2 (σ:=(List YM)) (fun st=>⟨[(2,.B 2 0),(5,.S 3),(6,.c (.cl 94 [] [2])),(9,.B 9 0),(13,.S 1),(14,.I (e.length:Int)),(15,.I i)],[(0,.av (ZY rS false true d.roles')),(2,.box [.sl 0,.s d.head'] 105),(3,.own YE g true),(8,.own Xs o true),(9,.box [.s l,.sl 8,.sl 10] 32),(10,.own Vt st true)],[(1,.sl YE e)],11⟩) (fun st=>PU g i (Vg N d e n12) l o st=some r) ?_ (fun j19=>?_)))))
  ·intro q h
   unfold PU at h
   refine wa J 3 (YB J [8,10] VU ([(⟨l,o,q⟩:ZS)]:List ZS) ?_)
   have ⟨t,u,h⟩:=ob h
   exact YK J YE u (wa J 7 (ZK [(3,.sl 12)] (ih12 (t,(ZM (i+1))) h)))
  refine wa J 1 (Yc (σ:=(List YM) × Int) (fun st=>⟨[(2,.B 2 0),(5,.S 3),(6,.c (.cl 94 [] [2])),(9,.B 9 0),(13,.S 1),(14,.I (e.length:Int)),(15,.I i),(29,.S 6),(30,.I (j.Zz.length:Int)),(31,.I st.2)],[(0,.av (ZY rS false true d.roles')),(2,.box [.sl 0,.s d.head'] 105),(3,.own YE g true),(8,.own Xs o true),(9,.box [.s l,.sl 8,.sl 10] 32),(10,.own Vt st.1 true)],[(1,.sl YE e),(6,.sl Vt j.Zz)],11⟩) (fun n st=>Sk N d g i (Vg N d e n12) j l o n st.1 st.2) (r:=r) (fun _=>rfl) ?_ (fun ih=>?_))
  ·intro n14 ih21
   rintro ⟨v,x⟩ h
   unfold Sk at h
   refine ZQ J 5 h (fun h=>wa J 2 (ZK [] (j19 v h))) fun h=>?_
   refine wO J 6 h fun y z h=>Yb J RS z ?_
   refine wO J 10 h fun A C h=>ZO (ZkP N y.Zw d _ C) [] [(0,.bp 2 0),(1,.sl 0)] ?_
   refine wO J 5 h fun D G h=>ZO (ZkP N y.Zx d _ G) [] [(0,.bp 2 0),(1,.sl 0)] (wa J 1 (YB J [] RS ([(⟨A,y.Op,D⟩:YM)]:List YM) ?_))
   have ⟨H,R,h⟩:=ob h
   exact YK J Vt R (wa J 2 (Yr (wa J 5 (ZK [(10,.sl 14)] (ih21 (H,(ZM (x+1))) h)))))
  exact ZK [(10,.nil)] (ih N (([]:List YM),0) h)
 exact ZK [(3,.nil)] (ih N (([]:List ZS),0) h)
theorem ZkQ (N:Nat) (d:T3) (e:ByteArray) (r:ByteArray) (h:Hw N d e=some r) :
 Fn Tryz.prog 96 ⟨1,[.a [.sl 0,.s d.head'],.c (.s e)],[],[(0,.av (ZY rS false true d.roles'))],1,.c (.s r),[],[(0,.av (ZY rS false true d.roles'))]⟩:=by
 refine Z5 func96 rfl (fun E F w=>?_)
 unfold Hw at h
 refine wO J 11 h fun f g h=>eMo (nl:=true) oS ZiH (Zk g) ?_
 exact wB J 10 h (fun h=>oi h▸wr J 6 func96 []) fun h=>oi h▸wr J 7 func96 []
theorem ZsG (N:Nat) (rc:T3->(List ZJ)->Option (List ZJ)) (rcT:(∀ (c:T3) (d:(List ZJ)) (r:(List ZJ)),rc c d=some r->Fn Tryz.prog 39 ⟨2,[.a [.sl 0,.s c.head'],.S 1],[(1,.sl ZR d)],[(0,.av (ZY rS false true c.roles'))],3,.S 2,[],[(2,.own ZR r true),(0,.av (ZY rS false true c.roles'))]⟩)) (c:T3) (d:(List ZJ)) (r:(List ZJ)) (h:Du N rc c d=some r) :
 Fn Tryz.prog 39 ⟨2,[.a [.sl 0,.s c.head'],.S 1],[(1,.sl ZR d)],[(0,.av (ZY rS false true c.roles'))],3,.S 2,[],[(2,.own ZR r true),(0,.av (ZY rS false true c.roles'))]⟩:=by
 refine Z5 func39 rfl (fun E F w=>?_)
 unfold Du at h
 refine wa J 16 (Z2 (σ:=(List ZJ)) (fun st=>⟨[(5,.S 3)],[(0,.av (ZY rS false true c.roles')),(3,.own ZR st true)],[(1,.sl ZR d)],4⟩) (fun st=>Zch st=some r) ?_ (fun j1=>?_))
 ·intro e h
  unfold Zch at h
  exact oi h▸wr J 5 func39 [(2,.sl 3)]
 refine wa J 1 (Yc (σ:=(List ZJ) × Int) (fun st=>⟨[(2,.B 2 0),(5,.S 3),(13,.S 1),(14,.I (d.length:Int)),(15,.I st.2)],[(0,.av (ZY rS false true c.roles')),(2,.box [.sl 0,.s c.head'] 105),(3,.own ZR st.1 true)],[(1,.sl ZR d)],4⟩) (fun n st=>XX N rc c d n st.1 st.2) (r:=r) (fun _=>rfl) ?_ (fun ih=>?_))
 ·intro n22 ih30
  rintro ⟨f,g⟩ h
  unfold XX at h
  refine ZQ J 5 h (fun h=>wa J 2 (ZK [] (j1 f h))) fun h=>?_
  refine wO J 6 h fun i j h=>Yb J Va j (wa J 17 (Z2 (σ:=ByteArray) (fun st=>⟨[(2,.B 2 0),(5,.S 3),(7,.B 7 0),(8,.B 8 0),(13,.S 1),(14,.I (d.length:Int)),(15,.I g)],[(0,.av (ZY rS false true c.roles')),(2,.box [.sl 0,.s c.head'] 105),(3,.own ZR f true),(7,.box [.I i.Zq,.s i.ZA,.sl 5,.s i.Zt,.s i.As,.I i.ZB,.sl 6] 27),(8,.box [.I i.Zq,.s st,.sl 5,.s i.Zt,.s i.As,.I i.ZB,.sl 6] 27)],[(1,.sl ZR d),(5,.sl rS i.To),(6,.sl (Yk ZR) i.ZC)],9⟩) (fun st=>Hl N rc c f g (XX N rc c d n22) i st=some r) ?_ (fun j49=>?_)))
  ·intro k h
   unfold Hl at h
   refine wa J 15 (Z2 (σ:=(List ByteArray)) (fun st=>(Zf9 (ZY rS false true c.roles') c.head' f i.Zq i.ZA i.Zt i.As i.ZB k st d i.To i.ZC [(2,.B 2 0),(5,.S 3),(7,.B 7 0),(8,.B 8 0),(13,.S 1),(14,.I (d.length:Int)),(15,.I g)])) (fun st=>Dw N rc c f g (XX N rc c d n22) i k st=some r) ?_ (fun j50=>?_))
   ·intro l h
    unfold Dw at h
    refine wa J 7 (Z2 (σ:=Bool) (fun st=>(Zf9 (ZY rS false true c.roles') c.head' f i.Zq i.ZA i.Zt i.As i.ZB k l d i.To i.ZC [(2,.B 2 0),(5,.S 3),(7,.B 7 0),(8,.B 8 0),(13,.S 1),(14,.I (d.length:Int)),(15,.I g),(58,.O st)])) (fun st=>PZ N rc c f g (XX N rc c d n22) i k l st=some r) ?_ (fun j52=>?_))
    ·intro m h
     unfold PZ at h
     refine Z2 (σ:=ByteArray) (fun st=>⟨[(2,.B 2 0),(5,.S 3),(7,.B 7 0),(8,.B 8 0),(13,.S 1),(14,.I (d.length:Int)),(15,.I g)],[(0,.av (ZY rS false true c.roles')),(2,.box [.sl 0,.s c.head'] 105),(3,.own ZR f true),(7,.box [.I i.Zq,.s i.ZA,.sl 5,.s i.Zt,.s i.As,.I i.ZB,.sl 6] 27),(8,.box [.I i.Zq,.s k,.sl 9,.s st,.s i.As,.I i.ZB,.nil] 27),(9,.own rS l true)],[(1,.sl ZR d),(5,.sl rS i.To),(6,.sl (Yk ZR) i.ZC)],10⟩) (fun st=>Hk N rc c f g (XX N rc c d n22) i k l st=some r) ?_ (fun j53=>?_)
     ·intro o h
      unfold Hk at h
      refine wa J 8 (Z2 (σ:=(List (List ZJ))) (fun st=>⟨[(2,.B 2 0),(5,.S 3),(8,.B 8 0),(13,.S 1),(14,.I (d.length:Int)),(15,.I g)],[(0,.av (ZY rS false true c.roles')),(2,.box [.sl 0,.s c.head'] 105),(3,.own ZR f true),(8,.box [.I i.Zq,.s k,.sl 9,.s o,.s i.As,.I i.ZB,.sl 10] 27),(9,.own rS l true),(10,.own (Yk ZR) st true)],[(1,.sl ZR d)],11⟩) (fun st=>Dv f g (XX N rc c d n22) i k l o st=some r) ?_ (fun j54=>?_))
      ·intro p h
       unfold Dv at h
       refine wa J 3 (YB J [9,10] Va ([(⟨i.Zq,k,l,o,i.As,i.ZB,p⟩:ZJ)]:List ZJ) ?_)
       have ⟨q,t,h⟩:=ob h
       exact YK J ZR t (wa J 7 (ZK [(3,.sl 12)] (ih30 (q,(ZM (g+1))) h)))
      refine wa J 1 (Yc (σ:=(List (List ZJ)) × Int) (fun st=>⟨[(2,.B 2 0),(5,.S 3),(8,.B 8 0),(13,.S 1),(14,.I (d.length:Int)),(15,.I g),(66,.S 6),(67,.I (i.ZC.length:Int)),(68,.I st.2)],[(0,.av (ZY rS false true c.roles')),(2,.box [.sl 0,.s c.head'] 105),(3,.own ZR f true),(8,.box [.I i.Zq,.s k,.sl 9,.s o,.s i.As,.I i.ZB,.sl 10] 27),(9,.own rS l true),(10,.own (Yk ZR) st.1 true)],[(1,.sl ZR d),(6,.sl (Yk ZR) i.ZC)],11⟩) (fun n st=>P0 rc c f g (XX N rc c d n22) i k l o n st.1 st.2) (r:=r) (fun _=>rfl) ?_ (fun ih=>?_))
      ·intro n25 ih56
       rintro ⟨u,v⟩ h
       unfold P0 at h
       refine ZQ J 5 h (fun h=>wa J 2 (ZK [] (j54 u h))) fun h=>?_
       refine wO J 6 h fun x y h=>Yb J (YQ ZR) y ?_
       refine wO J 8 h fun z A h=>ZO (rcT c x _ A) [] [(0,.sl 0),(1,.sl 12)] (YB J [13] (YQ ZR) ([z]:List (List ZJ)) ?_)
       have ⟨C,D,h⟩:=ob h
       exact YK J (Yk ZR) D (wa J 2 (Yr (wa J 5 (ZK [(10,.sl 15)] (ih56 (C,(ZM (v+1))) h)))))
      exact ZK [(10,.nil)] (ih N (([]:List (List ZJ)),0) h)
     refine YZ h (fun h=>wa J 2 (ZK [] (j53 i.Zt h))) fun h=>?_
     exact wO J 6 h fun G H h=>Yn H (wa J 3 (ZK [] (j53 G h)))
    refine eB h (fun h=>wa J 10 (ZK [] (j52 true h))) fun h=>?_
    exact wB J 5 h (fun h=>wa J 5 (ZK [] (j52 true h))) fun h=>wa J 5 (ZK [] (j52 (i.Zq==4) h))
   refine wa J 1 (Yc (σ:=(List ByteArray) × Int) (fun st=>(Zf9 (ZY rS false true c.roles') c.head' f i.Zq i.ZA i.Zt i.As i.ZB k st.1 d i.To i.ZC [(2,.B 2 0),(5,.S 3),(7,.B 7 0),(8,.B 8 0),(13,.S 1),(14,.I (d.length:Int)),(15,.I g),(31,.S 5),(32,.I (i.To.length:Int)),(33,.I st.2)])) (fun n st=>P1 N rc c f g (XX N rc c d n22) i k n st.1 st.2) (r:=r) (fun _=>rfl) ?_ (fun ih=>?_))
   ·intro n26 ih57
    rintro ⟨R,T⟩ h
    unfold P1 at h
    refine ZQ J 5 h (fun h=>wa J 2 (ZK [] (j50 R h))) fun h=>?_
    refine wO J 6 h fun U X h=>Yb J oS X ?_
    refine wO J 8 h fun Y Z h=>ZO (ZkQ N c U _ Z) [] [(0,.sl 0)] (YB J [] oS ([Y]:List ByteArray) ?_)
    have ⟨a0,b0,h⟩:=ob h
    exact YK J rS b0 (wa J 2 (Yr (wa J 5 (ZK [(9,.sl 12)] (ih57 (a0,(ZM (T+1))) h)))))
   exact ZK [(9,.nil)] (ih N (([]:List ByteArray),0) h)
  refine YZ h (fun h=>wa J 2 (ZK [] (j49 i.ZA h))) fun h=>?_
  exact wO J 5 h fun c0 e0 h=>ZO (ZkQ N c i.ZA _ e0) [] [(0,.sl 0)] (wa J 3 (ZK [] (j49 c0 h)))
 exact ZK [(3,.nil)] (ih N (([]:List ZJ),0) h)
theorem ZsI:∀ (N:Nat) (c:T3) (d:(List ZJ)) (r:(List ZJ)) (h:Wb N c d=some r),Fn Tryz.prog 39 ⟨2,[.a [.sl 0,.s c.head'],.S 1],[(1,.sl ZR d)],[(0,.av (ZY rS false true c.roles'))],3,.S 2,[],[(2,.own ZR r true),(0,.av (ZY rS false true c.roles'))]⟩:=by
 intro N
 induction N with
 | zero=>intros;rename_i h;cases h
 | succ N ih=>intro c d r h;exact ZsG N (Wb N) ih c d r h
theorem ZsH (N:Nat) (c:T3) (d:(List ZJ)) (r:(List ZJ)) (h:z39 N c d=some r):Fn Tryz.prog 39 ⟨2,[.a [.sl 0,.s c.head'],.S 1],[(1,.sl ZR d)],[(0,.av (ZY rS false true c.roles'))],3,.S 2,[],[(2,.own ZR r true),(0,.av (ZY rS false true c.roles'))]⟩:=ZsI N c d r h
theorem ZsJ (N:Nat) (rc:(List ZJ)->Option Int) (rcT:(∀ (c:(List ZJ)) (r:Int),rc c=some r->Fn Tryz.prog 40 ⟨1,[.S 0],[(0,.sl ZR c)],[],1,.I r,[],[]⟩)) (c:(List ZJ)) (r:Int) (h:Dx N rc c=some r) :
 Fn Tryz.prog 40 ⟨1,[.S 0],[(0,.sl ZR c)],[],1,.I r,[],[]⟩:=by
 refine Z5 func40 rfl (fun E F w=>?_)
 unfold Dx at h
 refine wa J 17 (Z2 (σ:=Int) (fun st=>⟨[(3,.I st)],[],[(0,.sl ZR c)],1⟩) (fun st=>Zci st=some r) ?_ (fun j1=>?_))
 ·intro d h
  unfold Zci at h
  exact oi h▸wr J 5 func40 []
 refine wa J 1 (Yc (σ:=Int × Int) (fun st=>⟨[(3,.I st.1),(10,.S 0),(11,.I (c.length:Int)),(12,.I st.2)],[],[(0,.sl ZR c)],1⟩) (fun n st=>Ri N rc c n st.1 st.2) (r:=r) (fun _=>rfl) ?_ (fun ih=>?_))
 ·intro n12 ih12
  rintro ⟨e,f⟩ h
  unfold Ri at h
  refine ZQ J 5 h (fun h=>wa J 2 (ZK [] (j1 e h))) fun h=>?_
  refine wO J 6 h fun g i h=>Yb J Va i (wa J 11 (Z2 (σ:=Int) (fun st=>⟨[(3,.I st),(10,.S 0),(11,.I (c.length:Int)),(12,.I f)],[],[(0,.sl ZR c)],5⟩) (fun st=>Zcj f (Ri N rc c n12) st=some r) ?_ (fun j19=>?_)))
  ·intro j h
   unfold Zcj at h
   exact wa J 5 (ZK [] (ih12 (j,(ZM (f+1))) h))
  refine wa J 1 (Yc (σ:=Int × Int) (fun st=>⟨[(3,.I st.1),(10,.S 0),(11,.I (c.length:Int)),(12,.I f),(17,.S 3),(18,.I (g.ZC.length:Int)),(19,.I st.2)],[],[(0,.sl ZR c),(3,.sl (Yk ZR) g.ZC)],5⟩) (fun n st=>Qs rc f (Ri N rc c n12) g n st.1 st.2) (r:=r) (fun _=>rfl) ?_ (fun ih=>?_))
  ·intro n14 ih21
   rintro ⟨k,l⟩ h
   unfold Qs at h
   refine ZQ J 5 h (fun h=>wa J 2 (ZK [] (j19 k h))) fun h=>?_
   refine wO J 6 h fun m o h=>Yb J (YQ ZR) o ?_
   exact wO J 6 h fun p q h=>ZO (rcT m _ q) [] [(0,.sl 6)] (wa J 8 (ZK [] (ih21 ((ZM (k+p)),(ZM (l+1))) h)))
  exact ZK [] (ih N (e,0) h)
 exact ZK [] (ih N ((c.length:Int),0) h)
theorem ZsL:∀ (N:Nat) (c:(List ZJ)) (r:Int) (h:Rj N c=some r),Fn Tryz.prog 40 ⟨1,[.S 0],[(0,.sl ZR c)],[],1,.I r,[],[]⟩:=by
 intro N
 induction N with
 | zero=>intros;rename_i h;cases h
 | succ N ih=>intro c r h;exact ZsJ N (Rj N) ih c r h
theorem ZsK (N:Nat) (c:(List ZJ)) (r:Int) (h:z40 N c=some r):Fn Tryz.prog 40 ⟨1,[.S 0],[(0,.sl ZR c)],[],1,.I r,[],[]⟩:=ZsL N c r h
theorem ZsD (N:Nat) (rc:T2->ByteArray->Option (ZL × Bool × T2)) (rcT:(∀ (d:T2) (e:ByteArray) (r:ZL × Bool × T2),rc d e=some r->Fn Tryz.prog 17 ⟨3,[.B 0 0,.c (.s e)],[],[(0,.box [.sl 1,.sl 2] 62),(1,.av (ZY ZV true false d.all')),(2,.av (ZY ZV true false d.done'))],6,.t [.inr [.s r.1.Zt,.sl 3,.sl 4,.sl 5],.inl (.b r.2.1)],(Yz 3 4 5 r.1 []),[(1,.av (ZY ZV true false r.2.2.all')),(2,.av (ZY ZV true false r.2.2.done')),(0,.box [.sl 1,.sl 2] 62)]⟩)) (rd:(List ZJ)->T2->Bool->ZL->Option ((List ZJ) × T2 × Bool × ZL)) (rdT:(∀ (f:(List ZJ)) (g:T2) (i:Bool) (j:ZL) (r:(List ZJ) × T2 × Bool × ZL),rd f g i j=some r->Fn Tryz.prog 38 ⟨11,[.S 0,.B 4 0,.B 5 0,.B 6 0,.B 10 0],[(0,.sl ZR f),(7,.sl rS j.ZD),(9,.sl ZR j.ZF)],[(1,.box [.sl 2,.sl 3] 62),(2,.av (ZY ZV true false g.all')),(3,.av (ZY ZV true false g.done')),(4,.box [.bp 1 0] 59),(5,.box [.b i] 4),(6,.box [.s j.Zt,.sl 7,.sl 8,.sl 9] 35),(8,.own YE j.ZE false),(10,.box [.cl 38 [] [4,5,6,10]] 108)],15,.S 11,[(12,.sl rS r.2.2.2.ZD),(14,.sl ZR r.2.2.2.ZF)],[(11,.own ZR r.1 true),(2,.av (ZY ZV true false r.2.1.all')),(3,.av (ZY ZV true false r.2.1.done')),(1,.box [.sl 2,.sl 3] 62),(4,.box [.bp 1 0] 59),(5,.box [.b r.2.2.1] 4),(8,.gone),(13,.own YE r.2.2.2.ZE false),(6,.box [.s r.2.2.2.Zt,.sl 12,.sl 13,.sl 14] 35),(10,.box [.cl 38 [] [4,5,6,10]] 108)]⟩)) (f:(List ZJ)) (g:T2) (i:Bool) (j:ZL) (r:(List ZJ) × T2 × Bool × ZL) (h:ZfK N rc rd f g i j=some r) :
 Fn Tryz.prog 38 ⟨11,[.S 0,.B 4 0,.B 5 0,.B 6 0,.B 10 0],[(0,.sl ZR f),(7,.sl rS j.ZD),(9,.sl ZR j.ZF)],[(1,.box [.sl 2,.sl 3] 62),(2,.av (ZY ZV true false g.all')),(3,.av (ZY ZV true false g.done')),(4,.box [.bp 1 0] 59),(5,.box [.b i] 4),(6,.box [.s j.Zt,.sl 7,.sl 8,.sl 9] 35),(8,.own YE j.ZE false),(10,.box [.cl 38 [] [4,5,6,10]] 108)],15,.S 11,[(12,.sl rS r.2.2.2.ZD),(14,.sl ZR r.2.2.2.ZF)],[(11,.own ZR r.1 true),(2,.av (ZY ZV true false r.2.1.all')),(3,.av (ZY ZV true false r.2.1.done')),(1,.box [.sl 2,.sl 3] 62),(4,.box [.bp 1 0] 59),(5,.box [.b r.2.2.1] 4),(8,.gone),(13,.own YE r.2.2.2.ZE false),(6,.box [.s r.2.2.2.Zt,.sl 12,.sl 13,.sl 14] 35),(10,.box [.cl 38 [] [4,5,6,10]] 108)]⟩:=by
 refine Z5 func38 rfl (fun E F w=>?_)
 unfold ZfK at h
 refine wa J 15 (Z2 (σ:=(List (ByteArray × ZL)) × (List (ByteArray × ZL)) × Bool × ByteArray × (List ByteArray) × (List ZS) × (List ZJ) × (List ZJ)) (fun st=>(Zlg (ZY ZV true false st.1) (ZY ZV true false st.2.1) st.2.2.1 st.2.2.2.1 st.2.2.2.2.2.1 st.2.2.2.2.2.2.2 f j.ZD j.ZF st.2.2.2.2.1 st.2.2.2.2.2.2.1 [(7,.S 14)])) (fun st=>Zce st.1 st.2.1 st.2.2.1 st.2.2.2.1 st.2.2.2.2.1 st.2.2.2.2.2.1 st.2.2.2.2.2.2.1 st.2.2.2.2.2.2.2=some r) ?_ (fun j1=>?_))
 ·rintro ⟨k,l,m,o,p,u,v,x⟩ h
  unfold Zce at h
  exact oi h▸wr J 5 func38 [(11,.sl 14),(12,.sl 11),(13,.sl 12),(14,.sl 13)]
 refine wa J 1 (Yc (σ:=(List (ByteArray × ZL)) × (List (ByteArray × ZL)) × Bool × ByteArray × (List ByteArray) × (List ZS) × (List ZJ) × (List ZJ) × Int) (fun st=>(Zlg (ZY ZV true false st.1) (ZY ZV true false st.2.1) st.2.2.1 st.2.2.2.1 st.2.2.2.2.2.1 st.2.2.2.2.2.2.2.1 f j.ZD j.ZF st.2.2.2.2.1 st.2.2.2.2.2.2.1 [(1,.B 4 0),(2,.B 5 0),(3,.B 6 0),(4,.B 10 0),(7,.S 14),(20,.S 0),(21,.I (f.length:Int)),(22,.I st.2.2.2.2.2.2.2.2)])) (fun n st=>XW N rc rd f n st.1 st.2.1 st.2.2.1 st.2.2.2.1 st.2.2.2.2.1 st.2.2.2.2.2.1 st.2.2.2.2.2.2.1 st.2.2.2.2.2.2.2.1 st.2.2.2.2.2.2.2.2) (r:=r) (fun _=>rfl) ?_ (fun ih=>?_))
 ·intro n62 ih66
  rintro ⟨y,z,A,C,D,G,H,T,U⟩ h
  unfold XW at h
  refine ZQ J 5 h (fun h=>wa J 2 (ZK [] (j1 (y,z,A,C,D,G,H,T) h))) fun h=>?_
  refine wO J 6 h fun X Y h=>Yb J Va Y (wa J 16 (Z2 (σ:=(List (ByteArray × ZL)) × (List (ByteArray × ZL)) × Bool × ByteArray × (List ByteArray) × (List ZS) × (List ZJ) × (List ZJ)) (fun st=>(Zlh (ZY ZV true false st.1) (ZY ZV true false st.2.1) st.2.2.1 st.2.2.2.1 st.2.2.2.2.2.1 st.2.2.2.2.2.2.2 f j.ZD j.ZF st.2.2.2.2.1 st.2.2.2.2.2.2.1 [(1,.B 4 0),(2,.B 5 0),(3,.B 6 0),(4,.B 10 0),(7,.S 22),(20,.S 0),(21,.I (f.length:Int)),(22,.I U)])) (fun st=>Sl N U (XW N rc rd f n62) st.1 st.2.1 st.2.2.1 st.2.2.2.1 st.2.2.2.2.1 st.2.2.2.2.2.1 st.2.2.2.2.2.2.1 st.2.2.2.2.2.2.2=some r) ?_ (fun j109=>?_)))
  ·rintro ⟨Z,a0,b0,c0,e0,g0,i0,j0⟩ h
   unfold Sl at h
   refine wO J 5 h fun k0 l0 h=>Wo (ZsK N j0 _ l0) [] [(0,.sl 22)] [22] (.inr ⟨rfl,trivial⟩) ?_
   refine wB J 2 h (fun h=>oi h▸wr J 20 func38 [(11,.nil),(12,.sl 19),(13,.sl 20),(14,.sl 21)]) fun h=>?_
   refine wB J 6 h (fun h=>oi h▸wr J 14 func38 [(11,.nil),(12,.sl 19),(13,.sl 20),(14,.sl 21)]) fun h=>?_
   exact wB J 7 h (fun h=>oi h▸wr J 5 func38 [(11,.nil),(12,.sl 19),(13,.sl 20),(14,.sl 21)]) fun h=>wa J 7 (ZK [(11,.sl 19),(12,.sl 20),(13,.sl 21),(14,.sl 22)] (ih66 (Z,a0,b0,c0,e0,g0,i0,j0,(ZM (U+1))) h))
  refine eB h (fun h=>?_) fun h=>?_
  ·refine wO J 6 h fun m0 o0 h=>ZO (rcT (⟨y,z⟩:T2) X.Zt _ o0) [] [(0,.bp 1 0),(1,.sl 2),(2,.sl 3)] ?_
   refine wa J 12 (Z2 (σ:=Bool) (fun st=>⟨[(1,.B 4 0),(2,.B 5 0),(3,.B 6 0),(4,.B 10 0),(7,.S 14),(9,.B 18 0),(10,.B 22 0),(20,.S 0),(21,.I (f.length:Int)),(22,.I U)],[(1,.box [.sl 2,.sl 3] 62),(2,.av (ZY ZV true false m0.2.2.all')),(3,.av (ZY ZV true false m0.2.2.done')),(4,.box [.bp 1 0] 59),(5,.box [.b st] 4),(6,.box [.s C,.sl 11,.sl 12,.sl 13] 35),(10,.box [.cl 38 [] [4,5,6,10]] 108),(12,.own YE G false),(14,.own ZR T true),(18,.box [.I X.Zq,.s X.ZA,.sl 16,.s X.Zt,.s X.As,.I X.ZB,.sl 17] 27),(22,.box [.s m0.1.Zt,.sl 19,.sl 20,.sl 21] 35)],((0,.sl ZR f)::(7,.sl rS j.ZD)::(9,.sl ZR j.ZF)::(11,.sl rS D)::(13,.sl ZR H)::(16,.sl rS X.To)::(17,.sl (Yk ZR) X.ZC)::Yz 19 20 21 m0.1 []),23⟩) (fun st=>PV N C D G H T U (XW N rc rd f n62) X m0 st=some r) ?_ (fun j120=>?_))
   ·intro p0 h
    unfold PV at h
    refine wB J 5 h (fun h=>oi h▸wr J 5 func38 [(11,.nil),(12,.sl 11),(13,.sl 12),(14,.sl 13)]) fun h=>wa J 4 (HM rS false ?_)
    refine wO J 2 h fun q0 s0 h=>Yn s0 (wa J 12 (Z2 (σ:=(List (ByteArray × ByteArray))) (fun st=>⟨[(1,.B 4 0),(2,.B 5 0),(3,.B 6 0),(4,.B 10 0),(7,.S 14),(10,.B 22 0),(12,.B 24 0),(20,.S 0),(21,.I (f.length:Int)),(22,.I U)],[(1,.box [.sl 2,.sl 3] 62),(2,.av (ZY ZV true false m0.2.2.all')),(3,.av (ZY ZV true false m0.2.2.done')),(4,.box [.bp 1 0] 59),(5,.box [.b p0] 4),(6,.box [.s C,.sl 11,.sl 12,.sl 13] 35),(10,.box [.cl 38 [] [4,5,6,10]] 108),(12,.own YE G false),(14,.own ZR T true),(22,.box [.s m0.1.Zt,.sl 19,.sl 20,.sl 21] 35),(23,.av (ZY rS false false st)),(24,.box [.sl 23,.s q0] 105)],((0,.sl ZR f)::(7,.sl rS j.ZD)::(9,.sl ZR j.ZF)::(11,.sl rS D)::(13,.sl ZR H)::Yz 19 20 21 m0.1 []),25⟩) (fun st=>Dt N C D G H T U (XW N rc rd f n62) m0 p0 q0 st=some r) ?_ (fun j121=>?_)))
    ·intro t0 h
     unfold Dt at h
     refine wa J 1 (eMw (R:=rS) (ag:=false) (kvs:=t0) 23 ?_)
     refine wO J 6 h fun u0 v0 h=>ZO (ZkK N (⟨t0,q0⟩:T3) m0.1.ZE _ v0) [] [(0,.sl 23),(1,.sl 20)] ?_
     have ⟨x0,y0,h⟩:=ob h
     refine YK J YE y0 (wa J 2 (Yr ?_))
     refine wO J 5 h fun z0 A0 h=>ZO (ZsH N (⟨t0,q0⟩:T3) m0.1.ZF _ A0) [] [(0,.sl 23),(1,.sl 21)] ?_
     have ⟨B0,C0,h⟩:=ob h
     exact YK J ZR C0 (wa J 2 (ZK [(19,.sl 11),(20,.sl 26),(21,.sl 13),(22,.sl 28)] (j109 (m0.2.2.all',m0.2.2.done',p0,C,D,x0,H,B0) h)))
    refine wa J 1 (Yc (σ:=(List (ByteArray × ByteArray)) × Int) (fun st=>⟨[(1,.B 4 0),(2,.B 5 0),(3,.B 6 0),(4,.B 10 0),(7,.S 14),(9,.B 18 0),(10,.B 22 0),(12,.B 24 0),(20,.S 0),(21,.I (f.length:Int)),(22,.I U),(75,.S 19),(76,.I (m0.1.ZD.length:Int)),(77,.I st.2)],[(1,.box [.sl 2,.sl 3] 62),(2,.av (ZY ZV true false m0.2.2.all')),(3,.av (ZY ZV true false m0.2.2.done')),(4,.box [.bp 1 0] 59),(5,.box [.b p0] 4),(6,.box [.s C,.sl 11,.sl 12,.sl 13] 35),(10,.box [.cl 38 [] [4,5,6,10]] 108),(12,.own YE G false),(14,.own ZR T true),(18,.box [.I X.Zq,.s X.ZA,.sl 16,.s X.Zt,.s X.As,.I X.ZB,.sl 17] 27),(22,.box [.s m0.1.Zt,.sl 19,.sl 20,.sl 21] 35),(23,.av (ZY rS false false st.1)),(24,.box [.sl 23,.s q0] 105)],((0,.sl ZR f)::(7,.sl rS j.ZD)::(9,.sl ZR j.ZF)::(11,.sl rS D)::(13,.sl ZR H)::(16,.sl rS X.To)::(17,.sl (Yk ZR) X.ZC)::Yz 19 20 21 m0.1 []),25⟩) (fun n st=>PX N C D G H T U (XW N rc rd f n62) X m0 p0 q0 n st.1 st.2) (r:=r) (fun _=>rfl) ?_ (fun ih=>?_))
    ·intro n70 ih123
     rintro ⟨D0,G0⟩ h
     unfold PX at h
     refine ZQ J 5 h (fun h=>wa J 2 (ZK [] (j121 D0 h))) fun h=>?_
     refine wO J 7 h fun H0 I0 h=>Yb J oS I0 ?_
     exact wO J 11 h fun L0 M0 h=>Yb J oS M0 (wa J 1 (HN (q:=H0) (kvs:=D0) [] oS L0 ZiH (Yr (wa J 5 (ZK [] (ih123 ((Xo D0 H0 L0),(ZM (G0+1))) h))))))
    exact ZK [] (ih N (([]:(List (ByteArray × ByteArray))),0) h)
   exact eB h (fun h=>wa J 4 (ZK [] (j120 m0.2.1 h))) fun h=>wa J 4 (ZK [] (j120 false h))
  obtain ⟨K,h⟩|⟨K,h⟩:=oc h
  ·refine wH J 6 K (wa J 8 (Z2 (σ:=(List (ByteArray × ZL)) × (List (ByteArray × ZL)) × Bool × ByteArray × (List ByteArray) × (List ZS) × (List ZJ) × (List ZJ)) (fun st=>(Zlh (ZY ZV true false st.1) (ZY ZV true false st.2.1) st.2.2.1 st.2.2.2.1 st.2.2.2.2.2.1 st.2.2.2.2.2.2.2 f j.ZD j.ZF st.2.2.2.2.1 st.2.2.2.2.2.2.1 [(1,.B 4 0),(2,.B 5 0),(3,.B 6 0),(4,.B 10 0),(7,.S 22),(20,.S 0),(21,.I (f.length:Int)),(22,.I U)])) (fun st=>Zcf N U (XW N rc rd f n62) st.1 st.2.1 st.2.2.1 st.2.2.2.1 st.2.2.2.2.1 st.2.2.2.2.2.1 st.2.2.2.2.2.2.1 st.2.2.2.2.2.2.2=some r) ?_ (fun j124=>?_)))
   ·rintro ⟨O0,R0,S0,U0,V0,X0,Y0,Z0⟩ h
    unfold Zcf at h
    exact ZK [] (j109 (O0,R0,S0,U0,V0,X0,Y0,Z0) h)
   refine wa J 1 (Yc (σ:=(List (ByteArray × ZL)) × (List (ByteArray × ZL)) × Bool × ByteArray × (List ByteArray) × (List ZS) × (List ZJ) × (List ZJ) × Int) (fun st=>⟨[(1,.B 4 0),(2,.B 5 0),(3,.B 6 0),(4,.B 10 0),(7,.S 22),(20,.S 0),(21,.I (f.length:Int)),(22,.I U),(108,.S 17),(109,.I (X.ZC.length:Int)),(110,.I st.2.2.2.2.2.2.2.2)],[(1,.box [.sl 2,.sl 3] 62),(2,.av (ZY ZV true false st.1)),(3,.av (ZY ZV true false st.2.1)),(4,.box [.bp 1 0] 59),(5,.box [.b st.2.2.1] 4),(6,.box [.s st.2.2.2.1,.sl 19,.sl 20,.sl 21] 35),(10,.box [.cl 38 [] [4,5,6,10]] 108),(20,.own YE st.2.2.2.2.2.1 false),(22,.own ZR st.2.2.2.2.2.2.2.1 true)],[(0,.sl ZR f),(7,.sl rS j.ZD),(9,.sl ZR j.ZF),(17,.sl (Yk ZR) X.ZC),(19,.sl rS st.2.2.2.2.1),(21,.sl ZR st.2.2.2.2.2.2.1)],23⟩) (fun n st=>PY N rd U (XW N rc rd f n62) X n st.1 st.2.1 st.2.2.1 st.2.2.2.1 st.2.2.2.2.1 st.2.2.2.2.2.1 st.2.2.2.2.2.2.1 st.2.2.2.2.2.2.2.1 st.2.2.2.2.2.2.2.2) (r:=r) (fun _=>rfl) ?_ (fun ih=>?_))
   ·intro n72 ih126
    rintro ⟨a1,b1,c1,e1,g1,i1,k1,l1,m1⟩ h
    unfold PY at h
    refine ZQ J 5 h (fun h=>wa J 2 (ZK [] (j124 (a1,b1,c1,e1,g1,i1,k1,l1) h))) fun h=>?_
    refine wO J 6 h fun o1 p1 h=>Yb J (YQ ZR) p1 ?_
    refine wO J 7 h fun q1 s1 h=>ZO (rdT o1 (⟨a1,b1⟩:T2) c1 (⟨e1,g1,i1,k1⟩:ZL) _ s1) [] [(0,.sl 24),(1,.bp 1 0),(2,.sl 2),(3,.sl 3),(4,.bp 4 0),(5,.bp 5 0),(6,.bp 6 0),(7,.sl 19),(8,.sl 20),(9,.sl 21),(10,.bp 10 0)] ?_
    have ⟨t1,u1,h⟩:=ob h
    exact YK J ZR u1 (wa J 7 (ZK [(19,.sl 26),(20,.sl 27),(21,.sl 28),(22,.sl 29)] (ih126 (q1.2.1.all',q1.2.1.done',q1.2.2.1,q1.2.2.2.Zt,q1.2.2.2.ZD,q1.2.2.2.ZE,q1.2.2.2.ZF,t1,(ZM (m1+1))) h)))
   exact ZK [(19,.sl 11),(20,.sl 12),(21,.sl 13),(22,.sl 14)] (ih N (y,z,A,C,D,G,H,T,0) h)
  refine wH J 6 K ?_
  refine wO J 11 h fun v1 x1 h=>ZO (ZkJ N X.To _ x1) [] [(0,.sl 16)] (wa J 13 (Z2 (σ:=(List (ByteArray × ZL)) × (List (ByteArray × ZL)) × Bool × ByteArray × (List ByteArray) × (List ZS) × (List ZJ) × (List (List ZJ))) (fun st=>⟨[(1,.B 4 0),(2,.B 5 0),(3,.B 6 0),(4,.B 10 0),(7,.S 14),(17,.B 19 0),(20,.S 0),(21,.I (f.length:Int)),(22,.I U)],[(1,.box [.sl 2,.sl 3] 62),(2,.av (ZY ZV true false st.1)),(3,.av (ZY ZV true false st.2.1)),(4,.box [.bp 1 0] 59),(5,.box [.b st.2.2.1] 4),(6,.box [.s st.2.2.2.1,.sl 21,.sl 22,.sl 23] 35),(10,.box [.cl 38 [] [4,5,6,10]] 108),(14,.own ZR T true),(19,.box [.I X.Zq,.s X.ZA,.sl 20,.s X.Zt,.s X.As,.I X.ZB,.sl 24] 27),(20,.own rS v1 true),(22,.own YE st.2.2.2.2.2.1 false),(24,.own (Yk ZR) st.2.2.2.2.2.2.2 true)],[(0,.sl ZR f),(7,.sl rS j.ZD),(9,.sl ZR j.ZF),(21,.sl rS st.2.2.2.2.1),(23,.sl ZR st.2.2.2.2.2.2.1)],25⟩) (fun st=>Zcg N T U (XW N rc rd f n62) X v1 st.1 st.2.1 st.2.2.1 st.2.2.2.1 st.2.2.2.2.1 st.2.2.2.2.2.1 st.2.2.2.2.2.2.1 st.2.2.2.2.2.2.2=some r) ?_ (fun j127=>?_)))
  ·rintro ⟨y1,z1,A1,B1,C1,D1,G1,H1⟩ h
   unfold Zcg at h
   refine wa J 3 (YB J [20,24] Va ([(⟨X.Zq,X.ZA,v1,X.Zt,X.As,X.ZB,H1⟩:ZJ)]:List ZJ) ?_)
   have ⟨I1,L1,h⟩:=ob h
   exact YK J ZR L1 (wa J 2 (ZK [(19,.sl 21),(20,.sl 22),(21,.sl 23),(22,.sl 26)] (j109 (y1,z1,A1,B1,C1,D1,G1,I1) h)))
  refine wa J 1 (Yc (σ:=(List (ByteArray × ZL)) × (List (ByteArray × ZL)) × Bool × ByteArray × (List ByteArray) × (List ZS) × (List ZJ) × (List (List ZJ)) × Int) (fun st=>⟨[(1,.B 4 0),(2,.B 5 0),(3,.B 6 0),(4,.B 10 0),(7,.S 14),(17,.B 19 0),(20,.S 0),(21,.I (f.length:Int)),(22,.I U),(35,.S 17),(36,.I (X.ZC.length:Int)),(37,.I st.2.2.2.2.2.2.2.2)],[(1,.box [.sl 2,.sl 3] 62),(2,.av (ZY ZV true false st.1)),(3,.av (ZY ZV true false st.2.1)),(4,.box [.bp 1 0] 59),(5,.box [.b st.2.2.1] 4),(6,.box [.s st.2.2.2.1,.sl 21,.sl 22,.sl 23] 35),(10,.box [.cl 38 [] [4,5,6,10]] 108),(14,.own ZR T true),(19,.box [.I X.Zq,.s X.ZA,.sl 20,.s X.Zt,.s X.As,.I X.ZB,.sl 24] 27),(20,.own rS v1 true),(22,.own YE st.2.2.2.2.2.1 false),(24,.own (Yk ZR) st.2.2.2.2.2.2.2.1 true)],[(0,.sl ZR f),(7,.sl rS j.ZD),(9,.sl ZR j.ZF),(17,.sl (Yk ZR) X.ZC),(21,.sl rS st.2.2.2.2.1),(23,.sl ZR st.2.2.2.2.2.2.1)],25⟩) (fun n st=>PW N rd T U (XW N rc rd f n62) X v1 n st.1 st.2.1 st.2.2.1 st.2.2.2.1 st.2.2.2.2.1 st.2.2.2.2.2.1 st.2.2.2.2.2.2.1 st.2.2.2.2.2.2.2.1 st.2.2.2.2.2.2.2.2) (r:=r) (fun _=>rfl) ?_ (fun ih=>?_))
  ·intro n74 ih129
   rintro ⟨M1,O1,R1,S1,U1,V1,X1,Y1,Z1⟩ h
   unfold PW at h
   refine ZQ J 5 h (fun h=>wa J 2 (ZK [] (j127 (M1,O1,R1,S1,U1,V1,X1,Y1) h))) fun h=>?_
   refine wO J 6 h fun a2 b2 h=>Yb J (YQ ZR) b2 ?_
   refine wO J 8 h fun c2 e2 h=>ZO (rdT a2 (⟨M1,O1⟩:T2) R1 (⟨S1,U1,V1,X1⟩:ZL) _ e2) [] [(0,.sl 26),(1,.bp 1 0),(2,.sl 2),(3,.sl 3),(4,.bp 4 0),(5,.bp 5 0),(6,.bp 6 0),(7,.sl 21),(8,.sl 22),(9,.sl 23),(10,.bp 10 0)] (YB J [27] (YQ ZR) ([c2.1]:List (List ZJ)) ?_)
   have ⟨g2,i2,h⟩:=ob h
   exact YK J (Yk ZR) i2 (wa J 2 (Yr (wa J 5 (ZK [(21,.sl 28),(22,.sl 29),(23,.sl 30),(24,.sl 32)] (ih129 (c2.2.1.all',c2.2.1.done',c2.2.2.1,c2.2.2.2.Zt,c2.2.2.2.ZD,c2.2.2.2.ZE,c2.2.2.2.ZF,g2,(ZM (Z1+1))) h)))))
  exact ZK [(21,.sl 11),(22,.sl 12),(23,.sl 13),(24,.nil)] (ih N (y,z,A,C,D,G,H,([]:List (List ZJ)),0) h)
 exact ZK [(11,.sl 7),(12,.sl 8),(13,.sl 9),(14,.nil)] (ih N (g.all',g.done',i,j.Zt,j.ZD,j.ZE,j.ZF,([]:List ZJ),0) h)
theorem ZsF (rc:T2->ByteArray->Option (ZL × Bool × T2)) (rcT:(∀ (d:T2) (e:ByteArray) (r:ZL × Bool × T2),rc d e=some r->Fn Tryz.prog 17 ⟨3,[.B 0 0,.c (.s e)],[],[(0,.box [.sl 1,.sl 2] 62),(1,.av (ZY ZV true false d.all')),(2,.av (ZY ZV true false d.done'))],6,.t [.inr [.s r.1.Zt,.sl 3,.sl 4,.sl 5],.inl (.b r.2.1)],(Yz 3 4 5 r.1 []),[(1,.av (ZY ZV true false r.2.2.all')),(2,.av (ZY ZV true false r.2.2.done')),(0,.box [.sl 1,.sl 2] 62)]⟩)):∀ (N:Nat) (f:(List ZJ)) (g:T2) (i:Bool) (j:ZL) (r:(List ZJ) × T2 × Bool × ZL) (h:VC rc N f g i j=some r),Fn Tryz.prog 38 ⟨11,[.S 0,.B 4 0,.B 5 0,.B 6 0,.B 10 0],[(0,.sl ZR f),(7,.sl rS j.ZD),(9,.sl ZR j.ZF)],[(1,.box [.sl 2,.sl 3] 62),(2,.av (ZY ZV true false g.all')),(3,.av (ZY ZV true false g.done')),(4,.box [.bp 1 0] 59),(5,.box [.b i] 4),(6,.box [.s j.Zt,.sl 7,.sl 8,.sl 9] 35),(8,.own YE j.ZE false),(10,.box [.cl 38 [] [4,5,6,10]] 108)],15,.S 11,[(12,.sl rS r.2.2.2.ZD),(14,.sl ZR r.2.2.2.ZF)],[(11,.own ZR r.1 true),(2,.av (ZY ZV true false r.2.1.all')),(3,.av (ZY ZV true false r.2.1.done')),(1,.box [.sl 2,.sl 3] 62),(4,.box [.bp 1 0] 59),(5,.box [.b r.2.2.1] 4),(8,.gone),(13,.own YE r.2.2.2.ZE false),(6,.box [.s r.2.2.2.Zt,.sl 12,.sl 13,.sl 14] 35),(10,.box [.cl 38 [] [4,5,6,10]] 108)]⟩:=by
 intro N
 induction N with
 | zero=>intros;rename_i h;cases h
 | succ N ih=>intro f g i j r h;exact ZsD N rc rcT (VC rc N) ih f g i j r h
theorem ZsE (N:Nat) (rc:T2->ByteArray->Option (ZL × Bool × T2)) (rcT:(∀ (d:T2) (e:ByteArray) (r:ZL × Bool × T2),rc d e=some r->Fn Tryz.prog 17 ⟨3,[.B 0 0,.c (.s e)],[],[(0,.box [.sl 1,.sl 2] 62),(1,.av (ZY ZV true false d.all')),(2,.av (ZY ZV true false d.done'))],6,.t [.inr [.s r.1.Zt,.sl 3,.sl 4,.sl 5],.inl (.b r.2.1)],(Yz 3 4 5 r.1 []),[(1,.av (ZY ZV true false r.2.2.all')),(2,.av (ZY ZV true false r.2.2.done')),(0,.box [.sl 1,.sl 2] 62)]⟩)) (f:(List ZJ)) (g:T2) (i:Bool) (j:ZL) (r:(List ZJ) × T2 × Bool × ZL) (h:ZfJ N rc f g i j=some r):Fn Tryz.prog 38 ⟨11,[.S 0,.B 4 0,.B 5 0,.B 6 0,.B 10 0],[(0,.sl ZR f),(7,.sl rS j.ZD),(9,.sl ZR j.ZF)],[(1,.box [.sl 2,.sl 3] 62),(2,.av (ZY ZV true false g.all')),(3,.av (ZY ZV true false g.done')),(4,.box [.bp 1 0] 59),(5,.box [.b i] 4),(6,.box [.s j.Zt,.sl 7,.sl 8,.sl 9] 35),(8,.own YE j.ZE false),(10,.box [.cl 38 [] [4,5,6,10]] 108)],15,.S 11,[(12,.sl rS r.2.2.2.ZD),(14,.sl ZR r.2.2.2.ZF)],[(11,.own ZR r.1 true),(2,.av (ZY ZV true false r.2.1.all')),(3,.av (ZY ZV true false r.2.1.done')),(1,.box [.sl 2,.sl 3] 62),(4,.box [.bp 1 0] 59),(5,.box [.b r.2.2.1] 4),(8,.gone),(13,.own YE r.2.2.2.ZE false),(6,.box [.s r.2.2.2.Zt,.sl 12,.sl 13,.sl 14] 35),(10,.box [.cl 38 [] [4,5,6,10]] 108)]⟩:=ZsF rc rcT N f g i j r h
theorem ZrY (N:Nat) (rc:T2->ByteArray->Option (ZL × Bool × T2)) (rcT:(∀ (d:T2) (e:ByteArray) (r:ZL × Bool × T2),rc d e=some r->Fn Tryz.prog 17 ⟨3,[.B 0 0,.c (.s e)],[],[(0,.box [.sl 1,.sl 2] 62),(1,.av (ZY ZV true false d.all')),(2,.av (ZY ZV true false d.done'))],6,.t [.inr [.s r.1.Zt,.sl 3,.sl 4,.sl 5],.inl (.b r.2.1)],(Yz 3 4 5 r.1 []),[(1,.av (ZY ZV true false r.2.2.all')),(2,.av (ZY ZV true false r.2.2.done')),(0,.box [.sl 1,.sl 2] 62)]⟩)) (d:T2) (e:ByteArray) (r:ZL × Bool × T2) (h:PJ N rc d e=some r) :
 Fn Tryz.prog 17 ⟨3,[.B 0 0,.c (.s e)],[],[(0,.box [.sl 1,.sl 2] 62),(1,.av (ZY ZV true false d.all')),(2,.av (ZY ZV true false d.done'))],6,.t [.inr [.s r.1.Zt,.sl 3,.sl 4,.sl 5],.inl (.b r.2.1)],(Yz 3 4 5 r.1 []),[(1,.av (ZY ZV true false r.2.2.all')),(2,.av (ZY ZV true false r.2.2.done')),(0,.box [.sl 1,.sl 2] 62)]⟩:=by
 refine Z5 func17 rfl (fun E F w=>?_)
 unfold PJ at h
 refine wO J 14 h fun f g h=>eMo (nl:=false) X2 MT (Zk g) ?_
 refine wB J 11 h (fun h=>oi h▸wr J 7 func17 [(3,.sl 5),(4,.sl 6),(5,.sl 7)]) fun h=>?_
 refine wO J 9 h fun i j h=>BN (nl:=false) X2 MT (Zk j) (wa J 6 (eMz rS false 30 [] [.s (str [])] ?_))
 refine wO J 9 h fun k l h=>ZO (ZkJ N i.ZD _ l) [] [(0,.sl 9)] ?_
 refine wO J 3 h fun m o h=>ZO (ZkK N (⟨([]:(List (ByteArray × ByteArray))),(str [])⟩:T3) i.ZE _ o) [] [(0,.sl 13),(1,.sl 10)] (wa J 3 (Yr ?_))
 refine wO J 19 h fun p u h=>ZO (ZsE N rc rcT i.ZF d true (⟨i.Zt,k,m,([]:List ZJ)⟩:ZL) _ u) [15] [(0,.sl 11),(1,.bp 0 0),(2,.sl 1),(3,.sl 2),(4,.bp 3 0),(5,.bp 18 0),(6,.bp 17 0),(7,.sl 15),(8,.sl 16),(9,.nil),(10,.bp 19 0)] ?_
 exact wB J 9 h (fun h=>oi h▸wr J 7 func17 [(3,.nil),(4,.nil),(5,.nil)]) fun h=>wa J 10 (HN (q:=e) (kvs:=p.2.1.done') [22,20] X2 (⟨p.2.2.2.Zt,p.2.2.2.ZD,p.2.2.2.ZE,p.1⟩:ZL) MT (Yr (oi h▸wr J 6 func17 [(3,.sl 21),(4,.sl 22),(5,.sl 20)])))
theorem Zr0:∀ (N:Nat) (d:T2) (e:ByteArray) (r:ZL × Bool × T2) (h:S9 N d e=some r),Fn Tryz.prog 17 ⟨3,[.B 0 0,.c (.s e)],[],[(0,.box [.sl 1,.sl 2] 62),(1,.av (ZY ZV true false d.all')),(2,.av (ZY ZV true false d.done'))],6,.t [.inr [.s r.1.Zt,.sl 3,.sl 4,.sl 5],.inl (.b r.2.1)],(Yz 3 4 5 r.1 []),[(1,.av (ZY ZV true false r.2.2.all')),(2,.av (ZY ZV true false r.2.2.done')),(0,.box [.sl 1,.sl 2] 62)]⟩:=by
 intro N
 induction N with
 | zero=>intros;rename_i h;cases h
 | succ N ih=>intro d e r h;exact ZrY N (S9 N) ih d e r h
theorem ZrZ (N:Nat) (d:T2) (e:ByteArray) (r:ZL × Bool × T2) (h:z17 N d e=some r):Fn Tryz.prog 17 ⟨3,[.B 0 0,.c (.s e)],[],[(0,.box [.sl 1,.sl 2] 62),(1,.av (ZY ZV true false d.all')),(2,.av (ZY ZV true false d.done'))],6,.t [.inr [.s r.1.Zt,.sl 3,.sl 4,.sl 5],.inl (.b r.2.1)],(Yz 3 4 5 r.1 []),[(1,.av (ZY ZV true false r.2.2.all')),(2,.av (ZY ZV true false r.2.2.done')),(0,.box [.sl 1,.sl 2] 62)]⟩:=Zr0 N d e r h
theorem ZkN (N:Nat) (d:(List ZL)) (e:ByteArray) (r:ZL × Int) (h:z8 N d e=some r) :
 Fn Tryz.prog 8 ⟨2,[.S 0,.c (.s e)],[(0,.sl ZV d)],[(1,.abs powT)],5,.t [.inr [.s r.1.Zt,.sl 2,.sl 3,.sl 4],.inl (.I r.2)],(Yz 2 3 4 r.1 []),[(1,.abs powT)]⟩:=by
 refine Z5 func8 rfl (fun E F w=>?_)
 unfold z8 at h
 refine wO J 9 h fun f g h=>ZO (Zkv N d _ g) [] [(0,.sl 0),(1,.sl 1)] ?_
 refine wB J 3 h (fun h=>oi h▸wr J 7 func8 [(2,.nil),(3,.nil),(4,.nil)]) fun h=>wa J 4 (HM ZV true (HM ZV true (wa J 11 (Z2 (σ:=(List (ByteArray × ZL))) (fun st=>(Zli powT (ZY ZV true false st) (ZY ZV true false ([]:(List (ByteArray × ZL)))) d [(1,.c (.s e)),(4,.B 2 0),(6,.B 5 0)])) (fun st=>TE N e st=some r) ?_ (fun j1=>?_)))))
 ·intro i h
  unfold TE at h
  refine wO J 8 h fun j k h=>eMo (nl:=false) X2 MT (Zk k) ?_
  refine wB J 12 h (fun h=>oi h▸wr J 7 func8 [(2,.nil),(3,.nil),(4,.nil)]) fun h=>wa J 7 (HM rB false ?_)
  have ⟨l,m,h⟩:=ob h
  refine ZO (ZrU N (⟨i,([]:(List (ByteArray × ZL)))⟩:T2) e ([]:(List (ByteArray × Bool))) _ m) [] [(0,.bp 5 0),(1,.sl 3),(2,.sl 4),(3,.sl 10)] ?_
  refine wB J 2 h (fun h=>oi h▸wr J 7 func8 [(2,.nil),(3,.nil),(4,.nil)]) fun h=>?_
  refine wO J 6 h fun o p h=>ZO (ZrZ N (⟨i,([]:(List (ByteArray × ZL)))⟩:T2) e _ p) [] [(0,.bp 5 0),(1,.sl 3),(2,.sl 4)] ?_
  refine wB J 13 h (fun h=>oi h▸wr J 13 func8 [(2,.nil),(3,.nil),(4,.nil)]) fun h=>wa J 1 (YB J [] X2 ([o.1]:List ZL) ?_)
  have ⟨u,v,h⟩:=ob h
  refine ZO (Zfr N ([o.1]:List ZL) _ v) [15] [(0,.sl 15),(1,.sl 1)] ?_
  refine wB J 3 h (fun h=>oi h▸wr J 7 func8 [(2,.nil),(3,.nil),(4,.nil)]) fun h=>wa J 6 (YB J [] X2 ([o.1]:List ZL) ?_)
  have ⟨x,y,h⟩:=ob h
  refine ZO (Zkv N ([o.1]:List ZL) _ y) [16] [(0,.sl 16),(1,.sl 1)] ?_
  exact wB J 3 h (fun h=>oi h▸wr J 7 func8 [(2,.nil),(3,.nil),(4,.nil)]) fun h=>oi h▸wr J 8 func8 [(2,.sl 11),(3,.sl 12),(4,.sl 13)]
 refine wa J 1 (Yc (σ:=(List (ByteArray × ZL)) × Int) (fun st=>(Zli powT (ZY ZV true false st.1) (ZY ZV true false ([]:(List (ByteArray × ZL)))) d [(1,.c (.s e)),(4,.B 2 0),(6,.B 5 0),(22,.S 0),(23,.I (d.length:Int)),(24,.I st.2)])) (fun n st=>Qy N d e n st.1 st.2) (r:=r) (fun _=>rfl) ?_ (fun ih=>?_))
 ·intro n2 ih3
  rintro ⟨z,A⟩ h
  unfold Qy at h
  refine ZQ J 5 h (fun h=>wa J 2 (ZK [] (j1 z h))) fun h=>?_
  exact wO J 6 h fun C D h=>Yb J X2 D (wa J 12 (HN (q:=C.Zt) (kvs:=z) [] X2 C MT (Yr (wa J 5 (ZK [] (ih3 ((Xo z C.Zt C),(ZM (A+1))) h))))))
 exact ZK [] (ih N (([]:(List (ByteArray × ZL))),0) h)
theorem ZfQ (N:Nat) (r:Bool) (h:z7 N=some r) :
 Fn Tryz.prog 7 ⟨1,[],[],[(0,.abs powT)],1,.O r,[],[(0,.abs powT)]⟩:=by
 refine Z5 func7 rfl (fun E F w=>?_)
 unfold z7 at h
 refine wO J 6 h fun c d h=>ZO (ZrN N (str [112,114,111,116,111,99,111,108,32,80,40,65,44,32,66,41,32,123,32,109,101,115,115,97,103,101,32,97,40,41,59,32,65,32,45,62,32,66,58,32,97,59,32,99,97,108,108,32,81,40,66,44,32,65,41,32,97,115,32,113,59,32,125,32,112,114,111,116,111,99,111,108,32,81,40,88,44,32,89,41,32,123,32,109,101,115,115,97,103,101,32,109,40,41,59,32,88,32,45,62,32,89,58,32,109,59,32,125]) _ d) [] [(0,.sl 0)] ?_
 refine wO J 11 h fun e f h=>ZO (ZkN N c.1 (str [80]) _ f) [] [(0,.sl 1),(1,.sl 0)] ?_
 refine ZQ J 12 h (fun h=>oi h▸wr J 41 func7 []) fun h=>?_
 refine ZQ J 4 h (fun h=>oi h▸wr J 37 func7 []) fun h=>?_
 refine ZQ J 6 h (fun h=>oi h▸wr J 31 func7 []) fun h=>?_
 refine wO J 2 h fun g i h=>Yb J VU i ?_
 refine ZQ J 5 h (fun h=>oi h▸wr J 23 func7 []) fun h=>?_
 refine ZQ J 6 h (fun h=>oi h▸wr J 17 func7 []) fun h=>?_
 refine wO J 2 h fun j k h=>Yb J Va k ?_
 refine ZQ J 5 h (fun h=>oi h▸wr J 9 func7 []) fun h=>?_
 refine wO J 2 h fun l m h=>Yb J Va m ?_
 exact oi h▸wr J 6 func7 []
theorem Zrw (N:Nat) (rc:(List ZT)->Option (Int × Int)) (rcT:(∀ (c:(List ZT)) (r:Int × Int),rc c=some r->Fn Tryz.prog 12 ⟨1,[.S 0],[(0,.sl Yo c)],[],1,.t [.inl (.I r.1),.inl (.I r.2)],[],[]⟩)) (c:(List ZT)) (r:Int × Int) (h:GN N rc c=some r) :
 Fn Tryz.prog 12 ⟨1,[.S 0],[(0,.sl Yo c)],[],1,.t [.inl (.I r.1),.inl (.I r.2)],[],[]⟩:=by
 refine Z5 func12 rfl (fun E F w=>?_)
 unfold GN at h
 refine wa J 12 (Z2 (σ:=Int × Int) (fun st=>(Ua c [(2,.I st.1),(3,.I st.2)])) (fun st=>Zba st.1 st.2=some r) ?_ (fun j1=>?_))
 ·rintro ⟨d,e⟩ h
  unfold Zba at h
  exact oi h▸wr J 7 func12 []
 refine wa J 1 (Yc (σ:=Int × Int × Int) (fun st=>(Ua c [(2,.I st.1),(3,.I st.2.1),(10,.S 0),(11,.I (c.length:Int)),(12,.I st.2.2)])) (fun n st=>VZ N rc c n st.1 st.2.1 st.2.2) (r:=r) (fun _=>rfl) ?_ (fun ih=>?_))
 ·intro n12 ih18
  rintro ⟨f,g,i⟩ h
  unfold VZ at h
  refine ZQ J 5 h (fun h=>wa J 2 (ZK [] (j1 (f,g) h))) fun h=>?_
  refine wO J 6 h fun j k h=>Yb J VT k (wa J 11 (Z2 (σ:=Int) (fun st=>⟨[(2,.I st),(3,.I g),(5,.B 4 0),(10,.S 0),(11,.I (c.length:Int)),(12,.I i)],[(4,.box [.I j.Zq,.s j.ZA,.sl 2,.s j.Zt,.s j.As,.I j.ZB,.sl 3] 83)],[(0,.sl Yo c),(2,.sl rS j.To),(3,.sl (Yk Yo) j.ZC)],5⟩) (fun st=>GO N rc g i (VZ N rc c n12) j st=some r) ?_ (fun j29=>?_)))
  ·intro l h
   unfold GO at h
   refine wa J 7 (Z2 (σ:=Int) (fun st=>⟨[(2,.I l),(3,.I st),(5,.B 4 0),(10,.S 0),(11,.I (c.length:Int)),(12,.I i)],[(4,.box [.I j.Zq,.s j.ZA,.sl 2,.s j.Zt,.s j.As,.I j.ZB,.sl 3] 83)],[(0,.sl Yo c),(2,.sl rS j.To),(3,.sl (Yk Yo) j.ZC)],5⟩) (fun st=>LD N rc i (VZ N rc c n12) j l st=some r) ?_ (fun j30=>?_))
   ·intro m h
    unfold LD at h
    refine wa J 7 (Z2 (σ:=Int × Int) (fun st=>⟨[(2,.I st.1),(3,.I st.2),(10,.S 0),(11,.I (c.length:Int)),(12,.I i)],[],[(0,.sl Yo c)],5⟩) (fun st=>Zbb i (VZ N rc c n12) st.1 st.2=some r) ?_ (fun j31=>?_))
    ·rintro ⟨o,p⟩ h
     unfold Zbb at h
     exact wa J 5 (ZK [] (ih18 (o,p,(ZM (i+1))) h))
    refine wa J 1 (Yc (σ:=Int × Int × Int) (fun st=>⟨[(2,.I st.1),(3,.I st.2.1),(10,.S 0),(11,.I (c.length:Int)),(12,.I i),(27,.S 3),(28,.I (j.ZC.length:Int)),(29,.I st.2.2)],[],[(0,.sl Yo c),(3,.sl (Yk Yo) j.ZC)],5⟩) (fun n st=>Pu rc i (VZ N rc c n12) j n st.1 st.2.1 st.2.2) (r:=r) (fun _=>rfl) ?_ (fun ih=>?_))
    ·intro n14 ih33
     rintro ⟨q,u,v⟩ h
     unfold Pu at h
     refine ZQ J 5 h (fun h=>wa J 2 (ZK [] (j31 (q,u) h))) fun h=>?_
     refine wO J 6 h fun x y h=>Yb J (YQ Yo) y ?_
     exact wO J 6 h fun z A h=>ZO (rcT x _ A) [] [(0,.sl 6)] (wa J 21 (ZK [] (ih33 ((ZM (q+z.1)),(ZM (u+z.2)),(ZM (v+1))) h)))
    exact ZK [] (ih N (l,m,0) h)
   exact eB h (fun h=>wa J 6 (ZK [] (j30 (ZM (g+1)) h))) fun h=>wa J 2 (ZK [] (j30 g h))
  exact eB h (fun h=>wa J 6 (ZK [] (j29 (ZM (f+1)) h))) fun h=>wa J 2 (ZK [] (j29 f h))
 exact ZK [] (ih N (0,0,0) h)
theorem Zry:∀ (N:Nat) (c:(List ZT)) (r:Int × Int) (h:Ts N c=some r),Fn Tryz.prog 12 ⟨1,[.S 0],[(0,.sl Yo c)],[],1,.t [.inl (.I r.1),.inl (.I r.2)],[],[]⟩:=by
 intro N
 induction N with
 | zero=>intros;rename_i h;cases h
 | succ N ih=>intro c r h;exact Zrw N (Ts N) ih c r h
theorem Zrx (N:Nat) (c:(List ZT)) (r:Int × Int) (h:z12 N c=some r):Fn Tryz.prog 12 ⟨1,[.S 0],[(0,.sl Yo c)],[],1,.t [.inl (.I r.1),.inl (.I r.2)],[],[]⟩:=Zry N c r h
theorem ZsR (N:Nat) (rc:(List ZT)->Option Int) (rcT:(∀ (c:(List ZT)) (r:Int),rc c=some r->Fn Tryz.prog 46 ⟨1,[.S 0],[(0,.sl Yo c)],[],1,.I r,[],[]⟩)) (c:(List ZT)) (r:Int) (h:DD N rc c=some r) :
 Fn Tryz.prog 46 ⟨1,[.S 0],[(0,.sl Yo c)],[],1,.I r,[],[]⟩:=by
 refine Z5 func46 rfl (fun E F w=>?_)
 unfold DD at h
 refine wa J 13 (Z2 (σ:=Int) (fun st=>(Ua c [(3,.I st)])) (fun st=>Zcp st=some r) ?_ (fun j1=>?_))
 ·intro d h
  unfold Zcp at h
  exact oi h▸wr J 5 func46 []
 refine wa J 1 (Yc (σ:=Int × Int) (fun st=>(Ua c [(0,.S 0),(3,.I st.1),(4,.I st.2)])) (fun n st=>Rm N rc c n st.1 st.2) (r:=r) (fun _=>rfl) ?_ (fun ih=>?_))
 ·intro n12 ih12
  rintro ⟨e,f⟩ h
  unfold Rm at h
  refine ZQ J 8 h (fun h=>wa J 2 (ZK [] (j1 e h))) fun h=>wa J 14 (Z2 (σ:=Int) (fun st=>(Ua c [(0,.S 0),(3,.I st),(4,.I f)])) (fun st=>Zcq f (Rm N rc c n12) st=some r) ?_ (fun j19=>?_))
  ·intro g h
   unfold Zcq at h
   exact wa J 6 (ZK [] (ih12 (g,(ZM (f+1))) h))
  refine wa J 1 (Yc (σ:=Int × Int) (fun st=>(Ua c [(0,.S 0),(3,.I st.1),(4,.I f),(5,.I st.2)])) (fun n st=>Qt rc c f (Rm N rc c n12) n st.1 st.2) (r:=r) (fun _=>rfl) ?_ (fun ih=>?_))
  ·intro n14 ih21
   rintro ⟨i,j⟩ h
   unfold Qt at h
   refine wO J 6 h fun k l h=>Yb J VT l ?_
   refine ZQ J 5 h (fun h=>wa J 2 (ZK [] (j19 i h))) fun h=>?_
   refine wO J 8 h fun m o h=>Yb J VT o ?_
   refine wO J 3 h fun p q h=>Yb J (YQ Yo) q ?_
   exact wO J 1 h fun s t h=>ZO (rcT p _ t) [] [(0,.sl 8)] (wa J 9 (ZK [] (ih21 ((ZM (i+s)),(ZM (j+1))) h)))
  exact ZK [] (ih N ((ZM (e+1)),0) h)
 exact ZK [] (ih N (0,0) h)
theorem ZsS:∀ (N:Nat) (c:(List ZT)) (r:Int) (h:Zcr N c=some r),Fn Tryz.prog 46 ⟨1,[.S 0],[(0,.sl Yo c)],[],1,.I r,[],[]⟩:=by
 intro N
 induction N with
 | zero=>intros;rename_i h;cases h
 | succ N ih=>intro c r h;exact ZsR N (Zcr N) ih c r h
theorem ZkL (N:Nat) (c:(List ZT)) (r:Int) (h:z46 N c=some r):Fn Tryz.prog 46 ⟨1,[.S 0],[(0,.sl Yo c)],[],1,.I r,[],[]⟩:=ZsS N c r h
theorem Zsa (N:Nat) (c:(List ZU)) (r:Bool) (h:G4 N c=some r) :
 Fn Tryz.prog 19 ⟨1,[.S 0],[(0,.sl Yp c)],[],1,.O r,[],[]⟩:=by
 refine Z5 func19 rfl (fun E F w=>?_)
 unfold G4 at h
 refine wa J 14 (Z2 (σ:=Int × Int) (fun st=>(QA c [(0,.S 0),(3,.I st.1),(4,.I st.2)])) (fun st=>ZbU c st.1 st.2=some r) ?_ (fun j1=>?_))
 ·rintro ⟨d,e⟩ h
  unfold ZbU at h
  refine ZQ J 6 h (fun h=>oi h▸wr J 9 func19 []) fun h=>?_
  exact wB J 4 h (fun h=>oi h▸wr J 5 func19 []) fun h=>oi h▸wr J 5 func19 []
 refine wa J 1 (Yc (σ:=Int × Int × Int) (fun st=>(QA c [(0,.S 0),(3,.I st.1),(4,.I st.2.1),(5,.I st.2.2)])) (fun n st=>Sh N c n st.1 st.2.1 st.2.2) (r:=r) (fun _=>rfl) ?_ (fun ih=>?_))
 ·intro n12 ih12
  rintro ⟨f,g,i⟩ h
  unfold Sh at h
  refine ZQ J 8 h (fun h=>wa J 2 (ZK [] (j1 (f,g) h))) fun h=>?_
  refine wO J 9 h fun j k h=>Yb J Wv k ?_
  refine wO J 2 h fun l m h=>ZO (ZkL N j.ZF _ m) [] [(0,.sl 4)] ?_
  refine wO J 8 h fun o p h=>Yb J Wv p (wa J 10 (Z2 (σ:=Unit) (fun st=>(Hy c [(0,.S 0),(3,.I (ZM (f+l))),(4,.I (ZM (g+(o.ZE.length:Int)))),(5,.I i)])) (fun st=>ZbV f g i (Sh N c n12) l o=some r) ?_ (fun j19=>?_)))
  ·intro _ h
   unfold ZbV at h
   exact wa J 6 (ZK [] (ih12 ((ZM (f+l)),(ZM (g+(o.ZE.length:Int))),(ZM (i+1))) h))
  refine wa J 1 (Yc (σ:=Int) (fun st=>(Hy c [(0,.S 0),(3,.I (ZM (f+l))),(4,.I (ZM (g+(o.ZE.length:Int)))),(5,.I i),(6,.I st)])) (fun n st=>PQ c f g i (Sh N c n12) l o n st) (r:=r) (fun _=>rfl) ?_ (fun ih=>?_))
  ·intro n14 ih21
   intro q h
   unfold PQ at h
   refine wO J 6 h fun s t h=>Yb J Wv t ?_
   refine ZQ J 5 h (fun h=>wa J 2 (ZK [] (j19 () h))) fun h=>?_
   refine wO J 8 h fun u v h=>Yb J Wv v ?_
   refine wO J 3 h fun x y h=>Yb J SL y ?_
   refine wB J 5 h (fun h=>oi h▸wr J 18 func19 []) fun h=>?_
   refine wO J 2 h fun z A h=>Yb J Wv A ?_
   refine wO J 3 h fun C D h=>Yb J SL D ?_
   exact wB J 6 h (fun h=>oi h▸wr J 5 func19 []) fun h=>wa J 8 (ZK [] (ih21 (ZM (q+1)) h))
  exact ZK [] (ih N 0 h)
 exact ZK [] (ih N (0,0,0) h)
theorem ZtH (N:Nat) (c:(List ZU)) (r:Bool) (h:z9 N c=some r) :
 Fn Tryz.prog 9 ⟨1,[.S 0],[(0,.sl Yp c)],[],1,.O r,[],[]⟩:=by
 refine Z5 func9 rfl (fun E F w=>?_)
 unfold z9 at h
 refine wa J 11 (Z2 (σ:=Unit) (fun st=>(QA c [(0,.S 0)])) (fun st=>Zc3 N c=some r) ?_ (fun j1=>?_))
 ·intro _ h
  unfold Zc3 at h
  refine wO J 3 h fun d e h=>ZO (Zsa N c _ e) [] [(0,.sl 0)] ?_
  exact oi h▸wr J 2 func9 []
 refine wa J 1 (Yc (σ:=Int) (fun st=>(QA c [(0,.S 0),(7,.S 0),(8,.I (c.length:Int)),(9,.I st)])) (fun n st=>Mu N c n st) (r:=r) (fun _=>rfl) ?_ (fun ih=>?_))
 ·intro n2 ih3
  intro f h
  unfold Mu at h
  refine ZQ J 5 h (fun h=>wa J 2 (ZK [] (j1 () h))) fun h=>?_
  refine wO J 6 h fun g i h=>Yb J Wv i ?_
  refine wO J 8 h fun j k h=>ZO (Zrx N g.ZF _ k) [] [(0,.sl 4)] ?_
  exact wB J 11 h (fun h=>oi h▸wr J 5 func9 []) fun h=>wa J 7 (ZK [] (ih3 (ZM (f+1)) h))
 exact ZK [] (ih N 0 h)
theorem Zsd (N:Nat) (rc:(List ZT)->Option (List ZJ)) (rcT:(∀ (c:(List ZT)) (r:(List ZJ)),rc c=some r->Fn Tryz.prog 20 ⟨1,[.S 0],[(0,.sl Yo c)],[],2,.S 1,[],[(1,.own ZR r true)]⟩)) (c:(List ZT)) (r:(List ZJ)) (h:G7 N rc c=some r) :
 Fn Tryz.prog 20 ⟨1,[.S 0],[(0,.sl Yo c)],[],2,.S 1,[],[(1,.own ZR r true)]⟩:=by
 refine Z5 func20 rfl (fun E F w=>?_)
 unfold G7 at h
 refine wa J 15 (Z2 (σ:=(List ZJ)) (fun st=>⟨[(3,.S 1)],[(1,.own ZR st true)],[(0,.sl Yo c)],2⟩) (fun st=>ZbX st=some r) ?_ (fun j1=>?_))
 ·intro d h
  unfold ZbX at h
  exact oi h▸wr J 5 func20 [(1,.sl 1)]
 refine wa J 1 (Yc (σ:=(List ZJ) × Int) (fun st=>⟨[(3,.S 1),(9,.S 0),(10,.I (c.length:Int)),(11,.I st.2)],[(1,.own ZR st.1 true)],[(0,.sl Yo c)],2⟩) (fun n st=>Rf N rc c n st.1 st.2) (r:=r) (fun _=>rfl) ?_ (fun ih=>?_))
 ·intro n12 ih12
  rintro ⟨e,f⟩ h
  unfold Rf at h
  refine ZQ J 5 h (fun h=>wa J 2 (ZK [] (j1 e h))) fun h=>?_
  refine wO J 6 h fun g i h=>Yb J VT i (wa J 30 (Z2 (σ:=(List (List ZJ))) (fun st=>⟨[(3,.S 1),(6,.B 6 0),(9,.S 0),(10,.I (c.length:Int)),(11,.I f)],[(1,.own ZR e true),(6,.box [.I g.Zq,.s g.ZA,.sl 3,.s g.Zt,.s g.As,.I g.ZB,.sl 7] 27),(7,.own (Yk ZR) st true)],[(0,.sl Yo c),(3,.sl rS g.To)],8⟩) (fun st=>G8 e f (Rf N rc c n12) g st=some r) ?_ (fun j19=>?_)))
  ·intro j h
   unfold G8 at h
   refine wa J 3 (YB J [7] Va ([(⟨g.Zq,g.ZA,g.To,g.Zt,g.As,g.ZB,j⟩:ZJ)]:List ZJ) ?_)
   have ⟨k,l,h⟩:=ob h
   exact YK J ZR l (wa J 7 (ZK [(1,.sl 9)] (ih12 (k,(ZM (f+1))) h)))
  refine wa J 1 (Yc (σ:=(List (List ZJ)) × Int) (fun st=>⟨[(3,.S 1),(6,.B 6 0),(9,.S 0),(10,.I (c.length:Int)),(11,.I f),(29,.S 4),(30,.I (g.ZC.length:Int)),(31,.I st.2)],[(1,.own ZR e true),(6,.box [.I g.Zq,.s g.ZA,.sl 3,.s g.Zt,.s g.As,.I g.ZB,.sl 7] 27),(7,.own (Yk ZR) st.1 true)],[(0,.sl Yo c),(3,.sl rS g.To),(4,.sl (Yk Yo) g.ZC)],8⟩) (fun n st=>Qn rc e f (Rf N rc c n12) g n st.1 st.2) (r:=r) (fun _=>rfl) ?_ (fun ih=>?_))
  ·intro n14 ih21
   rintro ⟨m,o⟩ h
   unfold Qn at h
   refine ZQ J 5 h (fun h=>wa J 2 (ZK [] (j19 m h))) fun h=>?_
   refine wO J 6 h fun p q h=>Yb J (YQ Yo) q ?_
   refine wO J 7 h fun t u h=>ZO (rcT p _ u) [] [(0,.sl 9)] (YB J [10] (YQ ZR) ([t]:List (List ZJ)) ?_)
   have ⟨v,x,h⟩:=ob h
   exact YK J (Yk ZR) x (wa J 2 (Yr (wa J 5 (ZK [(7,.sl 12)] (ih21 (v,(ZM (o+1))) h)))))
  exact ZK [(7,.nil)] (ih N (([]:List (List ZJ)),0) h)
 exact ZK [(1,.nil)] (ih N (([]:List ZJ),0) h)
theorem Zsf:∀ (N:Nat) (c:(List ZT)) (r:(List ZJ)) (h:ZbY N c=some r),Fn Tryz.prog 20 ⟨1,[.S 0],[(0,.sl Yo c)],[],2,.S 1,[],[(1,.own ZR r true)]⟩:=by
 intro N
 induction N with
 | zero=>intros;rename_i h;cases h
 | succ N ih=>intro c r h;exact Zsd N (ZbY N) ih c r h
theorem Zse (N:Nat) (c:(List ZT)) (r:(List ZJ)) (h:z20 N c=some r):Fn Tryz.prog 20 ⟨1,[.S 0],[(0,.sl Yo c)],[],2,.S 1,[],[(1,.own ZR r true)]⟩:=Zsf N c r h
theorem Zq7 (N:Nat) (c:(List ZU)) (r:(List ZL)) (h:Gf N c=some r) :
 Fn Tryz.prog 10 ⟨1,[.S 0],[(0,.sl Yp c)],[],2,.S 1,[],[(1,.own ZV r true)]⟩:=by
 refine Z5 func10 rfl (fun E F w=>?_)
 unfold Gf at h
 refine wa J 15 (Z2 (σ:=(List ZL)) (fun st=>⟨[(3,.S 1)],[(1,.own ZV st true)],[(0,.sl Yp c)],2⟩) (fun st=>ZaL st=some r) ?_ (fun j1=>?_))
 ·intro d h
  unfold ZaL at h
  exact oi h▸wr J 5 func10 [(1,.sl 1)]
 refine wa J 1 (Yc (σ:=(List ZL) × Int) (fun st=>⟨[(3,.S 1),(12,.S 0),(13,.I (c.length:Int)),(14,.I st.2)],[(1,.own ZV st.1 true)],[(0,.sl Yp c)],2⟩) (fun n st=>Tn N c n st.1 st.2) (r:=r) (fun _=>rfl) ?_ (fun ih=>?_))
 ·intro n72 ih66
  rintro ⟨e,f⟩ h
  unfold Tn at h
  refine ZQ J 5 h (fun h=>wa J 2 (ZK [] (j1 e h))) fun h=>?_
  refine wO J 6 h fun g i h=>Yb J Wv i ?_
  refine wO J 12 h fun j k h=>ZO (Zse N g.ZF _ k) [] [(0,.sl 5)] (wa J 3 (Yr (wa J 8 (Z2 (σ:=(List ZS)) (fun st=>⟨[(3,.S 1),(6,.B 8 0),(12,.S 0),(13,.I (c.length:Int)),(14,.I f)],[(1,.own ZV e true),(7,.own ZR j true),(8,.box [.s g.Zt,.sl 3,.sl 9,.sl 7] 35),(9,.own YE st true)],[(0,.sl Yp c),(3,.sl rS g.ZD)],10⟩) (fun st=>Gl e f (Tn N c n72) g j st=some r) ?_ (fun j109=>?_)))))
  ·intro l h
   unfold Gl at h
   refine wa J 3 (YB J [9,7] X2 ([(⟨g.Zt,g.ZD,l,j⟩:ZL)]:List ZL) ?_)
   have ⟨m,o,h⟩:=ob h
   exact YK J ZV o (wa J 7 (ZK [(1,.sl 11)] (ih66 (m,(ZM (f+1))) h)))
  refine wa J 1 (Yc (σ:=(List ZS) × Int) (fun st=>⟨[(3,.S 1),(6,.B 8 0),(12,.S 0),(13,.I (c.length:Int)),(14,.I f),(27,.S 4),(28,.I (g.ZE.length:Int)),(29,.I st.2)],[(1,.own ZV e true),(7,.own ZR j true),(8,.box [.s g.Zt,.sl 3,.sl 9,.sl 7] 35),(9,.own YE st.1 true)],[(0,.sl Yp c),(3,.sl rS g.ZD),(4,.sl Xp g.ZE)],10⟩) (fun n st=>Sb N e f (Tn N c n72) g j n st.1 st.2) (r:=r) (fun _=>rfl) ?_ (fun ih=>?_))
  ·intro n84 ih120
   rintro ⟨p,q⟩ h
   unfold Sb at h
   refine ZQ J 5 h (fun h=>wa J 2 (ZK [] (j109 p h))) fun h=>?_
   refine wO J 6 h fun t u h=>Yb J SL u (wa J 22 (Z2 (σ:=(List YM)) (fun st=>⟨[(3,.S 1),(6,.B 8 0),(9,.B 14 0),(12,.S 0),(13,.I (c.length:Int)),(14,.I f),(27,.S 4),(28,.I (g.ZE.length:Int)),(29,.I q)],[(1,.own ZV e true),(7,.own ZR j true),(8,.box [.s g.Zt,.sl 3,.sl 9,.sl 7] 35),(9,.own YE p true),(14,.box [.s t.Zt,.sl 11,.sl 15] 32),(15,.own Vt st true)],[(0,.sl Yp c),(3,.sl rS g.ZD),(4,.sl Xp g.ZE),(11,.sl Xs t.Zy)],16⟩) (fun st=>Gm p q (Sb N e f (Tn N c n72) g j n84) t st=some r) ?_ (fun j127=>?_)))
   ·intro v h
    unfold Gm at h
    refine wa J 4 (YB J [15] VU ([(⟨t.Zt,t.Zy,v⟩:ZS)]:List ZS) ?_)
    have ⟨x,y,h⟩:=ob h
    exact YK J YE y (wa J 8 (ZK [(9,.sl 17)] (ih120 (x,(ZM (q+1))) h)))
   refine wa J 1 (Yc (σ:=(List YM) × Int) (fun st=>⟨[(3,.S 1),(6,.B 8 0),(9,.B 14 0),(12,.S 0),(13,.I (c.length:Int)),(14,.I f),(27,.S 4),(28,.I (g.ZE.length:Int)),(29,.I q),(39,.S 12),(40,.I (t.Zz.length:Int)),(41,.I st.2)],[(1,.own ZV e true),(7,.own ZR j true),(8,.box [.s g.Zt,.sl 3,.sl 9,.sl 7] 35),(9,.own YE p true),(14,.box [.s t.Zt,.sl 11,.sl 15] 32),(15,.own Vt st.1 true)],((0,.sl Yp c)::(3,.sl rS g.ZD)::(4,.sl Xp g.ZE)::Wk 11 12 t []),16⟩) (fun n st=>R7 p q (Sb N e f (Tn N c n72) g j n84) t n st.1 st.2) (r:=r) (fun _=>rfl) ?_ (fun ih=>?_))
   ·intro n86 ih129
    rintro ⟨z,A⟩ h
    unfold R7 at h
    refine ZQ J 5 h (fun h=>wa J 2 (ZK [] (j127 z h))) fun h=>?_
    refine wO J 6 h fun C D h=>Yb J MY D (wa J 14 (YB J [] RS ([(⟨C.Zw,C.Op,C.Zx⟩:YM)]:List YM) ?_))
    have ⟨G,H,h⟩:=ob h
    exact YK J Vt H (wa J 8 (ZK [(15,.sl 19)] (ih129 (G,(ZM (A+1))) h)))
   exact ZK [(15,.nil)] (ih N (([]:List YM),0) h)
  exact ZK [(9,.nil)] (ih N (([]:List ZS),0) h)
 exact ZK [(1,.nil)] (ih N (([]:List ZL),0) h)
theorem ZkF (N:Nat) (d:Int) (r:Bool) (h:z218 N d=some r) :
 Fn Tryz.prog 218 ⟨0,[.c (.i .u8 d)],[],[],0,.O r,[],[]⟩:=by
 refine Z5 func218 rfl (fun E F w=>?_)
 unfold z218 at h
 refine ZQ J 9 h (fun h=>?_) fun h=>?_
 ·exact wB J 7 h (fun h=>oi h▸wr J 6 func218 []) fun h=>oi h▸wr J 6 func218 []
 refine wB J 4 h (fun h=>oi h▸wr J 9 func218 []) fun h=>?_
 exact wB J 3 h (fun h=>oi h▸wr J 6 func218 []) fun h=>oi h▸wr J 6 func218 []
theorem Zsp (N:Nat) (d:Int) (r:Bool) (h:ZfD N d=some r) :
 Fn Tryz.prog 230 ⟨0,[.c (.i .u8 d)],[],[],0,.O r,[],[]⟩:=by
 refine Z5 func230 rfl (fun E F w=>?_)
 unfold ZfD at h
 exact wB J 9 h (fun h=>oi h▸wr J 5 func230 []) fun h=>oi h▸wr J 5 func230 []
theorem Zsj (N:Nat) (d:Int) (r:Bool) (h:Zfy N d=some r) :
 Fn Tryz.prog 219 ⟨0,[.c (.i .u8 d)],[],[],0,.O r,[],[]⟩:=by
 refine Z5 func219 rfl (fun E F w=>?_)
 unfold Zfy at h
 refine wO J 7 h fun e f h=>ZO (ZkF N d _ f) [] [] ?_
 refine wB J 1 h (fun h=>oi h▸wr J 9 func219 []) fun h=>?_
 refine wO J 1 h fun g j h=>ZO (Zsp N d _ j) [] [] ?_
 exact wB J 2 h (fun h=>oi h▸wr J 5 func219 []) fun h=>oi h▸wr J 5 func219 []
theorem Zr5 (N:Nat) (d:ByteArray) (r:Bool) (h:LW N d=some r) :
 Fn Tryz.prog 193 ⟨0,[.c (.s d)],[],[],0,.O r,[],[]⟩:=by
 refine Z5 func193 rfl (fun E F w=>?_)
 unfold LW at h
 refine wB J 10 h (fun h=>oi h▸wr J 16 func193 []) fun h=>?_
 refine wO J 1 h fun e f h=>XG J f ?_
 have ⟨g,i,h⟩:=ob h
 refine ZO (ZkF N e _ i) [] [] ?_
 refine wB J 3 h (fun h=>oi h▸wr J 10 func193 []) fun h=>?_
 refine wB J 5 h (fun h=>oi h▸wr J 5 func193 []) fun h=>wa J 7 (Z2 (σ:=Unit) (fun st=>(WH [])) (fun st=>Zfs=some r) ?_ (fun j1=>?_))
 ·intro _ h
  unfold Zfs at h
  exact oi h▸wr J 4 func193 []
 refine wa J 1 (Yc (σ:=Int) (fun st=>(WH [(0,.c (.s d)),(3,.I st)])) (fun n st=>LX N d n st) (r:=r) (fun _=>rfl) ?_ (fun ih=>?_))
 ·intro n2 ih3
  intro j h
  unfold LX at h
  refine ZQ J 8 h (fun h=>wa J 2 (ZK [] (j1 () h))) fun h=>?_
  refine wO J 8 h fun k l h=>XG J l ?_
  have ⟨m,o,h⟩:=ob h
  refine ZO (Zsj N k _ o) [] [] ?_
  exact wB J 2 h (fun h=>oi h▸wr J 5 func193 []) fun h=>wa J 8 (ZK [] (ih3 (ZM (j+1)) h))
 exact ZK [] (ih N 0 h)
theorem Zr7 (N:Nat) (r:(List ByteArray)) (h:ZbS N=some r) :
 Fn Tryz.prog 195 ⟨0,[],[],[],1,.S 0,[],[(0,.own rS r true)]⟩:=by
 refine Z5 func195 rfl (fun E F w=>?_)
 unfold ZbS at h
 refine wa J 6 (YB J [] oS ([(str [97,103,97,105,110]),(str [97,110,100]),(str [97,115]),(str [97,116]),(str [99,97,108,108]),(str [99,104,111,105,99,101]),(str [101,108,115,101]),(str [102,114,111,109]),(str [105,102]),(str [105,110,116]),(str [108,101,110]),(str [108,111,111,112]),(str [109,101,115,115,97,103,101]),(str [111,102]),(str [111,102,102,101,114]),(str [111,110]),(str [111,114]),(str [112,97,114]),(str [112,108,97,121,115]),(str [112,114,111,116,111,99,111,108]),(str [115,101,114,118,105,99,101]),(str [116,101,120,116]),(str [116,105,109,101,115]),(str [116,111]),(str [118,97,114]),(str [119,104,101,114,101]),(str [119,104,105,108,101]),(str [119,105,116,104,105,110])]:List ByteArray) ?_)
 exact oi h▸wr J 2 func195 [(0,.sl 0)]
theorem Zr6 (N:Nat) (d:(List ByteArray)) (e:ByteArray) (r:Bool) (h:G5 N d e=some r) :
 Fn Tryz.prog 194 ⟨1,[.S 0,.c (.s e)],[(0,.sl rS d)],[],1,.O r,[],[]⟩:=by
 refine Z5 func194 rfl (fun E F w=>?_)
 unfold G5 at h
 refine wa J 9 (Z2 (σ:=Unit) (fun st=>(V9 d [])) (fun st=>ZbR=some r) ?_ (fun j1=>?_))
 ·intro _ h
  unfold ZbR at h
  exact oi h▸wr J 4 func194 []
 refine wa J 1 (Yc (σ:=Int) (fun st=>(V9 d [(0,.S 0),(1,.c (.s e)),(5,.I st)])) (fun n st=>PO d e n st) (r:=r) (fun _=>rfl) ?_ (fun ih=>?_))
 ·intro n2 ih3
  intro f h
  unfold PO at h
  refine ZQ J 8 h (fun h=>wa J 2 (ZK [] (j1 () h))) fun h=>?_
  refine wO J 8 h fun g i h=>Yb J oS i ?_
  exact wB J 4 h (fun h=>oi h▸wr J 5 func194 []) fun h=>wa J 8 (ZK [] (ih3 (ZM (f+1)) h))
 exact ZK [] (ih N 0 h)
theorem ZrL (N:Nat) (d:ByteArray) (r:Bool) (h:PD N d=some r) :
 Fn Tryz.prog 158 ⟨0,[.c (.s d)],[],[],0,.O r,[],[]⟩:=by
 refine Z5 func158 rfl (fun E F w=>?_)
 unfold PD at h
 refine wO J 7 h fun e f h=>ZO (Zr5 N d _ f) [] [] ?_
 refine ZQ J 1 h (fun h=>oi h▸wr J 7 func158 []) fun h=>?_
 have ⟨g,i,h⟩:=ob h
 refine ZO (Zr7 N _ i) [] [] ?_
 refine wO J 1 h fun j k h=>Wo (Zr6 N g d _ k) [] [(0,.sl 0)] [0] (.inr ⟨rfl,trivial⟩) ?_
 exact oi h▸wr J 4 func158 []
theorem Sa (N:Nat) (d:ByteArray) (r:Bool) (h:z109 N d=some r) :
 Fn Tryz.prog 109 ⟨0,[.c (.s d)],[],[],0,.O r,[],[]⟩:=by
 refine Z5 func109 rfl (fun E F w=>?_)
 unfold z109 at h
 refine wO J 7 h fun e f h=>ZO (ZrL N d _ f) [] [] ?_
 exact oi h▸wr J 2 func109 []
theorem Ze2 (N:Nat) (c:(List ByteArray)) (d:Int) (r:Bool) (h:Pf N c d=some r) :
 Fn Tryz.prog 110 ⟨1,[.S 0,.I d],[(0,.sl rS c)],[],1,.O r,[],[]⟩:=by
 refine Z5 func110 rfl (fun E F w=>?_)
 unfold Pf at h
 refine wa J 9 (Z2 (σ:=Unit) (fun st=>(V9 c [(0,.S 0),(1,.I d)])) (fun st=>ZaM c d=some r) ?_ (fun j1=>?_))
 ·intro _ h
  unfold ZaM at h
  exact wB J 6 h (fun h=>oi h▸wr J 7 func110 []) fun h=>oi h▸wr J 7 func110 []
 refine wa J 1 (Yc (σ:=Int) (fun st=>(V9 c [(0,.S 0),(1,.I d),(5,.I st)])) (fun n st=>Lr N c d n st) (r:=r) (fun _=>rfl) ?_ (fun ih=>?_))
 ·intro n2 ih3
  intro e h
  unfold Lr at h
  refine ZQ J 8 h (fun h=>wa J 2 (ZK [] (j1 () h))) fun h=>?_
  refine wO J 8 h fun f g h=>Yb J oS g ?_
  refine wO J 1 h fun i j h=>ZO (Sa N f _ j) [] [] ?_
  exact wB J 2 h (fun h=>oi h▸wr J 5 func110 []) fun h=>wa J 8 (ZK [] (ih3 (ZM (e+1)) h))
 exact ZK [] (ih N 0 h)
theorem Zq8 (N:Nat) (rc:(List ZT)->Option Int) (rcT:(∀ (c:(List ZT)) (r:Int),rc c=some r->Fn Tryz.prog 111 ⟨1,[.S 0],[(0,.sl Yo c)],[],1,.I r,[],[]⟩)) (c:(List ZT)) (r:Int) (h:Gq N rc c=some r) :
 Fn Tryz.prog 111 ⟨1,[.S 0],[(0,.sl Yo c)],[],1,.I r,[],[]⟩:=by
 refine Z5 func111 rfl (fun E F w=>?_)
 unfold Gq at h
 refine wa J 13 (Z2 (σ:=Int) (fun st=>(Ua c [(3,.I st)])) (fun st=>ZaN st=some r) ?_ (fun j1=>?_))
 ·intro d h
  unfold ZaN at h
  exact oi h▸wr J 5 func111 []
 refine wa J 1 (Yc (σ:=Int × Int) (fun st=>(Ua c [(0,.S 0),(3,.I st.1),(4,.I st.2)])) (fun n st=>S3 N rc c n st.1 st.2) (r:=r) (fun _=>rfl) ?_ (fun ih=>?_))
 ·intro n12 ih12
  rintro ⟨e,f⟩ h
  unfold S3 at h
  refine ZQ J 8 h (fun h=>wa J 2 (ZK [] (j1 e h))) fun h=>wa J 13 (Z2 (σ:=Int) (fun st=>(Ua c [(0,.S 0),(3,.I e),(4,.I f),(5,.I st)])) (fun st=>ZaO e f (S3 N rc c n12) st=some r) ?_ (fun j19=>?_))
  ·intro g h
   unfold ZaO at h
   exact wa J 13 (ZK [] (ih12 ((Uk e (ZM (g+1))),(ZM (f+1))) h))
  refine wa J 1 (Yc (σ:=Int × Int) (fun st=>(Ua c [(0,.S 0),(3,.I e),(4,.I f),(5,.I st.1),(6,.I st.2)])) (fun n st=>R8 rc c e f (S3 N rc c n12) n st.1 st.2) (r:=r) (fun _=>rfl) ?_ (fun ih=>?_))
  ·intro n14 ih21
   rintro ⟨i,j⟩ h
   unfold R8 at h
   refine wO J 6 h fun k l h=>Yb J VT l ?_
   refine ZQ J 5 h (fun h=>wa J 2 (ZK [] (j19 i h))) fun h=>?_
   refine wO J 8 h fun m o h=>Yb J VT o ?_
   refine wO J 3 h fun p q h=>Yb J (YQ Yo) q ?_
   exact wO J 1 h fun s t h=>ZO (rcT p _ t) [] [(0,.sl 8)] (wa J 9 (ZK [] (ih21 ((Uk i s),(ZM (j+1))) h)))
  exact ZK [] (ih N (0,0) h)
 exact ZK [] (ih N (0,0) h)
theorem Zra:∀ (N:Nat) (c:(List ZT)) (r:Int) (h:ZaP N c=some r),Fn Tryz.prog 111 ⟨1,[.S 0],[(0,.sl Yo c)],[],1,.I r,[],[]⟩:=by
 intro N
 induction N with
 | zero=>intros;rename_i h;cases h
 | succ N ih=>intro c r h;exact Zq8 N (ZaP N) ih c r h
theorem Zq9 (N:Nat) (c:(List ZT)) (r:Int) (h:Pg N c=some r):Fn Tryz.prog 111 ⟨1,[.S 0],[(0,.sl Yo c)],[],1,.I r,[],[]⟩:=Zra N c r h
theorem LM (N:Nat) (d:ByteArray) (r:Bool) (h:Tu N d=some r) :
 Fn Tryz.prog 162 ⟨0,[.c (.s d)],[],[],0,.O r,[],[]⟩:=by
 refine Z5 func162 rfl (fun E F w=>?_)
 unfold Tu at h
 refine wa J 13 (Z2 (σ:=Unit) (fun st=>(WH [(0,.c (.s d))])) (fun st=>GU d=some r) ?_ (fun j1=>?_))
 ·intro _ h
  unfold GU at h
  exact oi h▸wr J 7 func162 []
 refine wa J 1 (Yc (σ:=Int × Int) (fun st=>(WH [(0,.c (.s d)),(3,.I st.1),(4,.I st.2)])) (fun n st=>Se N d n st.1 st.2) (r:=r) (fun _=>rfl) ?_ (fun ih=>?_))
 ·intro n2 ih6
  rintro ⟨e,f⟩ h
  unfold Se at h
  refine ZQ J 8 h (fun h=>wa J 2 (ZK [] (j1 () h))) fun h=>?_
  refine wa J 11 (Z2 (σ:=Bool) (fun st=>(WH [(0,.c (.s d)),(3,.I e),(4,.I f),(20,.O st)])) (fun st=>PF N d e f (Se N d n2) st=some r) ?_ (fun j9=>?_))
  ·intro g h
   unfold PF at h
   refine YZ h (fun h=>wa J 8 (ZK [] (ih6 (e,(ZM (f+1))) h))) fun h=>?_
   refine wO J 7 h fun i j h=>Vn J j ?_
   have ⟨k,l,h⟩:=ob h
   refine ZO (Sa N i _ l) [] [] ?_
   exact wB J 2 h (fun h=>oi h▸wr J 5 func162 []) fun h=>wa J 13 (ZK [] (ih6 ((ZM (f+1)),(ZM (f+1))) h))
  refine eB h (fun h=>wa J 6 (ZK [] (j9 true h))) fun h=>?_
  exact wO J 2 h fun m o h=>XG J o (wa J 3 (ZK [] (j9 (m==46) h)))
 exact ZK [] (ih N (0,0) h)
theorem ZrM (N:Nat) (rc:(List ZT)->Option Bool) (rcT:(∀ (c:(List ZT)) (r:Bool),rc c=some r->Fn Tryz.prog 112 ⟨1,[.S 0],[(0,.sl Yo c)],[],1,.O r,[],[]⟩)) (d:ZT) (r:Bool) (h:GS N rc d=some r) :
 Fn Tryz.prog 159 ⟨2,[.a [.I d.Zq,.s d.ZA,.sl 0,.s d.Zt,.s d.As,.I d.ZB,.sl 1]],[(0,.sl rS d.To),(1,.sl (Yk Yo) d.ZC)],[],2,.O r,[],[]⟩:=by
 refine Z5 func159 rfl (fun E F w=>?_)
 unfold GS at h
 refine wa J 28 (Z2 (σ:=Bool) (fun st=>(Hz d.Zq d.ZA d.Zt d.As d.ZB d.To d.ZC [(1,.B 2 0),(3,.I (d.ZC.length:Int)),(4,.O st)])) (fun st=>YY N rc d st=some r) ?_ (fun j1=>?_))
 ·intro e h
  unfold YY at h
  refine wa J 6 (Z2 (σ:=Bool) (fun st=>⟨[(4,.O st)],[],[(0,.sl rS d.To),(1,.sl (Yk Yo) d.ZC)],3⟩) (fun st=>LI st=some r) ?_ (fun j3=>?_))
  ·intro f h
   unfold LI at h
   exact oi h▸wr J 5 func159 []
  refine wa J 1 (Yc (σ:=Bool × Int) (fun st=>(Hz d.Zq d.ZA d.Zt d.As d.ZB d.To d.ZC [(1,.B 2 0),(3,.I (d.ZC.length:Int)),(4,.O st.1),(6,.I st.2)])) (fun n st=>PE rc d n st.1 st.2) (r:=r) (fun _=>rfl) ?_ (fun ih=>?_))
  ·intro n2 ih5
   rintro ⟨g,i⟩ h
   unfold PE at h
   refine ZQ J 7 h (fun h=>wa J 5 (ZK [] (j3 g h))) fun h=>?_
   refine ZQ J 3 h (fun h=>wa J 2 (ZK [] (j3 g h))) fun h=>?_
   refine wO J 8 h fun j k h=>Yb J (YQ Yo) k ?_
   exact wO J 1 h fun l m h=>ZO (rcT j _ m) [] [(0,.sl 4)] (wa J 8 (ZK [] (ih5 (l,(ZM (i+1))) h)))
  exact ZK [] (ih N (e,0) h)
 refine eB h (fun h=>?_) fun h=>?_
 ·refine wO J 4 h fun o p h=>ZO (Sa N d.ZA _ p) [] [] ?_
  refine ZQ J 1 h (fun h=>wa J 25 (ZK [] (j1 false h))) fun h=>?_
  refine wO J 2 h fun q t h=>ZO (Ze2 N d.To 5 _ t) [] [(0,.sl 0)] ?_
  refine ZQ J 2 h (fun h=>wa J 20 (ZK [] (j1 false h))) fun h=>?_
  refine wO J 2 h fun u v h=>ZO (LM N d.Zt _ v) [] [] ?_
  refine ZQ J 2 h (fun h=>wa J 15 (ZK [] (j1 false h))) fun h=>?_
  refine ZQ J 5 h (fun h=>wa J 10 (ZK [] (j1 false h))) fun h=>?_
  exact wB J 5 h (fun h=>wa J 5 (ZK [] (j1 ((d.ZC.length:Int)==0) h))) fun h=>wa J 5 (ZK [] (j1 false h))
 obtain ⟨K,h⟩|⟨K,h⟩:=oc h
 ·refine wH J 6 K (wa J 12 (Z2 (σ:=Int) (fun st=>(Hz d.Zq d.ZA d.Zt d.As d.ZB d.To d.ZC [(1,.B 2 0),(3,.I (d.ZC.length:Int)),(5,.I st)])) (fun st=>LJ N rc d st=some r) ?_ (fun j6=>?_)))
  ·intro x h
   unfold LJ at h
   refine wO J 3 h fun y z h=>ZO (Sa N d.ZA _ z) [] [] ?_
   refine ZQ J 1 h (fun h=>wa J 36 (ZK [] (j1 false h))) fun h=>?_
   refine ZQ J 6 h (fun h=>wa J 30 (ZK [] (j1 false h))) fun h=>?_
   refine ZQ J 5 h (fun h=>wa J 25 (ZK [] (j1 false h))) fun h=>?_
   refine ZQ J 5 h (fun h=>wa J 20 (ZK [] (j1 false h))) fun h=>?_
   refine ZQ J 5 h (fun h=>wa J 15 (ZK [] (j1 false h))) fun h=>?_
   refine ZQ J 5 h (fun h=>wa J 10 (ZK [] (j1 false h))) fun h=>?_
   exact wB J 5 h (fun h=>wa J 5 (ZK [] (j1 (decide ((d.ZC.length:Int)<=8)) h))) fun h=>wa J 5 (ZK [] (j1 false h))
  exact eB h (fun h=>wa J 4 (ZK [] (j6 2 h))) fun h=>wa J 2 (ZK [] (j6 1 h))
 refine wH J 6 K ?_
 refine wB J 6 h (fun h=>?_) fun h=>?_
 ·refine ZQ J 6 h (fun h=>wa J 26 (ZK [] (j1 false h))) fun h=>?_
  refine ZQ J 6 h (fun h=>wa J 20 (ZK [] (j1 false h))) fun h=>?_
  refine wO J 2 h fun A C h=>ZO (LM N d.Zt _ C) [] [] ?_
  refine ZQ J 2 h (fun h=>wa J 15 (ZK [] (j1 false h))) fun h=>?_
  refine ZQ J 5 h (fun h=>wa J 10 (ZK [] (j1 false h))) fun h=>?_
  exact wB J 5 h (fun h=>wa J 5 (ZK [] (j1 ((d.ZC.length:Int)==1) h))) fun h=>wa J 5 (ZK [] (j1 false h))
 refine wB J 6 h (fun h=>?_) fun h=>?_
 ·refine ZQ J 6 h (fun h=>wa J 26 (ZK [] (j1 false h))) fun h=>?_
  refine ZQ J 6 h (fun h=>wa J 20 (ZK [] (j1 false h))) fun h=>?_
  refine wO J 2 h fun D G h=>ZO (LM N d.Zt _ G) [] [] ?_
  refine ZQ J 2 h (fun h=>wa J 15 (ZK [] (j1 false h))) fun h=>?_
  refine ZQ J 5 h (fun h=>wa J 10 (ZK [] (j1 false h))) fun h=>?_
  exact wB J 5 h (fun h=>wa J 5 (ZK [] (j1 ((d.ZC.length:Int)==0) h))) fun h=>wa J 5 (ZK [] (j1 false h))
 refine wB J 6 h (fun h=>?_) fun h=>?_
 ·refine ZQ J 6 h (fun h=>wa J 30 (ZK [] (j1 false h))) fun h=>?_
  refine ZQ J 6 h (fun h=>wa J 24 (ZK [] (j1 false h))) fun h=>?_
  refine ZQ J 5 h (fun h=>wa J 19 (ZK [] (j1 false h))) fun h=>?_
  refine ZQ J 5 h (fun h=>wa J 14 (ZK [] (j1 false h))) fun h=>?_
  refine ZQ J 5 h (fun h=>wa J 9 (ZK [] (j1 false h))) fun h=>?_
  exact wB J 4 h (fun h=>wa J 5 (ZK [] (j1 (decide ((d.ZC.length:Int)<=8)) h))) fun h=>wa J 5 (ZK [] (j1 false h))
 refine ZQ J 6 h (fun h=>wa J 2 (ZK [] (j1 false h))) fun h=>?_
 refine ZQ J 6 h (fun h=>wa J 25 (ZK [] (j1 false h))) fun h=>?_
 refine wO J 2 h fun H R h=>ZO (Ze2 N d.To 6 _ R) [] [(0,.sl 0)] ?_
 refine ZQ J 2 h (fun h=>wa J 20 (ZK [] (j1 false h))) fun h=>?_
 refine wO J 2 h fun T U h=>ZO (Sa N d.Zt _ U) [] [] ?_
 refine ZQ J 2 h (fun h=>wa J 15 (ZK [] (j1 false h))) fun h=>?_
 refine wO J 2 h fun X Y h=>ZO (Sa N d.As _ Y) [] [] ?_
 refine ZQ J 2 h (fun h=>wa J 10 (ZK [] (j1 false h))) fun h=>?_
 exact wB J 5 h (fun h=>wa J 5 (ZK [] (j1 ((d.ZC.length:Int)==0) h))) fun h=>wa J 5 (ZK [] (j1 false h))
theorem Zrb (N:Nat) (rc:(List ZT)->Option Bool) (rcT:(∀ (c:(List ZT)) (r:Bool),rc c=some r->Fn Tryz.prog 112 ⟨1,[.S 0],[(0,.sl Yo c)],[],1,.O r,[],[]⟩)) (c:(List ZT)) (r:Bool) (h:Gr N rc c=some r) :
 Fn Tryz.prog 112 ⟨1,[.S 0],[(0,.sl Yo c)],[],1,.O r,[],[]⟩:=by
 refine Z5 func112 rfl (fun E F w=>?_)
 unfold Gr at h
 refine wa J 9 (Z2 (σ:=Unit) (fun st=>(Ua c [])) (fun st=>ZaR=some r) ?_ (fun j1=>?_))
 ·intro _ h
  unfold ZaR at h
  exact oi h▸wr J 4 func112 []
 refine wa J 1 (Yc (σ:=Int) (fun st=>(Ua c [(0,.S 0),(3,.I st)])) (fun n st=>Ls N rc c n st) (r:=r) (fun _=>rfl) ?_ (fun ih=>?_))
 ·intro n2 ih3
  intro d h
  unfold Ls at h
  refine ZQ J 8 h (fun h=>wa J 2 (ZK [] (j1 () h))) fun h=>?_
  refine wO J 8 h fun e f h=>Yb J VT f ?_
  refine wO J 1 h fun g i h=>ZO (ZrM N rc rcT e _ i) [] [(0,.sl 2),(1,.sl 3)] ?_
  exact wB J 2 h (fun h=>oi h▸wr J 5 func112 []) fun h=>wa J 8 (ZK [] (ih3 (ZM (d+1)) h))
 exact ZK [] (ih N 0 h)
theorem Zrd:∀ (N:Nat) (c:(List ZT)) (r:Bool) (h:ZaS N c=some r),Fn Tryz.prog 112 ⟨1,[.S 0],[(0,.sl Yo c)],[],1,.O r,[],[]⟩:=by
 intro N
 induction N with
 | zero=>intros;rename_i h;cases h
 | succ N ih=>intro c r h;exact Zrb N (ZaS N) ih c r h
theorem Zrc (N:Nat) (c:(List ZT)) (r:Bool) (h:ZaQ N c=some r):Fn Tryz.prog 112 ⟨1,[.S 0],[(0,.sl Yo c)],[],1,.O r,[],[]⟩:=Zrd N c r h
theorem Zff (N:Nat) (c:Int) (r:Bool) (h:LK N c=some r) :
 Fn Tryz.prog 160 ⟨0,[.I c],[],[],0,.O r,[],[]⟩:=by
 refine Z5 func160 rfl (fun E F w=>?_)
 unfold LK at h
 exact wB J 9 h (fun h=>oi h▸wr J 5 func160 []) fun h=>oi h▸wr J 5 func160 []
theorem ZkC (N:Nat) (c:Ys) (r:Bool) (h:LL N c=some r) :
 Fn Tryz.prog 161 ⟨0,[.a (XE c)],[],[],0,.O r,[],[]⟩:=by
 refine Z5 func161 rfl (fun E F w=>?_)
 unfold LL at h
 refine wO J 10 h fun d e h=>ZO (Zff N c.N _ e) [] [] ?_
 refine wB J 2 h (fun h=>oi h▸wr J 5 func161 []) fun h=>?_
 refine wB J 9 h (fun h=>?_) fun h=>?_
 ·exact wB J 7 h (fun h=>oi h▸wr J 6 func161 []) fun h=>oi h▸wr J 6 func161 []
 refine wB J 8 h (fun h=>?_) fun h=>?_
 ·refine wO J 7 h fun f g h=>ZO (Sa N c.Field _ g) [] [] ?_
  refine ZQ J 2 h (fun h=>oi h▸wr J 11 func161 []) fun h=>?_
  refine wB J 4 h (fun h=>oi h▸wr J 7 func161 []) fun h=>?_
  refine wO J 2 h fun i j h=>ZO (LM N c.Zv _ j) [] [] ?_
  exact oi h▸wr J 4 func161 []
 refine ZQ J 5 h (fun h=>oi h▸wr J 16 func161 []) fun h=>?_
 refine wO J 2 h fun k l h=>ZO (Sa N c.Field _ l) [] [] ?_
 refine ZQ J 2 h (fun h=>oi h▸wr J 11 func161 []) fun h=>?_
 refine wB J 4 h (fun h=>oi h▸wr J 7 func161 []) fun h=>?_
 refine wO J 2 h fun m o h=>ZO (LM N c.Zv _ o) [] [] ?_
 exact oi h▸wr J 4 func161 []
theorem Zre (N:Nat) (c:Yi) (r:Bool) (h:Gs N c=some r) :
 Fn Tryz.prog 113 ⟨2,[.a [.s c.Zt,.sl 0,.sl 1]],(Wk 0 1 c []),[],2,.O r,[],[]⟩:=by
 refine Z5 func113 rfl (fun E F w=>?_)
 unfold Gs at h
 refine wa J 10 (Z2 (σ:=Unit) (fun st=>(QC c.Zt c [(1,.B 2 0)])) (fun st=>ZaU N c=some r) ?_ (fun j1=>?_))
 ·intro _ h
  unfold ZaU at h
  refine wa J 5 (Z2 (σ:=Unit) (fun st=>(QC c.Zt c [(1,.B 2 0)])) (fun st=>ZaT N c=some r) ?_ (fun j3=>?_))
  ·intro _ h
   unfold ZaT at h
   refine wO J 4 h fun d e h=>ZO (LM N c.Zt _ e) [] [] ?_
   refine ZQ J 1 h (fun h=>oi h▸wr J 13 func113 []) fun h=>?_
   exact wB J 6 h (fun h=>oi h▸wr J 7 func113 []) fun h=>oi h▸wr J 7 func113 []
  refine wa J 1 (Yc (σ:=Int) (fun st=>(QC c.Zt c [(1,.B 2 0),(5,.I st)])) (fun n st=>Tp N c n st) (r:=r) (fun _=>rfl) ?_ (fun ih=>?_))
  ·intro n3 ih5
   intro f h
   unfold Tp at h
   refine ZQ J 9 h (fun h=>wa J 2 (ZK [] (j3 () h))) fun h=>?_
   refine wO J 9 h fun g i h=>Yb J MY i ?_
   refine wO J 8 h fun j k h=>ZO (ZkC N g.Zw _ k) [] [] ?_
   refine wB J 2 h (fun h=>oi h▸wr J 36 func113 []) fun h=>?_
   refine wO J 2 h fun l m h=>ZO (ZkC N g.Zx _ m) [] [] ?_
   refine wB J 3 h (fun h=>oi h▸wr J 30 func113 []) fun h=>?_
   refine ZQ J 4 h (fun h=>wa J 29 (ZK [] (ih5 (ZM (f+1)) h))) fun h=>?_
   refine ZQ J 5 h (fun h=>wa J 24 (ZK [] (ih5 (ZM (f+1)) h))) fun h=>?_
   refine ZQ J 5 h (fun h=>wa J 19 (ZK [] (ih5 (ZM (f+1)) h))) fun h=>?_
   refine ZQ J 5 h (fun h=>wa J 14 (ZK [] (ih5 (ZM (f+1)) h))) fun h=>?_
   exact wB J 6 h (fun h=>oi h▸wr J 5 func113 []) fun h=>wa J 8 (ZK [] (ih5 (ZM (f+1)) h))
  exact ZK [] (ih N 0 h)
 refine wa J 1 (Yc (σ:=Int) (fun st=>(QC c.Zt c [(1,.B 2 0),(3,.I st)])) (fun n st=>Tq N c n st) (r:=r) (fun _=>rfl) ?_ (fun ih=>?_))
 ·intro n4 ih6
  intro o h
  unfold Tq at h
  refine ZQ J 9 h (fun h=>wa J 2 (ZK [] (j1 () h))) fun h=>?_
  refine wO J 9 h fun p q h=>Yb J W9 q ?_
  refine wO J 10 h fun t u h=>Yb J W9 u ?_
  refine wO J 2 h fun v x h=>ZO (Sa N t.Zt _ x) [] [] ?_
  refine wB J 2 h (fun h=>oi h▸wr J 42 func113 []) fun h=>?_
  refine wO J 2 h fun y z h=>ZO (Zff N p.Zu.Lo _ z) [] [] ?_
  refine wB J 3 h (fun h=>oi h▸wr J 36 func113 []) fun h=>?_
  refine wO J 2 h fun A C h=>ZO (Zff N p.Zu.Hi _ C) [] [] ?_
  refine wB J 3 h (fun h=>oi h▸wr J 30 func113 []) fun h=>?_
  refine ZQ J 4 h (fun h=>?_) fun h=>?_
  ·refine ZQ J 10 h (fun h=>wa J 19 (ZK [] (ih6 (ZM (o+1)) h))) fun h=>?_
   refine wB J 4 h (fun h=>oi h▸wr J 12 func113 []) fun h=>?_
   exact wB J 7 h (fun h=>oi h▸wr J 5 func113 []) fun h=>wa J 8 (ZK [] (ih6 (ZM (o+1)) h))
  refine wB J 6 h (fun h=>oi h▸wr J 20 func113 []) fun h=>?_
  refine ZQ J 4 h (fun h=>wa J 19 (ZK [] (ih6 (ZM (o+1)) h))) fun h=>?_
  refine wB J 4 h (fun h=>oi h▸wr J 12 func113 []) fun h=>?_
  exact wB J 7 h (fun h=>oi h▸wr J 5 func113 []) fun h=>wa J 8 (ZK [] (ih6 (ZM (o+1)) h))
 exact ZK [] (ih N 0 h)
theorem Zfg (N:Nat) (d:(List ByteArray)) (r:ByteArray) (h:PG N d=some r) :
 Fn Tryz.prog 163 ⟨1,[.S 0],[(0,.sl rS d)],[],1,.c (.s r),[],[]⟩:=by
 refine Z5 func163 rfl (fun E F w=>?_)
 unfold PG at h
 refine wa J 13 (Z2 (σ:=ByteArray) (fun st=>(V9 d [(3,.c (.s st))])) (fun st=>Zbz st=some r) ?_ (fun j1=>?_))
 ·intro e h
  unfold Zbz at h
  exact oi h▸wr J 5 func163 []
 refine wa J 1 (Yc (σ:=ByteArray × Int) (fun st=>(V9 d [(0,.S 0),(3,.c (.s st.1)),(4,.I st.2)])) (fun n st=>Qj d n st.1 st.2) (r:=r) (fun _=>rfl) ?_ (fun ih=>?_))
 ·intro n2 ih3
  rintro ⟨f,g⟩ h
  unfold Qj at h
  refine ZQ J 8 h (fun h=>wa J 2 (ZK [] (j1 f h))) fun h=>?_
  refine ZQ J 10 h (fun h=>?_) fun h=>?_
  ·refine wO J 6 h fun i j h=>Yb J oS j ?_
   exact wO J 1 h fun k l h=>Yn l (wa J 8 (ZK [] (ih3 (k,(ZM (g+1))) h)))
  refine wO J 3 h fun m o h=>Yn o ?_
  refine wO J 6 h fun p q h=>Yb J oS q ?_
  exact wO J 1 h fun t u h=>Yn u (wa J 8 (ZK [] (ih3 (t,(ZM (g+1))) h)))
 exact ZK [] (ih N ((str []),0) h)
theorem Zr8 (N:Nat) (rc:Int->Option ByteArray) (rcT:(∀ (d:Int) (r:ByteArray),rc d=some r->Fn Tryz.prog 196 ⟨0,[.I d],[],[],0,.c (.s r),[],[]⟩)) (d:Int) (r:ByteArray) (h:G6 N rc d=some r) :
 Fn Tryz.prog 196 ⟨0,[.I d],[],[],0,.c (.s r),[],[]⟩:=by
 refine Z5 func196 rfl (fun E F w=>?_)
 unfold G6 at h
 refine wB J 12 h (fun h=>?_) fun h=>?_
 ·refine wO J 5 h fun e f h=>ZO (rcT (ZM (d.tdiv 10)) _ f) [] [] (wa J 4 (HL ?_))
  have ⟨g,i,h⟩:=ob h
  refine Yn i ?_
  exact oi h▸wr J 2 func196 []
 refine wB J 7 h (fun h=>wa J 6 (HL ?_)) fun h=>?_
 ·have ⟨j,k,h⟩:=ob h
  refine Yn k ?_
  exact oi h▸wr J 2 func196 []
 refine wB J 7 h (fun h=>wa J 6 (HL (oi h▸wr J 2 func196 []))) fun h=>?_
 refine wO J 7 h fun l m h=>ZO (rcT (ZM (d.tdiv 10)) _ m) [] [] (wa J 4 (HL ?_))
 have ⟨o,p,h⟩:=ob h
 refine Yn p ?_
 exact oi h▸wr J 2 func196 []
theorem Zr9:∀ (N:Nat) (d:Int) (r:ByteArray) (h:Qm N d=some r),Fn Tryz.prog 196 ⟨0,[.I d],[],[],0,.c (.s r),[],[]⟩:=by
 intro N
 induction N with
 | zero=>intros;rename_i h;cases h
 | succ N ih=>intro d r h;exact Zr8 N (Qm N) ih d r h
theorem LY (N:Nat) (d:Int) (r:ByteArray) (h:Sg N d=some r):Fn Tryz.prog 196 ⟨0,[.I d],[],[],0,.c (.s r),[],[]⟩:=Zr9 N d r h
theorem ZkE (N:Nat) (d:Ys) (r:ByteArray) (h:LZ N d=some r) :
 Fn Tryz.prog 197 ⟨0,[.a (XE d)],[],[],0,.c (.s r),[],[]⟩:=by
 refine Z5 func197 rfl (fun E F w=>?_)
 unfold LZ at h
 refine wB J 12 h (fun h=>?_) fun h=>wa J 15 (Z2 (σ:=ByteArray) (fun st=>⟨[(1,.B 0 0),(3,.c (.s st))],[(0,.box (XE d) 73)],[],1⟩) (fun st=>L3 N d st=some r) ?_ (fun j1=>?_))
 ·refine wO J 5 h fun e f h=>ZO (LY N d.N _ f) [] [] ?_
  exact oi h▸wr J 2 func197 []
 ·intro g h
  unfold L3 at h
  refine wa J 7 (Z2 (σ:=ByteArray) (fun st=>⟨[(1,.B 0 0),(3,.c (.s st))],[(0,.box (XE d) 73)],[],1⟩) (fun st=>L2 N d st=some r) ?_ (fun j2=>?_))
  ·intro i h
   unfold L2 at h
   refine wB J 9 h (fun h=>?_) fun h=>?_
   ·refine wO J 5 h fun j k h=>ZO (LY N d.N _ k) [] [] ?_
    have ⟨l,m,h⟩:=ob h
    refine Yn m ?_
    have ⟨o,p,h⟩:=ob h
    refine Yn p ?_
    exact oi h▸wr J 8 func197 []
   refine ZQ J 8 h (fun h=>oi h▸wr J 8 func197 []) fun h=>?_
   refine wO J 6 h fun q t h=>ZO (LY N (ZM (0-d.N)) _ t) [] [] ?_
   have ⟨u,v,h⟩:=ob h
   refine Yn v ?_
   have ⟨x,y,h⟩:=ob h
   refine Yn y ?_
   exact oi h▸wr J 8 func197 []
  refine YZ h (fun h=>wa J 2 (ZK [] (j2 g h))) fun h=>?_
  refine wO J 3 h fun z A h=>Yn A ?_
  have ⟨C,D,h⟩:=ob h
  exact Yn D (wa J 2 (ZK [] (j2 C h)))
 refine YZ h (fun h=>wa J 2 (ZK [] (j1 d.Field h))) fun h=>?_
 refine wO J 4 h fun G H h=>Yn H ?_
 exact wO J 1 h fun R T h=>Yn T (wa J 2 (ZK [] (j1 R h)))
theorem ZrO (N:Nat) (d:Yi) (r:ByteArray) (h:z164 N d=some r) :
 Fn Tryz.prog 164 ⟨2,[.a [.s d.Zt,.sl 0,.sl 1]],(Wk 0 1 d []),[],2,.c (.s r),[],[]⟩:=by
 refine Z5 func164 rfl (fun E F w=>?_)
 unfold z164 at h
 refine wO J 9 h fun e f h=>Yn f ?_
 have ⟨g,i,h⟩:=ob h
 refine Yn i (wa J 7 (Z2 (σ:=ByteArray) (fun st=>(QC d.Zt d [(1,.B 2 0),(3,.c (.s st))])) (fun st=>GW N d st=some r) ?_ (fun j1=>?_)))
 ·intro j h
  unfold GW at h
  refine wO J 3 h fun k l h=>Yn l (wa J 7 (Z2 (σ:=ByteArray) (fun st=>⟨[(3,.c (.s st))],[],(Wk 0 1 d []),3⟩) (fun st=>GV st=some r) ?_ (fun j9=>?_)))
  ·intro m h
   unfold GV at h
   refine wO J 3 h fun o p h=>Yn p ?_
   exact oi h▸wr J 2 func164 []
  refine wa J 1 (Yc (σ:=ByteArray × Int) (fun st=>(QC d.Zt d [(1,.B 2 0),(3,.c (.s st.1)),(7,.I st.2)])) (fun n st=>Tv N d n st.1 st.2) (r:=r) (fun _=>rfl) ?_ (fun ih=>?_))
  ·intro n3 ih14
   rintro ⟨q,t⟩ h
   unfold Tv at h
   refine ZQ J 9 h (fun h=>wa J 2 (ZK [] (j9 q h))) fun h=>wa J 10 (Z2 (σ:=ByteArray) (fun st=>(QC d.Zt d [(1,.B 2 0),(3,.c (.s st)),(7,.I t)])) (fun st=>LN N d t (Tv N d n3) st=some r) ?_ (fun j17=>?_))
   ·intro u h
    unfold LN at h
    refine wO J 5 h fun v x h=>Yb J MY x ?_
    refine wO J 2 h fun y z h=>ZO (ZkE N v.Zw _ z) [] [] ?_
    have ⟨A,C,h⟩:=ob h
    refine Yn C ?_
    refine wO J 3 h fun D G h=>Yb J MY G ?_
    refine wO J 2 h fun H R h=>Yn R ?_
    have ⟨T,U,h⟩:=ob h
    refine Yn U ?_
    refine wO J 3 h fun X Y h=>Yb J MY Y ?_
    refine wO J 2 h fun Z a0 h=>ZO (ZkE N X.Zx _ a0) [] [] ?_
    have ⟨b0,c0,h⟩:=ob h
    refine Yn c0 ?_
    have ⟨e0,g0,h⟩:=ob h
    exact Yn g0 (wa J 1 (Yr (wa J 6 (ZK [] (ih14 (e0,(ZM (t+1))) h)))))
   refine eB h (fun h=>?_) fun h=>?_
   ·exact wO J 3 h fun i0 j0 h=>Yn j0 (wa J 2 (ZK [] (j17 i0 h)))
   exact wO J 3 h fun k0 l0 h=>Yn l0 (wa J 2 (ZK [] (j17 k0 h)))
  exact ZK [] (ih N (k,0) h)
 refine wa J 1 (Yc (σ:=ByteArray × Int) (fun st=>(QC d.Zt d [(1,.B 2 0),(3,.c (.s st.1)),(4,.I st.2)])) (fun n st=>V3 N d n st.1 st.2) (r:=r) (fun _=>rfl) ?_ (fun ih=>?_))
 ·intro n4 ih18
  rintro ⟨m0,o0⟩ h
  unfold V3 at h
  refine ZQ J 9 h (fun h=>wa J 2 (ZK [] (j1 m0 h))) fun h=>?_
  refine wO J 9 h fun p0 q0 h=>Yb J W9 q0 (wa J 16 (Z2 (σ:=ByteArray) (fun st=>⟨[(1,.B 2 0),(3,.c (.s m0)),(4,.I o0),(5,.B 4 0),(6,.c (.s st))],[(2,.box [.s d.Zt,.sl 0,.sl 1] 71),(4,.box (Wz p0) 128)],(Wk 0 1 d []),5⟩) (fun st=>LP N m0 o0 (V3 N d n4) p0 st=some r) ?_ (fun j23=>?_)))
  ·intro s0 h
   unfold LP at h
   refine wa J 6 (Z2 (σ:=ByteArray) (fun st=>⟨[(1,.B 2 0),(3,.c (.s st)),(4,.I o0),(5,.B 4 0),(6,.c (.s s0))],[(2,.box [.s d.Zt,.sl 0,.sl 1] 71),(4,.box (Wz p0) 128)],(Wk 0 1 d []),5⟩) (fun st=>LO N o0 (V3 N d n4) p0 s0 st=some r) ?_ (fun j24=>?_))
   ·intro t0 h
    unfold LO at h
    refine wO J 4 h fun u0 v0 h=>Yn v0 ?_
    refine wO J 1 h fun x0 y0 h=>Yn y0 ?_
    have ⟨z0,A0,h⟩:=ob h
    refine Yn A0 ?_
    refine wO J 3 h fun B0 C0 h=>ZO (LY N p0.Zu.Lo _ C0) [] [] ?_
    have ⟨D0,G0,h⟩:=ob h
    refine Yn G0 ?_
    have ⟨H0,I0,h⟩:=ob h
    refine Yn I0 ?_
    refine wO J 3 h fun L0 M0 h=>ZO (LY N p0.Zu.Hi _ M0) [] [] ?_
    have ⟨O0,R0,h⟩:=ob h
    refine Yn R0 ?_
    have ⟨S0,U0,h⟩:=ob h
    exact Yn U0 (wa J 1 (Yr (wa J 6 (ZK [] (ih18 (S0,(ZM (o0+1))) h)))))
   refine YZ h (fun h=>wa J 2 (ZK [] (j24 m0 h))) fun h=>?_
   exact wO J 3 h fun V0 X0 h=>Yn X0 (wa J 2 (ZK [] (j24 V0 h)))
  exact eB h (fun h=>wa J 4 (ZK [] (j23 (str [116,101,120,116]) h))) fun h=>wa J 2 (ZK [] (j23 (str [105,110,116]) h))
 exact ZK [] (ih N (g,0) h)
theorem Zft (N:Nat) (rc:ZT->ByteArray->Option ByteArray) (rcT:(∀ (d:ZT) (e:ByteArray) (r:ByteArray),rc d e=some r->Fn Tryz.prog 165 ⟨2,[.a [.I d.Zq,.s d.ZA,.sl 0,.s d.Zt,.s d.As,.I d.ZB,.sl 1],.c (.s e)],[(0,.sl rS d.To),(1,.sl (Yk Yo) d.ZC)],[],2,.c (.s r),[],[]⟩)) (f:(List ZT)) (e:ByteArray) (r:ByteArray) (h:Re N rc f e=some r) :
 Fn Tryz.prog 198 ⟨1,[.S 0,.c (.s e)],[(0,.sl Yo f)],[],1,.c (.s r),[],[]⟩:=by
 refine Z5 func198 rfl (fun E F w=>?_)
 unfold Re at h
 refine wa J 13 (Z2 (σ:=ByteArray) (fun st=>(Ua f [(1,.c (.s e)),(5,.c (.s st))])) (fun st=>ZbT e st=some r) ?_ (fun j1=>?_))
 ·intro g h
  unfold ZbT at h
  refine wO J 4 h fun i j h=>Yn j ?_
  have ⟨k,l,h⟩:=ob h
  refine Yn l ?_
  exact oi h▸wr J 2 func198 []
 refine wa J 1 (Yc (σ:=ByteArray × Int) (fun st=>(Ua f [(0,.S 0),(1,.c (.s e)),(5,.c (.s st.1)),(6,.I st.2)])) (fun n st=>PP rc f e n st.1 st.2) (r:=r) (fun _=>rfl) ?_ (fun ih=>?_))
 ·intro n2 ih3
  rintro ⟨m,o⟩ h
  unfold PP at h
  refine ZQ J 8 h (fun h=>wa J 2 (ZK [] (j1 m h))) fun h=>?_
  refine wO J 7 h fun p q h=>Yn q ?_
  refine wO J 2 h fun t u h=>Yb J VT u ?_
  refine wO J 2 h fun v x h=>Yn x ?_
  have ⟨y,z,h⟩:=ob h
  refine ZO (rcT t v _ z) [] [(0,.sl 2),(1,.sl 3)] ?_
  have ⟨A,C,h⟩:=ob h
  refine Yn C ?_
  have ⟨D,G,h⟩:=ob h
  refine Yn G ?_
  have ⟨H,R,h⟩:=ob h
  exact Yn R (wa J 8 (ZK [] (ih3 (H,(ZM (o+1))) h)))
 exact ZK [] (ih N ((str [123,10]),0) h)
theorem ZrP (N:Nat) (rc:ZT->ByteArray->Option ByteArray) (rcT:(∀ (d:ZT) (e:ByteArray) (r:ByteArray),rc d e=some r->Fn Tryz.prog 165 ⟨2,[.a [.I d.Zq,.s d.ZA,.sl 0,.s d.Zt,.s d.As,.I d.ZB,.sl 1],.c (.s e)],[(0,.sl rS d.To),(1,.sl (Yk Yo) d.ZC)],[],2,.c (.s r),[],[]⟩)) (d:ZT) (e:ByteArray) (r:ByteArray) (h:GY N rc d e=some r) :
 Fn Tryz.prog 165 ⟨2,[.a [.I d.Zq,.s d.ZA,.sl 0,.s d.Zt,.s d.As,.I d.ZB,.sl 1],.c (.s e)],[(0,.sl rS d.To),(1,.sl (Yk Yo) d.ZC)],[],2,.c (.s r),[],[]⟩:=by
 refine Z5 func165 rfl (fun E F w=>?_)
 unfold GY at h
 refine wB J 22 h (fun h=>?_) fun h=>?_
 ·refine wO J 5 h fun f g h=>Yn g ?_
  refine wO J 2 h fun i j h=>ZO (Zfg N d.To _ j) [] [(0,.sl 0)] ?_
  have ⟨k,l,h⟩:=ob h
  refine Yn l ?_
  have ⟨m,o,h⟩:=ob h
  refine Yn o ?_
  refine wO J 2 h fun p q h=>Yn q ?_
  have ⟨t,u,h⟩:=ob h
  refine Yn u (wa J 1 (Yr ?_))
  cases h
  exact Y7 J func165 []
 refine wB J 6 h (fun h=>?_) fun h=>?_
 ·refine wO J 5 h fun v x h=>Yn x ?_
  have ⟨y,z,h⟩:=ob h
  refine Yn z ?_
  exact oi h▸wr J 2 func165 []
 refine wB J 6 h (fun h=>?_) fun h=>wa J 6 (Z2 (σ:=ByteArray × ByteArray) (fun st=>(Hz d.Zq d.ZA d.Zt d.As d.ZB d.To d.ZC [(1,.c (.s e)),(2,.B 2 0),(5,.c (.s st.1)),(6,.c (.s st.2))])) (fun st=>Qk N rc d e st.1 st.2=some r) ?_ (fun j1=>?_))
 ·refine wO J 5 h fun A C h=>Yn C ?_
  have ⟨D,G,h⟩:=ob h
  refine Yn G ?_
  refine wO J 2 h fun H R h=>ZO (Zfg N d.To _ R) [] [(0,.sl 0)] ?_
  have ⟨T,U,h⟩:=ob h
  refine Yn U ?_
  have ⟨X,Y,h⟩:=ob h
  refine Yn Y ?_
  refine wO J 2 h fun Z a0 h=>Yn a0 ?_
  have ⟨b0,c0,h⟩:=ob h
  refine Yn c0 (wa J 1 (Yr ?_))
  cases h
  exact Y7 J func165 []
 ·rintro ⟨e0,g0⟩ h
  unfold Qk at h
  refine wa J 6 (Z2 (σ:=ByteArray) (fun st=>⟨[(5,.c (.s st))],[],[(0,.sl rS d.To),(1,.sl (Yk Yo) d.ZC)],3⟩) (fun st=>ZbA st=some r) ?_ (fun j2=>?_))
  ·intro i0 h
   unfold ZbA at h
   exact oi h▸wr J 5 func165 []
  refine wa J 1 (Yc (σ:=ByteArray × Int) (fun st=>(Hz d.Zq d.ZA d.Zt d.As d.ZB d.To d.ZC [(1,.c (.s e)),(2,.B 2 0),(5,.c (.s st.1)),(6,.c (.s g0)),(7,.I st.2)])) (fun n st=>V4 N rc d e g0 n st.1 st.2) (r:=r) (fun _=>rfl) ?_ (fun ih=>?_))
  ·intro n2 ih7
   rintro ⟨j0,k0⟩ h
   unfold V4 at h
   refine ZQ J 9 h (fun h=>wa J 2 (ZK [] (j2 j0 h))) fun h=>?_
   refine wa J 11 (Z2 (σ:=Bool) (fun st=>(Hz d.Zq d.ZA d.Zt d.As d.ZB d.To d.ZC [(1,.c (.s e)),(2,.B 2 0),(5,.c (.s j0)),(6,.c (.s g0)),(7,.I k0),(74,.O st)])) (fun st=>S8 N rc d e g0 j0 k0 (V4 N rc d e g0 n2) st=some r) ?_ (fun j10=>?_))
   ·intro l0 h
    unfold S8 at h
    refine eB h (fun h=>?_) fun h=>?_
    ·refine wO J 3 h fun m0 o0 h=>Yn o0 ?_
     refine wO J 8 h fun p0 q0 h=>Yb J (YQ Yo) q0 ?_
     refine wO J 2 h fun s0 t0 h=>ZO (Zft N rc rcT p0 e _ t0) [] [(0,.sl 4)] ?_
     have ⟨u0,v0,h⟩:=ob h
     exact Yn v0 (wa J 8 (ZK [] (ih7 (u0,(ZM (k0+1))) h)))
    refine ZQ J 7 h (fun h=>?_) fun h=>?_
    ·refine wO J 8 h fun x0 y0 h=>Yb J (YQ Yo) y0 ?_
     refine wO J 2 h fun z0 A0 h=>ZO (Zft N rc rcT x0 e _ A0) [] [(0,.sl 4)] ?_
     have ⟨B0,C0,h⟩:=ob h
     exact Yn C0 (wa J 8 (ZK [] (ih7 (B0,(ZM (k0+1))) h)))
    refine wO J 4 h fun D0 G0 h=>Yn G0 ?_
    refine wO J 8 h fun H0 I0 h=>Yb J (YQ Yo) I0 ?_
    refine wO J 2 h fun L0 M0 h=>ZO (Zft N rc rcT H0 e _ M0) [] [(0,.sl 4)] ?_
    have ⟨O0,R0,h⟩:=ob h
    exact Yn R0 (wa J 8 (ZK [] (ih7 (O0,(ZM (k0+1))) h)))
   refine YZ h (fun h=>wa J 14 (ZK [] (j10 false h))) fun h=>?_
   exact wB J 5 h (fun h=>wa J 9 (ZK [] (j10 (k0==(ZM ((d.ZC.length:Int)-1))) h))) fun h=>wa J 9 (ZK [] (j10 false h))
  exact ZK [] (ih N (e0,0) h)
 refine eB h (fun h=>?_) fun h=>?_
 ·refine wO J 4 h fun S0 U0 h=>Yn U0 ?_
  have ⟨V0,X0,h⟩:=ob h
  exact Yn X0 (wa J 2 (ZK [] (j1 (V0,(str [])) h)))
 refine wB J 6 h (fun h=>wa J 5 (ZK [] (j1 ((str [112,97,114,32]),(str [32,97,110,100,32])) h))) fun h=>?_
 refine wO J 5 h fun Y0 Z0 h=>Yn Z0 ?_
 have ⟨a1,b1,h⟩:=ob h
 refine Yn b1 ?_
 refine ZQ J 9 h (fun h=>wa J 2 (ZK [] (j1 (a1,(str [32,111,114,32])) h))) fun h=>?_
 refine wO J 5 h fun c1 e1 h=>ZO (LY N d.ZB _ e1) [] [] ?_
 have ⟨g1,i1,h⟩:=ob h
 refine Yn i1 ?_
 have ⟨k1,l1,h⟩:=ob h
 refine Yn l1 ?_
 have ⟨m1,o1,h⟩:=ob h
 exact Yn o1 (wa J 2 (ZK [] (j1 (m1,(str [32,111,114,32])) h)))
theorem ZrR:∀ (N:Nat) (d:ZT) (e:ByteArray) (r:ByteArray) (h:ZbB N d e=some r),Fn Tryz.prog 165 ⟨2,[.a [.I d.Zq,.s d.ZA,.sl 0,.s d.Zt,.s d.As,.I d.ZB,.sl 1],.c (.s e)],[(0,.sl rS d.To),(1,.sl (Yk Yo) d.ZC)],[],2,.c (.s r),[],[]⟩:=by
 intro N
 induction N with
 | zero=>intros;rename_i h;cases h
 | succ N ih=>intro d e r h;exact ZrP N (ZbB N) ih d e r h
theorem ZrQ (N:Nat) (d:ZT) (e:ByteArray) (r:ByteArray) (h:GX N d e=some r):Fn Tryz.prog 165 ⟨2,[.a [.I d.Zq,.s d.ZA,.sl 0,.s d.Zt,.s d.As,.I d.ZB,.sl 1],.c (.s e)],[(0,.sl rS d.To),(1,.sl (Yk Yo) d.ZC)],[],2,.c (.s r),[],[]⟩:=ZrR N d e r h
theorem Zrf (N:Nat) (d:(List ZU)) (r:ByteArray) (h:Gt N d=some r) :
 Fn Tryz.prog 114 ⟨1,[.S 0],[(0,.sl Yp d)],[],1,.c (.s r),[],[]⟩:=by
 refine Z5 func114 rfl (fun E F w=>?_)
 unfold Gt at h
 refine wa J 13 (Z2 (σ:=ByteArray) (fun st=>(QA d [(3,.c (.s st))])) (fun st=>ZaV st=some r) ?_ (fun j1=>?_))
 ·intro e h
  unfold ZaV at h
  exact oi h▸wr J 5 func114 []
 refine wa J 1 (Yc (σ:=ByteArray × Int) (fun st=>(QA d [(0,.S 0),(3,.c (.s st.1)),(4,.I st.2)])) (fun n st=>Vy N d n st.1 st.2) (r:=r) (fun _=>rfl) ?_ (fun ih=>?_))
 ·intro n22 ih21
  rintro ⟨f,g⟩ h
  unfold Vy at h
  refine ZQ J 8 h (fun h=>wa J 2 (ZK [] (j1 f h))) fun h=>?_
  refine wO J 9 h fun i j h=>Yb J Wv j ?_
  refine wO J 2 h fun k l h=>Yn l ?_
  have ⟨m,o,h⟩:=ob h
  refine Yn o ?_
  refine wO J 2 h fun p q h=>Yb J Wv q ?_
  refine wO J 2 h fun t u h=>ZO (Zfg N p.ZD _ u) [] [(0,.sl 6)] ?_
  have ⟨v,x,h⟩:=ob h
  refine Yn x ?_
  have ⟨y,z,h⟩:=ob h
  refine Yn z ?_
  have ⟨A,C,h⟩:=ob h
  refine Yn C (wa J 1 (Yr (wa J 5 (Z2 (σ:=ByteArray) (fun st=>(Hy d [(0,.S 0),(3,.c (.s st)),(4,.I g)])) (fun st=>Gv N d g (Vy N d n22) st=some r) ?_ (fun j34=>?_)))))
  ·intro D h
   unfold Gv at h
   refine wa J 5 (Z2 (σ:=ByteArray) (fun st=>(Hy d [(0,.S 0),(3,.c (.s st)),(4,.I g)])) (fun st=>Gu g (Vy N d n22) st=some r) ?_ (fun j36=>?_))
   ·intro G h
    unfold Gu at h
    exact wO J 2 h fun H R h=>Yn R (wa J 8 (ZK [] (ih21 (H,(ZM (g+1))) h)))
   refine wa J 1 (Yc (σ:=ByteArray × Int) (fun st=>(Hy d [(0,.S 0),(3,.c (.s st.1)),(4,.I g),(6,.I st.2)])) (fun n st=>Ph N d g (Vy N d n22) n st.1 st.2) (r:=r) (fun _=>rfl) ?_ (fun ih=>?_))
   ·intro n25 ih38
    rintro ⟨T,U⟩ h
    unfold Ph at h
    refine wO J 6 h fun X Y h=>Yb J Wv Y ?_
    refine ZQ J 5 h (fun h=>wa J 2 (ZK [] (j36 T h))) fun h=>?_
    refine wO J 8 h fun Z a0 h=>Yb J Wv a0 ?_
    refine wO J 3 h fun b0 c0 h=>Yb J VT c0 ?_
    refine wO J 1 h fun e0 g0 h=>ZO (ZrQ N b0 (str [9]) _ g0) [] [(0,.sl 18),(1,.sl 19)] ?_
    have ⟨i0,j0,h⟩:=ob h
    refine Yn j0 ?_
    have ⟨k0,l0,h⟩:=ob h
    refine Yn l0 ?_
    have ⟨m0,o0,h⟩:=ob h
    exact Yn o0 (wa J 8 (ZK [] (ih38 (m0,(ZM (U+1))) h)))
   exact ZK [] (ih N (D,0) h)
  refine wa J 1 (Yc (σ:=ByteArray × Int) (fun st=>(Hy d [(0,.S 0),(3,.c (.s st.1)),(4,.I g),(5,.I st.2)])) (fun n st=>Pi N d g (Vy N d n22) n st.1 st.2) (r:=r) (fun _=>rfl) ?_ (fun ih=>?_))
  ·intro n26 ih39
   rintro ⟨p0,q0⟩ h
   unfold Pi at h
   refine wO J 6 h fun s0 t0 h=>Yb J Wv t0 ?_
   refine ZQ J 5 h (fun h=>wa J 2 (ZK [] (j34 p0 h))) fun h=>?_
   refine wO J 8 h fun u0 v0 h=>Yb J Wv v0 ?_
   refine wO J 3 h fun x0 y0 h=>Yb J SL y0 ?_
   refine wO J 1 h fun z0 A0 h=>ZO (ZrO N x0 _ A0) [] [(0,.sl 18),(1,.sl 19)] ?_
   have ⟨B0,C0,h⟩:=ob h
   refine Yn C0 ?_
   have ⟨D0,G0,h⟩:=ob h
   refine Yn G0 ?_
   have ⟨H0,I0,h⟩:=ob h
   exact Yn I0 (wa J 8 (ZK [] (ih39 (H0,(ZM (q0+1))) h)))
  exact ZK [] (ih N (A,0) h)
 exact ZK [] (ih N ((str []),0) h)
theorem ZsT (N:Nat) (c:(List ZU)) (r:Bool) (h:DE N c=some r) :
 Fn Tryz.prog 47 ⟨1,[.S 0],[(0,.sl Yp c)],[],1,.O r,[],[]⟩:=by
 refine Z5 func47 rfl (fun E F w=>?_)
 unfold DE at h
 refine wB J 11 h (fun h=>oi h▸wr J 5 func47 []) fun h=>wa J 7 (Z2 (σ:=Unit) (fun st=>(QA c [(0,.S 0)])) (fun st=>Zcs N c=some r) ?_ (fun j1=>?_))
 ·intro _ h
  unfold Zcs at h
  refine wO J 3 h fun d e h=>ZO (Zrf N c _ e) [] [(0,.sl 0)] ?_
  exact oi h▸wr J 4 func47 []
 refine wa J 1 (Yc (σ:=Int) (fun st=>(QA c [(0,.S 0),(3,.I st)])) (fun n st=>Ro N c n st) (r:=r) (fun _=>rfl) ?_ (fun ih=>?_))
 ·intro n12 ih12
  intro f h
  unfold Ro at h
  refine ZQ J 8 h (fun h=>wa J 2 (ZK [] (j1 () h))) fun h=>?_
  refine wO J 8 h fun g i h=>Yb J Wv i ?_
  refine wO J 9 h fun j k h=>ZO (Sa N g.Zt _ k) [] [] ?_
  refine wB J 2 h (fun h=>oi h▸wr J 35 func47 []) fun h=>?_
  refine wO J 2 h fun l m h=>ZO (Ze2 N g.ZD 6 _ m) [] [(0,.sl 2)] ?_
  refine wB J 3 h (fun h=>oi h▸wr J 29 func47 []) fun h=>?_
  refine wB J 6 h (fun h=>oi h▸wr J 23 func47 []) fun h=>?_
  refine wO J 2 h fun o p h=>ZO (Zq9 N g.ZF _ p) [] [(0,.sl 4)] ?_
  refine wB J 3 h (fun h=>oi h▸wr J 17 func47 []) fun h=>?_
  refine wO J 2 h fun q t h=>ZO (ZkL N g.ZF _ t) [] [(0,.sl 4)] ?_
  refine wB J 3 h (fun h=>oi h▸wr J 11 func47 []) fun h=>?_
  refine wO J 2 h fun u v h=>ZO (Zrc N g.ZF _ v) [] [(0,.sl 4)] ?_
  refine wB J 3 h (fun h=>oi h▸wr J 5 func47 []) fun h=>wa J 6 (Z2 (σ:=Unit) (fun st=>⟨[(0,.S 0),(3,.I f)],[],[(0,.sl Yp c)],6⟩) (fun st=>Zct f (Ro N c n12)=some r) ?_ (fun j19=>?_))
  ·intro _ h
   unfold Zct at h
   exact wa J 6 (ZK [] (ih12 (ZM (f+1)) h))
  refine wa J 1 (Yc (σ:=Int) (fun st=>⟨[(0,.S 0),(3,.I f),(4,.B 5 0),(5,.I st)],[(5,.box [.s g.Zt,.sl 2,.sl 3,.sl 4] 47)],((0,.sl Yp c)::YV 2 3 4 g []),6⟩) (fun n st=>P6 N f (Ro N c n12) g n st) (r:=r) (fun _=>rfl) ?_ (fun ih=>?_))
  ·intro n14 ih21
   intro x h
   unfold P6 at h
   refine ZQ J 9 h (fun h=>wa J 2 (ZK [] (j19 () h))) fun h=>?_
   refine wO J 9 h fun y z h=>Yb J SL z ?_
   refine wO J 1 h fun A C h=>ZO (Zre N y _ C) [] [(0,.sl 7),(1,.sl 8)] ?_
   exact wB J 2 h (fun h=>oi h▸wr J 5 func47 []) fun h=>wa J 8 (ZK [] (ih21 (ZM (x+1)) h))
  exact ZK [] (ih N 0 h)
 exact ZK [] (ih N 0 h)
theorem Rp (N:Nat) (d:(List ByteArray)) (e:ByteArray) (r:Int) (h:V7 N d e=some r) :
 Fn Tryz.prog 49 ⟨1,[.S 0,.c (.s e)],[(0,.sl rS d)],[],1,.I r,[],[]⟩:=by
 refine Z5 func49 rfl (fun E F w=>?_)
 unfold V7 at h
 refine wa J 9 (Z2 (σ:=Unit) (fun st=>(V9 d [])) (fun st=>Zcu=some r) ?_ (fun j1=>?_))
 ·intro _ h
  unfold Zcu at h
  exact oi h▸wr J 4 func49 []
 refine wa J 1 (Yc (σ:=Int) (fun st=>(V9 d [(0,.S 0),(1,.c (.s e)),(5,.I st)])) (fun n st=>P7 d e n st) (r:=r) (fun _=>rfl) ?_ (fun ih=>?_))
 ·intro n2 ih3
  intro f h
  unfold P7 at h
  refine ZQ J 8 h (fun h=>wa J 2 (ZK [] (j1 () h))) fun h=>?_
  refine wO J 8 h fun g i h=>Yb J oS i ?_
  exact wB J 4 h (fun h=>oi h▸wr J 6 func49 []) fun h=>wa J 8 (ZK [] (ih3 (ZM (f+1)) h))
 exact ZK [] (ih N 0 h)
theorem Zks (N:Nat) (d:ZU) (e:ByteArray) (r:Yi × Bool) (h:Lz N d e=some r) :
 Fn Tryz.prog 118 ⟨3,[.a [.s d.Zt,.sl 0,.sl 1,.sl 2],.c (.s e)],(YV 0 1 2 d []),[],5,.t [.inr [.s r.1.Zt,.sl 3,.sl 4],.inl (.b r.2)],(Wk 3 4 r.1 []),[]⟩:=by
 refine Z5 func118 rfl (fun E F w=>?_)
 unfold Lz at h
 refine wa J 11 (Z2 (σ:=Unit) (fun st=>⟨[(4,.B 4 0)],[(4,.box [.s (str []),.nil,.nil] 71)],(YV 0 1 2 d []),5⟩) (fun st=>ZaW=some r) ?_ (fun j1=>?_))
 ·intro _ h
  unfold ZaW at h
  exact oi h▸wr J 6 func118 [(3,.nil),(4,.nil)]
 refine wa J 1 (Yc (σ:=Int) (fun st=>⟨[(1,.c (.s e)),(2,.B 3 0),(4,.B 4 0),(6,.I st)],[(3,.box [.s d.Zt,.sl 0,.sl 1,.sl 2] 47),(4,.box [.s (str []),.nil,.nil] 71)],(YV 0 1 2 d []),5⟩) (fun n st=>Pl d e n st) (r:=r) (fun _=>rfl) ?_ (fun ih=>?_))
 ·intro n2 ih3
  intro f h
  unfold Pl at h
  refine ZQ J 9 h (fun h=>wa J 2 (ZK [] (j1 () h))) fun h=>?_
  refine wO J 9 h fun g i h=>Yb J SL i ?_
  refine ZQ J 5 h (fun h=>wa J 8 (ZK [] (ih3 (ZM (f+1)) h))) fun h=>?_
  refine wO J 6 h fun j k h=>Yb J SL k ?_
  exact oi h▸wr J 4 func118 [(3,.sl 9),(4,.sl 10)]
 exact ZK [] (ih N 0 h)
theorem ZrS (N:Nat) (c:ZU) (d:Yi) (e:Ys) (r:T0 × Bool) (h:GZ N c d e=some r) :
 Fn Tryz.prog 166 ⟨5,[.a [.s c.Zt,.sl 0,.sl 1,.sl 2],.a [.s d.Zt,.sl 3,.sl 4],.a (XE e)],(YV 0 1 2 c (Wk 3 4 d [])),[],5,.t [.inr (Wz r.1),.inl (.b r.2)],[],[]⟩:=by
 refine Z5 func166 rfl (fun E F w=>?_)
 unfold GZ at h
 refine wa J 15 (Z2 (σ:=ByteArray × (List T0) × (List T9)) (fun st=>(Zlj st.1 e c d st.2.1 st.2.2 [(4,.B 6 0),(5,.B 7 0),(6,.B 8 0)])) (fun st=>LQ N e st.1 st.2.1 st.2.2=some r) ?_ (fun j1=>?_))
 ·rintro ⟨f,g,i⟩ h
  unfold LQ at h
  refine wa J 5 (Z2 (σ:=Unit) (fun st=>⟨[(6,.B 8 0)],[(8,.box [.s (str []),.I 0,.I 0,.I 0] 128)],(YV 0 1 2 c (Wk 3 4 d [])),11⟩) (fun st=>ZbC=some r) ?_ (fun j2=>?_))
  ·intro _ h
   unfold ZbC at h
   exact oi h▸wr J 6 func166 []
  refine wa J 1 (Yc (σ:=Int) (fun st=>(Zlj f e c d g i [(4,.B 6 0),(5,.B 7 0),(6,.B 8 0),(10,.I st)])) (fun n st=>PH e g n st) (r:=r) (fun _=>rfl) ?_ (fun ih=>?_))
  ·intro n2 ih4
   intro j h
   unfold PH at h
   refine ZQ J 9 h (fun h=>wa J 2 (ZK [] (j2 () h))) fun h=>?_
   refine wO J 9 h fun k l h=>Yb J W9 l (wa J 5 (Yr ?_))
   refine YZ h (fun h=>wa J 8 (ZK [] (ih4 (ZM (j+1)) h))) fun h=>?_
   refine wO J 6 h fun m o h=>Yb J W9 o ?_
   exact oi h▸wr J 4 func166 []
  exact ZK [] (ih N 0 h)
 refine YZ h (fun h=>wa J 2 (ZK [(9,.sl 3),(10,.sl 4)] (j1 (d.Zt,d.Zy,d.Zz) h))) fun h=>?_
 refine wO J 6 h fun p q h=>ZO (Zks N c e.Zv _ q) [] [(0,.sl 0),(1,.sl 1),(2,.sl 2)] ?_
 exact wB J 13 h (fun h=>oi h▸wr J 7 func166 []) fun h=>wa J 6 (ZK [] (j1 (p.1.Zt,p.1.Zy,p.1.Zz) h))
theorem Zkt (N:Nat) (d:(List ZU)) (e:ByteArray) (r:ZU × Bool) (h:LA N d e=some r) :
 Fn Tryz.prog 120 ⟨1,[.S 0,.c (.s e)],[(0,.sl Yp d)],[],4,.t [.inr [.s r.1.Zt,.sl 1,.sl 2,.sl 3],.inl (.b r.2)],(YV 1 2 3 r.1 []),[]⟩:=by
 refine Z5 func120 rfl (fun E F w=>?_)
 unfold LA at h
 refine wa J 10 (Z2 (σ:=Unit) (fun st=>⟨[(4,.B 1 0)],[(1,.box [.s (str []),.nil,.nil,.nil] 47)],[(0,.sl Yp d)],2⟩) (fun st=>ZaX=some r) ?_ (fun j1=>?_))
 ·intro _ h
  unfold ZaX at h
  exact oi h▸wr J 6 func120 [(1,.nil),(2,.nil),(3,.nil)]
 refine wa J 1 (Yc (σ:=Int) (fun st=>⟨[(0,.S 0),(1,.c (.s e)),(4,.B 1 0),(6,.I st)],[(1,.box [.s (str []),.nil,.nil,.nil] 47)],[(0,.sl Yp d)],2⟩) (fun n st=>Pn d e n st) (r:=r) (fun _=>rfl) ?_ (fun ih=>?_))
 ·intro n2 ih3
  intro f h
  unfold Pn at h
  refine ZQ J 8 h (fun h=>wa J 2 (ZK [] (j1 () h))) fun h=>?_
  refine wO J 8 h fun g i h=>Yb J Wv i ?_
  refine ZQ J 5 h (fun h=>wa J 8 (ZK [] (ih3 (ZM (f+1)) h))) fun h=>?_
  refine wO J 5 h fun j k h=>Yb J Wv k ?_
  exact oi h▸wr J 4 func120 [(1,.sl 7),(2,.sl 8),(3,.sl 9)]
 exact ZK [] (ih N 0 h)
theorem X7 (N:Nat) (d:ZZ) (e:ByteArray) (f:Int) (r:ZZ) (h:Y3 N d e f=some r) :
 Fn Tryz.prog 48 ⟨6,[.B 0 0,.c (.s e),.I f],((1,.sl Yp d.l')::YV 2 3 4 d.p' []),[(0,.box (Wr 1 2 3 4 5 d) 117),(5,.own rS d.calls' false)],11,.t [],((6,.sl Yp r.l')::YV 7 8 9 r.p' []),[(5,.gone),(10,.own rS r.calls' false),(0,.box (Wr 6 7 8 9 10 r) 117)]⟩:=by
 refine Z5 func48 rfl (fun E F w=>?_)
 unfold Y3 at h
 exact wB J 9 h (fun h=>oi h▸wr J 15 func48 [(6,.sl 1),(7,.sl 2),(8,.sl 3),(9,.sl 4),(10,.sl 5)]) fun h=>oi h▸wr J 2 func48 [(6,.sl 1),(7,.sl 2),(8,.sl 3),(9,.sl 4),(10,.sl 5)]
end Gx
end
