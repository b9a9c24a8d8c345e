/- Each function of the statement computes what its plain definition says, part 2. -/
import Derived.Test.YtploppegiebboaaGreatDoorFlowApartWalk1
set_option linter.all false
open Go.Proofs.Tryz renaming prog→aB
open List renaming getElem?_eq_some_iff→aE,map_cons→aI,getElem?_map→aK,length_take→aL,length_map→aN,replicate→aQ,append_assoc→aU,length_append→ae,map_nil→au,length_drop→bg,append_nil→bh,map→bm,map_append→bn,take_append_of_le_length→bw,take_append_drop→cE,take_length→dZ,take_take→gI,set_append_right→gL,set_set→iH,drop_length→jS
open Option.some renaming injEq→aR
open Nat renaming ble→aY,ble_eq_true_of_le→ai,sub_self→br,min_eq_left→cS
open ByteArray renaming empty→ao
open Int renaming toNat_natCast→a8,natCast_nonneg→da
open Go.IntKind renaming i64→bG
open Option renaming getD_some→bX,map_some→bb
open Iff renaming rfl→fv
section
set_option maxRecDepth 10000
set_option maxHeartbeats 4000000
open Go Go.Kx Go.Proofs Tryz
namespace Gx
variable (N:Nat)
theorem ZwK(c:Yp)(r:Yp)(h:BN N c=some r) :
 Fn aB 48 ⟨6,[.B 0 0],((1,.sl YN c.Z2)::Xg 2 3 4 c.p' []),[(0,.box (XP 1 2 3 4 5 c) 125),(5,.own rS c.Z3 false)],11,.t [],((6,.sl YN r.Z2)::Xg 7 8 9 r.p' []),[(5,.gone),(10,.own rS r.Z3 false),(0,.box (XP 6 7 8 9 10 r) 125)]⟩:=Yy func48 rfl fun E F w=>by
 unfold BN at h;refine wa J 10 (YD (σ:=(List Yl)×be×(List be)×(List Ys)×(List Yj)×(List be)×be×be×Int) (fun st=>(Zeb st.2.1 st.2.2.2.2.2.2.1 st.2.2.2.2.2.2.2.1 st.2.2.2.2.2.2.2.2 st.2.2.2.2.2.1 c.Z2 c.p' st.1 st.2.2.1 st.2.2.2.1 st.2.2.2.2.1 [])) (fun st=>BO st.1 st.2.1 st.2.2.1 st.2.2.2.1 st.2.2.2.2.1 st.2.2.2.2.2.1 st.2.2.2.2.2.2.1 st.2.2.2.2.2.2.2.1 st.2.2.2.2.2.2.2.2=some r) ?_ (fun j1=>?_))
 ·rintro⟨d,e,f,g,i,j,k,l,m⟩ h;unfold BO at h;cases h;exact Xi J func48 [(6,.sl 6),(7,.sl 7),(8,.sl 8),(9,.sl 9),(10,.sl 10)]
 refine wa J 1 (YP (σ:=(List Yl)×be×(List be)×(List Ys)×(List Yj)×(List be)×be×be×Int×Int) (fun st=>(Zeb st.2.1 st.2.2.2.2.2.2.1 st.2.2.2.2.2.2.2.1 st.2.2.2.2.2.2.2.2.1 st.2.2.2.2.2.1 c.Z2 c.p' st.1 st.2.2.1 st.2.2.2.1 st.2.2.2.2.1 [(0,.B 0 0),(12,.S 3),(13,.I (c.p'.ZF.length:Int)),(14,.I st.2.2.2.2.2.2.2.2.2)])) (fun n st=>US N c n st.1 st.2.1 st.2.2.1 st.2.2.2.1 st.2.2.2.2.1 st.2.2.2.2.2.1 st.2.2.2.2.2.2.1 st.2.2.2.2.2.2.2.1 st.2.2.2.2.2.2.2.2.1 st.2.2.2.2.2.2.2.2.2) (r:=r) (fun _=>rfl) ?_ (fun ih=>?_))
 ·intro n12 ih51;rintro⟨o,p,q,u,v,x,y,z,A,C⟩ h;unfold US at h;refine Yu J 5 h (fun h=>wa J 2 (Yi [] (j1 (o,p,q,u,v,x,y,z,A) h))) fun h=>?_;refine wO J 7 h fun D G h=>YK J UI G ?_;refine wO J 14 h fun H R h=>Dj J Xa R ?_;refine wO J 1 h fun T U h=>Ym (Zxr N H D _ U) [] [(0,.sl 15),(1,.bp 14 0),(2,.sl 12),(3,.sl 13)] (wa J 1 (YD (σ:=(List Yl)×be×(List be)×(List Ys)×(List Yj)×(List be)×be×be×Int) (fun st=>⟨[(0,.B 0 0),(3,.B 14 0),(12,.S 3),(13,.I (c.p'.ZF.length:Int)),(14,.I C)],[(0,.box [.sl 16,.s st.2.1,.sl 17,.sl 18,.sl 19,.sl 20,.s st.2.2.2.2.2.2.1,.s st.2.2.2.2.2.2.2.1,.I st.2.2.2.2.2.2.2.2] 125),(14,.box [.s D.Zu,.sl 12,.sl 13] 97),(20,.own rS st.2.2.2.2.2.1 false)],((1,.sl YN c.Z2)::Xg 2 3 4 c.p' (XU 12 13 D [(16,.sl YN st.1),(17,.sl rS st.2.2.1),(18,.sl Xa st.2.2.2.1),(19,.sl Yz st.2.2.2.2.1)])),21⟩) (fun st=>Gz N C (US N c n12) D st.1 st.2.1 st.2.2.1 st.2.2.2.1 st.2.2.2.2.1 st.2.2.2.2.2.1 st.2.2.2.2.2.2.1 st.2.2.2.2.2.2.2.1 st.2.2.2.2.2.2.2.2=some r) ?_ (fun j84=>?_)))
  ·rintro⟨X,Y,Z,a0,b0,c0,e0,g0,i0⟩ h;unfold Gz at h;refine wa J 7 (YD (σ:=(List Yl)×be×(List be)×(List Ys)×(List Yj)×(List be)×be×be×Int) (fun st=>⟨[(0,.B 0 0),(12,.S 3),(13,.I (c.p'.ZF.length:Int)),(14,.I C)],[(0,.box [.sl 21,.s st.2.1,.sl 22,.sl 23,.sl 24,.sl 25,.s st.2.2.2.2.2.2.1,.s st.2.2.2.2.2.2.2.1,.I st.2.2.2.2.2.2.2.2] 125),(25,.own rS st.2.2.2.2.2.1 false)],((1,.sl YN c.Z2)::Xg 2 3 4 c.p' [(21,.sl YN st.1),(22,.sl rS st.2.2.1),(23,.sl Xa st.2.2.2.1),(24,.sl Yz st.2.2.2.2.1)]),26⟩) (fun st=>BP C (US N c n12) st.1 st.2.1 st.2.2.1 st.2.2.2.1 st.2.2.2.2.1 st.2.2.2.2.2.1 st.2.2.2.2.2.2.1 st.2.2.2.2.2.2.2.1 st.2.2.2.2.2.2.2.2=some r) ?_ (fun j85=>?_))
   ·rintro⟨j0,k0,l0,m0,o0,p0,q0,s0,t0⟩ h;unfold BP at h;exact wa J 5 (Yi [(6,.sl 21),(7,.sl 22),(8,.sl 23),(9,.sl 24),(10,.sl 25)] (ih51 (j0,k0,l0,m0,o0,p0,q0,s0,t0,(Yh (C+1))) h))
   refine wa J 1 (YP (σ:=(List Yl)×be×(List be)×(List Ys)×(List Yj)×(List be)×be×be×Int×Int) (fun st=>⟨[(0,.B 0 0),(3,.B 14 0),(12,.S 3),(13,.I (c.p'.ZF.length:Int)),(14,.I C),(33,.S 12),(34,.I (D.Zz.length:Int)),(35,.I st.2.2.2.2.2.2.2.2.2)],[(0,.box [.sl 21,.s st.2.1,.sl 22,.sl 23,.sl 24,.sl 25,.s st.2.2.2.2.2.2.1,.s st.2.2.2.2.2.2.2.1,.I st.2.2.2.2.2.2.2.2.1] 125),(14,.box [.s D.Zu,.sl 12,.sl 13] 97),(25,.own rS st.2.2.2.2.2.1 false)],((1,.sl YN c.Z2)::Xg 2 3 4 c.p' (XU 12 13 D [(21,.sl YN st.1),(22,.sl rS st.2.2.1),(23,.sl Xa st.2.2.2.1),(24,.sl Yz st.2.2.2.2.1)])),26⟩) (fun n st=>SE N C (US N c n12) D n st.1 st.2.1 st.2.2.1 st.2.2.2.1 st.2.2.2.2.1 st.2.2.2.2.2.1 st.2.2.2.2.2.2.1 st.2.2.2.2.2.2.2.1 st.2.2.2.2.2.2.2.2.1 st.2.2.2.2.2.2.2.2.2) (r:=r) (fun _=>rfl) ?_ (fun ih=>?_))
   ·intro n14 ih93;rintro⟨u0,v0,x0,y0,z0,A0,B0,C0,D0,G0⟩ h;unfold SE at h;refine Yu J 5 h (fun h=>wa J 2 (Yi [] (j85 (u0,v0,x0,y0,z0,A0,B0,C0,D0) h))) fun h=>?_;refine wO J 7 h fun H0 I0 h=>YK J Sq I0 ?_;refine wO J 11 h fun L0 M0 h=>Dj J XK M0 ?_;refine wO J 1 h fun O0 R0 h=>Ym (Zvc N L0 H0 _ R0) [] [(0,.sl 28),(1,.bp 27 0)] (wa J 1 (YD (σ:=(List Yl)×be×(List be)×(List Ys)×(List Yj)×(List be)×be×be×Int) (fun st=>(ZnA st.2.1 st.2.2.2.2.2.2.1 st.2.2.2.2.2.2.2.1 st.2.2.2.2.2.2.2.2 D.Zu H0 st.2.2.2.2.2.1 c.Z2 c.p' D st.1 st.2.2.1 st.2.2.2.1 st.2.2.2.2.1 [(0,.B 0 0),(3,.B 14 0),(5,.B 27 0),(12,.S 3),(13,.I (c.p'.ZF.length:Int)),(14,.I C),(33,.S 12),(34,.I (D.Zz.length:Int)),(35,.I G0)])) (fun st=>Gy N G0 (SE N C (US N c n12) D n14) H0 st.1 st.2.1 st.2.2.1 st.2.2.2.1 st.2.2.2.2.1 st.2.2.2.2.2.1 st.2.2.2.2.2.2.1 st.2.2.2.2.2.2.2.1 st.2.2.2.2.2.2.2.2=some r) ?_ (fun j98=>?_)))
    ·rintro⟨S0,U0,V0,X0,Y0,Z0,a1,b1,c1⟩ h;unfold Gy at h;refine wa J 13 (YD (σ:=Int×Int) (fun st=>(ZnA U0 a1 b1 c1 D.Zu H0 Z0 c.Z2 c.p' D S0 V0 X0 Y0 [(0,.B 0 0),(3,.B 14 0),(5,.B 27 0),(6,.I st.1),(7,.I st.2),(12,.S 3),(13,.I (c.p'.ZF.length:Int)),(14,.I C),(33,.S 12),(34,.I (D.Zz.length:Int)),(35,.I G0)])) (fun st=>Gw N G0 (SE N C (US N c n12) D n14) H0 S0 U0 V0 X0 Y0 Z0 a1 b1 c1 st.1 st.2=some r) ?_ (fun j99=>?_))
     ·rintro⟨e1,g1⟩ h;unfold Gw at h;refine wB J 10 h (fun h=>?_) fun h=>?_
      ·exact wO J 19 h fun i1 k1 h=>Ym (Wv N (⟨S0,(⟨U0,V0,X0,Y0⟩:Yl),Z0,(⟨a1,b1,c1⟩:Y6)⟩:Yp) H0.Zu 2 _ k1) [] [(0,.bp 0 0),(1,.sl 29),(2,.sl 30),(3,.sl 31),(4,.sl 32),(5,.sl 33)] (wa J 6 (Yi [(21,.sl 34),(22,.sl 35),(23,.sl 36),(24,.sl 37),(25,.sl 38)] (ih93 (i1.Z2,i1.p'.Zu,i1.p'.ZE,i1.p'.ZF,i1.p'.ZG,i1.Z3,i1.Z4.ZY,i1.Z4.Zu,i1.Z4.ZZ,(Yh (G0+1))) h)))
      refine wB J 7 h (fun h=>?_) fun h=>?_
      ·exact wO J 12 h fun l1 m1 h=>Ym (Wv N (⟨S0,(⟨U0,V0,X0,Y0⟩:Yl),Z0,(⟨a1,b1,c1⟩:Y6)⟩:Yp) H0.Zu 2 _ m1) [] [(0,.bp 0 0),(1,.sl 29),(2,.sl 30),(3,.sl 31),(4,.sl 32),(5,.sl 33)] (wa J 6 (Yi [(21,.sl 34),(22,.sl 35),(23,.sl 36),(24,.sl 37),(25,.sl 38)] (ih93 (l1.Z2,l1.p'.Zu,l1.p'.ZE,l1.p'.ZF,l1.p'.ZG,l1.Z3,l1.Z4.ZY,l1.Z4.Zu,l1.Z4.ZZ,(Yh (G0+1))) h)))
      refine Yu J 7 h (fun h=>wa J 7 (Yi [(21,.sl 29),(22,.sl 30),(23,.sl 31),(24,.sl 32),(25,.sl 33)] (ih93 (S0,U0,V0,X0,Y0,Z0,a1,b1,c1,(Yh (G0+1))) h))) fun h=>?_;exact wO J 5 h fun o1 p1 h=>Ym (Wv N (⟨S0,(⟨U0,V0,X0,Y0⟩:Yl),Z0,(⟨a1,b1,c1⟩:Y6)⟩:Yp) H0.Zu 2 _ p1) [] [(0,.bp 0 0),(1,.sl 29),(2,.sl 30),(3,.sl 31),(4,.sl 32),(5,.sl 33)] (wa J 6 (Yi [(21,.sl 34),(22,.sl 35),(23,.sl 36),(24,.sl 37),(25,.sl 38)] (ih93 (o1.Z2,o1.p'.Zu,o1.p'.ZE,o1.p'.ZF,o1.p'.ZG,o1.Z3,o1.Z4.ZY,o1.Z4.Zu,o1.Z4.ZZ,(Yh (G0+1))) h)))
     exact eB h (fun h=>wa J 5 (Yi [] (j99 (0,40) h))) fun h=>wa J 2 (Yi [] (j99 ((-1000),1000) h))
    refine Wj h (fun h=>wa J 2 (Yi [(29,.sl 21),(30,.sl 22),(31,.sl 23),(32,.sl 24),(33,.sl 25)] (j98 (u0,v0,x0,y0,z0,A0,B0,C0,D0) h))) fun h=>?_;exact wO J 5 h fun q1 s1 h=>Ym (Wv N (⟨u0,(⟨v0,x0,y0,z0⟩:Yl),A0,(⟨B0,C0,D0⟩:Y6)⟩:Yp) H0.Zu 9 _ s1) [] [(0,.bp 0 0),(1,.sl 21),(2,.sl 22),(3,.sl 23),(4,.sl 24),(5,.sl 25)] (wa J 1 (Yi [] (j98 (q1.Z2,q1.p'.Zu,q1.p'.ZE,q1.p'.ZF,q1.p'.ZG,q1.Z3,q1.Z4.ZY,q1.Z4.Zu,q1.Z4.ZZ) h)))
   exact Yi [(21,.sl 16),(22,.sl 17),(23,.sl 18),(24,.sl 19),(25,.sl 20)] (ih N (X,Y,Z,a0,b0,c0,e0,g0,i0,0) h)
  refine Wj h (fun h=>wa J 2 (Yi [(16,.sl 6),(17,.sl 7),(18,.sl 8),(19,.sl 9),(20,.sl 10)] (j84 (o,p,q,u,v,x,y,z,A) h))) fun h=>?_;exact wO J 5 h fun t1 u1 h=>Ym (Wv N (⟨o,(⟨p,q,u,v⟩:Yl),x,(⟨y,z,A⟩:Y6)⟩:Yp) D.Zu 9 _ u1) [] [(0,.bp 0 0),(1,.sl 6),(2,.sl 7),(3,.sl 8),(4,.sl 9),(5,.sl 10)] (wa J 1 (Yi [] (j84 (t1.Z2,t1.p'.Zu,t1.p'.ZE,t1.p'.ZF,t1.p'.ZG,t1.Z3,t1.Z4.ZY,t1.Z4.Zu,t1.Z4.ZZ) h)))
 exact Yi [(6,.sl 1),(7,.sl 2),(8,.sl 3),(9,.sl 4),(10,.sl 5)] (ih N (c.Z2,c.p'.Zu,c.p'.ZE,c.p'.ZF,c.p'.ZG,c.Z3,c.Z4.ZY,c.Z4.Zu,c.Z4.ZZ,0) h)
theorem ZwL(c:Yp)(r:Yp)(h:BQ N c=some r) :
 Fn aB 49 ⟨6,[.B 0 0],((1,.sl YN c.Z2)::Xg 2 3 4 c.p' []),[(0,.box (XP 1 2 3 4 5 c) 125),(5,.own rS c.Z3 false)],11,.t [],((6,.sl YN r.Z2)::Xg 7 8 9 r.p' []),[(5,.gone),(10,.own rS r.Z3 false),(0,.box (XP 6 7 8 9 10 r) 125)]⟩:=Yy func49 rfl fun E F w=>by
 unfold BQ at h;refine wa J 10 (YD (σ:=(List Yl)×be×(List be)×(List Ys)×(List Yj)×(List be)×be×be×Int) (fun st=>(Zeb st.2.1 st.2.2.2.2.2.2.1 st.2.2.2.2.2.2.2.1 st.2.2.2.2.2.2.2.2 st.2.2.2.2.2.1 c.Z2 c.p' st.1 st.2.2.1 st.2.2.2.1 st.2.2.2.2.1 [])) (fun st=>BR st.1 st.2.1 st.2.2.1 st.2.2.2.1 st.2.2.2.2.1 st.2.2.2.2.2.1 st.2.2.2.2.2.2.1 st.2.2.2.2.2.2.2.1 st.2.2.2.2.2.2.2.2=some r) ?_ (fun j1=>?_))
 ·rintro⟨d,e,f,g,i,j,k,l,m⟩ h;unfold BR at h;cases h;exact Xi J func49 [(6,.sl 6),(7,.sl 7),(8,.sl 8),(9,.sl 9),(10,.sl 10)]
 refine wa J 1 (YP (σ:=(List Yl)×be×(List be)×(List Ys)×(List Yj)×(List be)×be×be×Int×Int) (fun st=>(Zeb st.2.1 st.2.2.2.2.2.2.1 st.2.2.2.2.2.2.2.1 st.2.2.2.2.2.2.2.2.1 st.2.2.2.2.2.1 c.Z2 c.p' st.1 st.2.2.1 st.2.2.2.1 st.2.2.2.2.1 [(0,.B 0 0),(17,.S 3),(18,.I (c.p'.ZF.length:Int)),(19,.I st.2.2.2.2.2.2.2.2.2)])) (fun n st=>Vr N c n st.1 st.2.1 st.2.2.1 st.2.2.2.1 st.2.2.2.2.1 st.2.2.2.2.2.1 st.2.2.2.2.2.2.1 st.2.2.2.2.2.2.2.1 st.2.2.2.2.2.2.2.2.1 st.2.2.2.2.2.2.2.2.2) (r:=r) (fun _=>rfl) ?_ (fun ih=>?_))
 ·intro n132 ih516;rintro⟨o,p,q,u,v,x,y,z,A,C⟩ h;unfold Vr at h;refine Yu J 5 h (fun h=>wa J 2 (Yi [] (j1 (o,p,q,u,v,x,y,z,A) h))) fun h=>?_;refine wO J 6 h fun D G h=>YK J UI G (wa J 11 (YD (σ:=(List Yl)×be×(List be)×(List Ys)×(List Yj)×(List be)×be×be×Int) (fun st=>⟨[(0,.B 0 0),(17,.S 3),(18,.I (c.p'.ZF.length:Int)),(19,.I C)],[(0,.box [.sl 15,.s st.2.1,.sl 16,.sl 17,.sl 18,.sl 19,.s st.2.2.2.2.2.2.1,.s st.2.2.2.2.2.2.2.1,.I st.2.2.2.2.2.2.2.2] 125),(19,.own rS st.2.2.2.2.2.1 false)],((1,.sl YN c.Z2)::Xg 2 3 4 c.p' [(15,.sl YN st.1),(16,.sl rS st.2.2.1),(17,.sl Xa st.2.2.2.1),(18,.sl Yz st.2.2.2.2.1)]),20⟩) (fun st=>BS C (Vr N c n132) st.1 st.2.1 st.2.2.1 st.2.2.2.1 st.2.2.2.2.1 st.2.2.2.2.2.1 st.2.2.2.2.2.2.1 st.2.2.2.2.2.2.2.1 st.2.2.2.2.2.2.2.2=some r) ?_ (fun j859=>?_)))
  ·rintro⟨H,R,T,U,X,Y,Z,a0,b0⟩ h;unfold BS at h;exact wa J 5 (Yi [(6,.sl 15),(7,.sl 16),(8,.sl 17),(9,.sl 18),(10,.sl 19)] (ih516 (H,R,T,U,X,Y,Z,a0,b0,(Yh (C+1))) h))
  refine wa J 1 (YP (σ:=(List Yl)×be×(List be)×(List Ys)×(List Yj)×(List be)×be×be×Int×Int) (fun st=>⟨[(0,.B 0 0),(3,.B 14 0),(17,.S 3),(18,.I (c.p'.ZF.length:Int)),(19,.I C),(24,.S 13),(25,.I (D.ZA.length:Int)),(26,.I st.2.2.2.2.2.2.2.2.2)],[(0,.box [.sl 15,.s st.2.1,.sl 16,.sl 17,.sl 18,.sl 19,.s st.2.2.2.2.2.2.1,.s st.2.2.2.2.2.2.2.1,.I st.2.2.2.2.2.2.2.2.1] 125),(14,.box [.s D.Zu,.sl 12,.sl 13] 97),(19,.own rS st.2.2.2.2.2.1 false)],((1,.sl YN c.Z2)::Xg 2 3 4 c.p' (XU 12 13 D [(15,.sl YN st.1),(16,.sl rS st.2.2.1),(17,.sl Xa st.2.2.2.1),(18,.sl Yz st.2.2.2.2.1)])),20⟩) (fun n st=>Un N C (Vr N c n132) D n st.1 st.2.1 st.2.2.1 st.2.2.2.1 st.2.2.2.2.1 st.2.2.2.2.2.1 st.2.2.2.2.2.2.1 st.2.2.2.2.2.2.2.1 st.2.2.2.2.2.2.2.2.1 st.2.2.2.2.2.2.2.2.2) (r:=r) (fun _=>rfl) ?_ (fun ih=>?_))
  ·intro n154 ih945;rintro⟨c0,e0,g0,i0,j0,k0,l0,m0,o0,p0⟩ h;unfold Un at h;refine Yu J 5 h (fun h=>wa J 2 (Yi [] (j859 (c0,e0,g0,i0,j0,k0,l0,m0,o0) h))) fun h=>?_;refine wO J 6 h fun q0 s0 h=>YK J Mb s0 (wa J 24 (YD (σ:=(List Yl)×be×(List be)×(List Ys)×(List Yj)×(List be)×be×be×Int×Int×Int) (fun st=>(ZnB st.2.1 st.2.2.2.2.2.2.1 st.2.2.2.2.2.2.2.1 st.2.2.2.2.2.2.2.2.1 D.Zu q0.Zx.Zt q0.Zx.Zw q0.Zx.Field q0.Zx.N q0.Op q0.Zy.Zt q0.Zy.Zw q0.Zy.Field q0.Zy.N st.2.2.2.2.2.2.2.2.2.1 st.2.2.2.2.2.2.2.2.2.2 st.2.2.2.2.2.1 c.Z2 c.p' D st.1 st.2.2.1 st.2.2.2.1 st.2.2.2.2.1 [(0,.B 0 0),(3,.B 14 0),(5,.B 21 0),(6,.B 22 0),(7,.B 23 0),(17,.S 3),(18,.I (c.p'.ZF.length:Int)),(19,.I C),(24,.S 13),(25,.I (D.ZA.length:Int)),(26,.I p0)])) (fun st=>Zdx N D p0 (Un N C (Vr N c n132) D n154) q0 st.1 st.2.1 st.2.2.1 st.2.2.2.1 st.2.2.2.2.1 st.2.2.2.2.2.1 st.2.2.2.2.2.2.1 st.2.2.2.2.2.2.2.1 st.2.2.2.2.2.2.2.2.1 st.2.2.2.2.2.2.2.2.2.1 st.2.2.2.2.2.2.2.2.2.2=some r) ?_ (fun j1002=>?_)))
   ·rintro⟨t0,u0,v0,x0,y0,z0,A0,B0,C0,D0,G0⟩ h;unfold Zdx at h;refine wa J 10 (YD (σ:=(List Yl)×be×(List be)×(List Ys)×(List Yj)×(List be)×be×be×Int×Int) (fun st=>⟨[(0,.B 0 0),(3,.B 14 0),(5,.B 21 0),(10,.I st.2.2.2.2.2.2.2.2.2),(17,.S 3),(18,.I (c.p'.ZF.length:Int)),(19,.I C),(24,.S 13),(25,.I (D.ZA.length:Int)),(26,.I p0)],[(0,.box [.sl 29,.s st.2.1,.sl 30,.sl 31,.sl 32,.sl 33,.s st.2.2.2.2.2.2.1,.s st.2.2.2.2.2.2.2.1,.I st.2.2.2.2.2.2.2.2.1] 125),(14,.box [.s D.Zu,.sl 12,.sl 13] 97),(21,.box [.I q0.Zx.Zt,.s q0.Zx.Zw,.s q0.Zx.Field,.I q0.Zx.N,.s q0.Op,.I q0.Zy.Zt,.s q0.Zy.Zw,.s q0.Zy.Field,.I q0.Zy.N] 104),(33,.own rS st.2.2.2.2.2.1 false)],((1,.sl YN c.Z2)::Xg 2 3 4 c.p' (XU 12 13 D [(29,.sl YN st.1),(30,.sl rS st.2.2.1),(31,.sl Xa st.2.2.2.1),(32,.sl Yz st.2.2.2.2.1)])),34⟩) (fun st=>BT N D p0 (Un N C (Vr N c n132) D n154) q0 st.1 st.2.1 st.2.2.1 st.2.2.2.1 st.2.2.2.2.1 st.2.2.2.2.2.1 st.2.2.2.2.2.2.1 st.2.2.2.2.2.2.2.1 st.2.2.2.2.2.2.2.2.1 st.2.2.2.2.2.2.2.2.2=some r) ?_ (fun j1007=>?_))
    ·rintro⟨H0,I0,L0,M0,O0,R0,S0,U0,V0,X0⟩ h;unfold BT at h;refine wB J 5 h (fun h=>?_) fun h=>?_
     ·exact wO J 26 h fun Y0 Z0 h=>Ym (Wv N (⟨H0,(⟨I0,L0,M0,O0⟩:Yl),R0,(⟨S0,U0,V0⟩:Y6)⟩:Yp) D.Zu 11 _ Z0) [] [(0,.bp 0 0),(1,.sl 29),(2,.sl 30),(3,.sl 31),(4,.sl 32),(5,.sl 33)] (wa J 6 (Yi [(15,.sl 34),(16,.sl 35),(17,.sl 36),(18,.sl 37),(19,.sl 38)] (ih945 (Y0.Z2,Y0.p'.Zu,Y0.p'.ZE,Y0.p'.ZF,Y0.p'.ZG,Y0.Z3,Y0.Z4.ZY,Y0.Z4.Zu,Y0.Z4.ZZ,(Yh (p0+1))) h)))
     refine Yu J 3 h (fun h=>wa J 25 (Yi [(15,.sl 29),(16,.sl 30),(17,.sl 31),(18,.sl 32),(19,.sl 33)] (ih945 (H0,I0,L0,M0,O0,R0,S0,U0,V0,(Yh (p0+1))) h))) fun h=>?_;refine wB J 4 h (fun h=>?_) fun h=>?_
     ·exact wO J 19 h fun a1 b1 h=>Ym (Wv N (⟨H0,(⟨I0,L0,M0,O0⟩:Yl),R0,(⟨S0,U0,V0⟩:Y6)⟩:Yp) D.Zu 11 _ b1) [] [(0,.bp 0 0),(1,.sl 29),(2,.sl 30),(3,.sl 31),(4,.sl 32),(5,.sl 33)] (wa J 6 (Yi [(15,.sl 34),(16,.sl 35),(17,.sl 36),(18,.sl 37),(19,.sl 38)] (ih945 (a1.Z2,a1.p'.Zu,a1.p'.ZE,a1.p'.ZF,a1.p'.ZG,a1.Z3,a1.Z4.ZY,a1.Z4.Zu,a1.Z4.ZZ,(Yh (p0+1))) h)))
     refine wB J 6 h (fun h=>?_) fun h=>?_
     ·exact wO J 13 h fun c1 e1 h=>Ym (Wv N (⟨H0,(⟨I0,L0,M0,O0⟩:Yl),R0,(⟨S0,U0,V0⟩:Y6)⟩:Yp) D.Zu 11 _ e1) [] [(0,.bp 0 0),(1,.sl 29),(2,.sl 30),(3,.sl 31),(4,.sl 32),(5,.sl 33)] (wa J 6 (Yi [(15,.sl 34),(16,.sl 35),(17,.sl 36),(18,.sl 37),(19,.sl 38)] (ih945 (c1.Z2,c1.p'.Zu,c1.p'.ZE,c1.p'.ZF,c1.p'.ZG,c1.Z3,c1.Z4.ZY,c1.Z4.Zu,c1.Z4.ZZ,(Yh (p0+1))) h)))
     refine Yu J 8 h (fun h=>wa J 7 (Yi [(15,.sl 29),(16,.sl 30),(17,.sl 31),(18,.sl 32),(19,.sl 33)] (ih945 (H0,I0,L0,M0,O0,R0,S0,U0,V0,(Yh (p0+1))) h))) fun h=>?_;exact wO J 5 h fun g1 i1 h=>Ym (Wv N (⟨H0,(⟨I0,L0,M0,O0⟩:Yl),R0,(⟨S0,U0,V0⟩:Y6)⟩:Yp) D.Zu 11 _ i1) [] [(0,.bp 0 0),(1,.sl 29),(2,.sl 30),(3,.sl 31),(4,.sl 32),(5,.sl 33)] (wa J 6 (Yi [(15,.sl 34),(16,.sl 35),(17,.sl 36),(18,.sl 37),(19,.sl 38)] (ih945 (g1.Z2,g1.p'.Zu,g1.p'.ZE,g1.p'.ZF,g1.p'.ZG,g1.Z3,g1.Z4.ZY,g1.Z4.Zu,g1.Z4.ZZ,(Yh (p0+1))) h)))
    refine wa J 1 (YP (σ:=(List Yl)×be×(List be)×(List Ys)×(List Yj)×(List be)×be×be×Int×Int×Int) (fun st=>⟨[(0,.B 0 0),(3,.B 14 0),(5,.B 21 0),(7,.B 23 0),(10,.I st.2.2.2.2.2.2.2.2.2.1),(17,.S 3),(18,.I (c.p'.ZF.length:Int)),(19,.I C),(24,.S 13),(25,.I (D.ZA.length:Int)),(26,.I p0),(58,.a [.I q0.Zx.Zt,.s q0.Zx.Zw,.s q0.Zx.Field,.I q0.Zx.N,.I q0.Zy.Zt,.s q0.Zy.Zw,.s q0.Zy.Field,.I q0.Zy.N]),(59,.I st.2.2.2.2.2.2.2.2.2.2)],[(0,.box [.sl 29,.s st.2.1,.sl 30,.sl 31,.sl 32,.sl 33,.s st.2.2.2.2.2.2.1,.s st.2.2.2.2.2.2.2.1,.I st.2.2.2.2.2.2.2.2.1] 125),(14,.box [.s D.Zu,.sl 12,.sl 13] 97),(21,.box [.I q0.Zx.Zt,.s q0.Zx.Zw,.s q0.Zx.Field,.I q0.Zx.N,.s q0.Op,.I q0.Zy.Zt,.s q0.Zy.Zw,.s q0.Zy.Field,.I q0.Zy.N] 104),(23,.box [.I D0,.I G0] 154),(33,.own rS st.2.2.2.2.2.1 false)],((1,.sl YN c.Z2)::Xg 2 3 4 c.p' (XU 12 13 D [(29,.sl YN st.1),(30,.sl rS st.2.2.1),(31,.sl Xa st.2.2.2.1),(32,.sl Yz st.2.2.2.2.1)])),34⟩) (fun n st=>SF N D p0 (Un N C (Vr N c n132) D n154) q0 D0 G0 n st.1 st.2.1 st.2.2.1 st.2.2.2.1 st.2.2.2.2.1 st.2.2.2.2.2.1 st.2.2.2.2.2.2.1 st.2.2.2.2.2.2.2.1 st.2.2.2.2.2.2.2.2.1 st.2.2.2.2.2.2.2.2.2.1 st.2.2.2.2.2.2.2.2.2.2) (r:=r) (fun _=>rfl) ?_ (fun ih=>?_))
    ·intro n157 ih1017;rintro⟨k1,l1,m1,o1,p1,q1,s1,t1,u1,v1,x1⟩ h;unfold SF at h;refine Yu J 5 h (fun h=>wa J 2 (Yi [] (j1007 (k1,l1,m1,o1,p1,q1,s1,t1,u1,v1) h))) fun h=>?_;refine wa J 7 (YD (σ:=Int×be×be×Int) (fun st=>(ZnC l1 s1 t1 u1 D.Zu q0.Zx.Zt q0.Zx.Zw q0.Zx.Field q0.Zx.N q0.Op q0.Zy.Zt q0.Zy.Zw q0.Zy.Field q0.Zy.N D0 G0 q1 st.1 st.2.1 st.2.2.1 st.2.2.2 c.Z2 c.p' D k1 m1 o1 p1 [(0,.B 0 0),(3,.B 14 0),(5,.B 21 0),(7,.B 23 0),(10,.I v1),(11,.I x1),(12,.B 34 0),(17,.S 3),(18,.I (c.p'.ZF.length:Int)),(19,.I C),(24,.S 13),(25,.I (D.ZA.length:Int)),(26,.I p0),(58,.a [.I q0.Zx.Zt,.s q0.Zx.Zw,.s q0.Zx.Field,.I q0.Zx.N,.I q0.Zy.Zt,.s q0.Zy.Zw,.s q0.Zy.Field,.I q0.Zy.N]),(59,.I x1)])) (fun st=>GD N D D0 G0 k1 l1 m1 o1 p1 q1 s1 t1 u1 v1 x1 (SF N D p0 (Un N C (Vr N c n132) D n154) q0 D0 G0 n157) st.1 st.2.1 st.2.2.1 st.2.2.2=some r) ?_ (fun j1023=>?_))
     ·rintro⟨y1,z1,A1,B1⟩ h;unfold GD at h;refine wa J 7 (YD (σ:=Bool) (fun st=>(ZnC l1 s1 t1 u1 D.Zu q0.Zx.Zt q0.Zx.Zw q0.Zx.Field q0.Zx.N q0.Op q0.Zy.Zt q0.Zy.Zw q0.Zy.Field q0.Zy.N D0 G0 q1 y1 z1 A1 B1 c.Z2 c.p' D k1 m1 o1 p1 [(0,.B 0 0),(3,.B 14 0),(5,.B 21 0),(7,.B 23 0),(10,.I v1),(11,.I x1),(12,.B 34 0),(17,.S 3),(18,.I (c.p'.ZF.length:Int)),(19,.I C),(24,.S 13),(25,.I (D.ZA.length:Int)),(26,.I p0),(58,.a [.I q0.Zx.Zt,.s q0.Zx.Zw,.s q0.Zx.Field,.I q0.Zx.N,.I q0.Zy.Zt,.s q0.Zy.Zw,.s q0.Zy.Field,.I q0.Zy.N]),(59,.I x1),(71,.O st)])) (fun st=>GC N D D0 G0 k1 l1 m1 o1 p1 q1 s1 t1 u1 v1 x1 (SF N D p0 (Un N C (Vr N c n132) D n154) q0 D0 G0 n157) y1 st=some r) ?_ (fun j1024=>?_))
      ·intro C1 h;unfold GC at h;refine YD (σ:=(List Yl)×be×(List be)×(List Ys)×(List Yj)×(List be)×be×be×Int) (fun st=>⟨[(0,.B 0 0),(3,.B 14 0),(5,.B 21 0),(7,.B 23 0),(10,.I v1),(11,.I x1),(12,.B 34 0),(17,.S 3),(18,.I (c.p'.ZF.length:Int)),(19,.I C),(24,.S 13),(25,.I (D.ZA.length:Int)),(26,.I p0),(58,.a [.I q0.Zx.Zt,.s q0.Zx.Zw,.s q0.Zx.Field,.I q0.Zx.N,.I q0.Zy.Zt,.s q0.Zy.Zw,.s q0.Zy.Field,.I q0.Zy.N]),(59,.I x1)],[(0,.box [.sl 35,.s st.2.1,.sl 36,.sl 37,.sl 38,.sl 39,.s st.2.2.2.2.2.2.1,.s st.2.2.2.2.2.2.2.1,.I st.2.2.2.2.2.2.2.2] 125),(14,.box [.s D.Zu,.sl 12,.sl 13] 97),(21,.box [.I q0.Zx.Zt,.s q0.Zx.Zw,.s q0.Zx.Field,.I q0.Zx.N,.s q0.Op,.I q0.Zy.Zt,.s q0.Zy.Zw,.s q0.Zy.Field,.I q0.Zy.N] 104),(23,.box [.I D0,.I G0] 154),(34,.box [.I y1,.s z1,.s A1,.I B1] 102),(39,.own rS st.2.2.2.2.2.1 false)],((1,.sl YN c.Z2)::Xg 2 3 4 c.p' (XU 12 13 D [(35,.sl YN st.1),(36,.sl rS st.2.2.1),(37,.sl Xa st.2.2.2.1),(38,.sl Yz st.2.2.2.2.1)])),40⟩) (fun st=>GB D0 G0 v1 x1 (SF N D p0 (Un N C (Vr N c n132) D n154) q0 D0 G0 n157) y1 st.1 st.2.1 st.2.2.1 st.2.2.2.1 st.2.2.2.2.1 st.2.2.2.2.2.1 st.2.2.2.2.2.2.1 st.2.2.2.2.2.2.2.1 st.2.2.2.2.2.2.2.2=some r) ?_ (fun j1025=>?_)
       ·rintro⟨D1,G1,H1,I1,L1,M1,O1,R1,S1⟩ h;unfold GB at h;refine Yu J 6 h (fun h=>wa J 13 (Yi [(29,.sl 35),(30,.sl 36),(31,.sl 37),(32,.sl 38),(33,.sl 39)] (ih1017 (D1,G1,H1,I1,L1,M1,O1,R1,S1,v1,(Yh (x1+1))) h))) fun h=>?_;obtain⟨K,h⟩|⟨K,h⟩:=oc h
        ·refine wa J 1 (SZ 0 (by exact lz K) ?_);exact wB J 4 h (fun h=>wa J 11 (Yi [(29,.sl 35),(30,.sl 36),(31,.sl 37),(32,.sl 38),(33,.sl 39)] (ih1017 (D1,G1,H1,I1,L1,M1,O1,R1,S1,(Yh (v1+1)),(Yh (x1+1))) h))) fun h=>wa J 7 (Yi [(29,.sl 35),(30,.sl 36),(31,.sl 37),(32,.sl 38),(33,.sl 39)] (ih1017 (D1,G1,H1,I1,L1,M1,O1,R1,S1,v1,(Yh (x1+1))) h))
        obtain⟨K,h⟩|⟨K,h⟩:=U6 h
        ·cases h
        refine wa J 1 (SZ 1 (by exact lz K) ?_);exact wB J 4 h (fun h=>wa J 11 (Yi [(29,.sl 35),(30,.sl 36),(31,.sl 37),(32,.sl 38),(33,.sl 39)] (ih1017 (D1,G1,H1,I1,L1,M1,O1,R1,S1,(Yh (v1+1)),(Yh (x1+1))) h))) fun h=>wa J 7 (Yi [(29,.sl 35),(30,.sl 36),(31,.sl 37),(32,.sl 38),(33,.sl 39)] (ih1017 (D1,G1,H1,I1,L1,M1,O1,R1,S1,v1,(Yh (x1+1))) h))
       refine Wj h (fun h=>wa J 2 (Yi [(35,.sl 29),(36,.sl 30),(37,.sl 31),(38,.sl 32),(39,.sl 33)] (j1025 (k1,l1,m1,o1,p1,q1,s1,t1,u1) h))) fun h=>?_;exact wO J 5 h fun U1 V1 h=>Ym (Wv N (⟨k1,(⟨l1,m1,o1,p1⟩:Yl),q1,(⟨s1,t1,u1⟩:Y6)⟩:Yp) D.Zu 11 _ V1) [] [(0,.bp 0 0),(1,.sl 29),(2,.sl 30),(3,.sl 31),(4,.sl 32),(5,.sl 33)] (wa J 1 (Yi [] (j1025 (U1.Z2,U1.p'.Zu,U1.p'.ZE,U1.p'.ZF,U1.p'.ZG,U1.Z3,U1.Z4.ZY,U1.Z4.Zu,U1.Z4.ZZ) h)))
      refine Wj h (fun h=>wa J 6 (Yi [] (j1024 false h))) fun h=>?_;obtain⟨K,h⟩|⟨K,h⟩:=oc h
      ·exact wa J 1 (SZ 0 (by exact lz K) (wa J 4 (Yi [] (j1024 (D0 != 2) h))))
      obtain⟨K,h⟩|⟨K,h⟩:=oc h
      ·exact wa J 1 (SZ 1 (by exact lz K) (wa J 4 (Yi [] (j1024 (G0 != 2) h))))
      cases h
     obtain⟨K,h⟩|⟨K,h⟩:=oc h
     ·exact eAa 0 (by exact lz K) (wa J 4 (Yi [] (j1023 (q0.Zx.Zt,q0.Zx.Zw,q0.Zx.Field,q0.Zx.N) h)))
     obtain⟨K,h⟩|⟨K,h⟩:=oc h
     ·exact eAa 1 (by exact lz K) (wa J 4 (Yi [] (j1023 (q0.Zy.Zt,q0.Zy.Zw,q0.Zy.Field,q0.Zy.N) h)))
     cases h
    exact Yi [(29,.sl 24),(30,.sl 25),(31,.sl 26),(32,.sl 27),(33,.sl 28)] (ih N (t0,u0,v0,x0,y0,z0,A0,B0,C0,0,0) h)
   refine wa J 1 (YP (σ:=(List Yl)×be×(List be)×(List Ys)×(List Yj)×(List be)×be×be×Int×Int×Int×Int) (fun st=>(ZnB st.2.1 st.2.2.2.2.2.2.1 st.2.2.2.2.2.2.2.1 st.2.2.2.2.2.2.2.2.1 D.Zu q0.Zx.Zt q0.Zx.Zw q0.Zx.Field q0.Zx.N q0.Op q0.Zy.Zt q0.Zy.Zw q0.Zy.Field q0.Zy.N st.2.2.2.2.2.2.2.2.2.1 st.2.2.2.2.2.2.2.2.2.2.1 st.2.2.2.2.2.1 c.Z2 c.p' D st.1 st.2.2.1 st.2.2.2.1 st.2.2.2.2.1 [(0,.B 0 0),(3,.B 14 0),(5,.B 21 0),(6,.B 22 0),(7,.B 23 0),(17,.S 3),(18,.I (c.p'.ZF.length:Int)),(19,.I C),(24,.S 13),(25,.I (D.ZA.length:Int)),(26,.I p0),(35,.a [.I q0.Zx.Zt,.s q0.Zx.Zw,.s q0.Zx.Field,.I q0.Zx.N,.I q0.Zy.Zt,.s q0.Zy.Zw,.s q0.Zy.Field,.I q0.Zy.N]),(36,.I st.2.2.2.2.2.2.2.2.2.2.2)])) (fun n st=>Rs N D p0 (Un N C (Vr N c n132) D n154) q0 n st.1 st.2.1 st.2.2.1 st.2.2.2.1 st.2.2.2.2.1 st.2.2.2.2.2.1 st.2.2.2.2.2.2.1 st.2.2.2.2.2.2.2.1 st.2.2.2.2.2.2.2.2.1 st.2.2.2.2.2.2.2.2.2.1 st.2.2.2.2.2.2.2.2.2.2.1 st.2.2.2.2.2.2.2.2.2.2.2) (r:=r) (fun _=>rfl) ?_ (fun ih=>?_))
   ·intro n158 ih1026;rintro⟨X1,Y1,Z1,a2,b2,c2,e2,g2,i2,j2,k2,l2⟩ h;unfold Rs at h;refine Yu J 5 h (fun h=>wa J 2 (Yi [] (j1002 (X1,Y1,Z1,a2,b2,c2,e2,g2,i2,j2,k2) h))) fun h=>?_;refine wa J 7 (YD (σ:=Int×be×be×Int) (fun st=>⟨[(0,.B 0 0),(3,.B 14 0),(5,.B 21 0),(6,.B 22 0),(7,.B 23 0),(8,.I l2),(9,.B 29 0),(17,.S 3),(18,.I (c.p'.ZF.length:Int)),(19,.I C),(24,.S 13),(25,.I (D.ZA.length:Int)),(26,.I p0),(35,.a [.I q0.Zx.Zt,.s q0.Zx.Zw,.s q0.Zx.Field,.I q0.Zx.N,.I q0.Zy.Zt,.s q0.Zy.Zw,.s q0.Zy.Field,.I q0.Zy.N]),(36,.I l2)],[(0,.box [.sl 24,.s Y1,.sl 25,.sl 26,.sl 27,.sl 28,.s e2,.s g2,.I i2] 125),(14,.box [.s D.Zu,.sl 12,.sl 13] 97),(21,.box [.I q0.Zx.Zt,.s q0.Zx.Zw,.s q0.Zx.Field,.I q0.Zx.N,.s q0.Op,.I q0.Zy.Zt,.s q0.Zy.Zw,.s q0.Zy.Field,.I q0.Zy.N] 104),(22,.box [.I q0.Zx.Zt,.s q0.Zx.Zw,.s q0.Zx.Field,.I q0.Zx.N,.I q0.Zy.Zt,.s q0.Zy.Zw,.s q0.Zy.Field,.I q0.Zy.N] 206),(23,.box [.I j2,.I k2] 154),(28,.own rS c2 false),(29,.box [.I st.1,.s st.2.1,.s st.2.2.1,.I st.2.2.2] 102)],((1,.sl YN c.Z2)::Xg 2 3 4 c.p' (XU 12 13 D [(24,.sl YN X1),(25,.sl rS Z1),(26,.sl Xa a2),(27,.sl Yz b2)])),30⟩) (fun st=>GA N D X1 Y1 Z1 a2 b2 c2 e2 g2 i2 j2 k2 l2 (Rs N D p0 (Un N C (Vr N c n132) D n154) q0 n158) st.1 st.2.1 st.2.2.1 st.2.2.2=some r) ?_ (fun j1029=>?_))
    ·rintro⟨m2,o2,p2,q2⟩ h;unfold GA at h;refine wB J 7 h (fun h=>wa J 6 (Yi [] (ih1026 (X1,Y1,Z1,a2,b2,c2,e2,g2,i2,j2,k2,(Yh (l2+1))) h))) fun h=>?_;refine wO J 8 h fun s2 t2 h=>Wp (Zve N (⟨X1,(⟨Y1,Z1,a2,b2⟩:Yl),c2,(⟨e2,g2,i2⟩:Y6)⟩:Yp) D (⟨m2,o2,p2,q2⟩:Y5) _ t2) [] [(0,.bp 0 0),(1,.sl 24),(2,.sl 25),(3,.sl 26),(4,.sl 27),(5,.sl 28),(6,.sl 12),(7,.sl 13)] [28] (.inr ⟨rfl,trivial⟩) ?_;obtain⟨K,h⟩|⟨K,h⟩:=oc h
     ·refine SZ 0 (by exact lz K) ?_;obtain⟨K,h⟩|⟨K,h⟩:=oc h
      ·refine wa J 5 (SZ 0 (by exact lz K) ?_);refine Yu J 3 h (fun h=>wa J 7 (Yi [] (ih1026 (X1,Y1,Z1,a2,b2,c2,e2,g2,i2,s2,k2,(Yh (l2+1))) h))) fun h=>?_;exact wO J 5 h fun u2 v2 h=>Ym (Wv N (⟨X1,(⟨Y1,Z1,a2,b2⟩:Yl),c2,(⟨e2,g2,i2⟩:Y6)⟩:Yp) D.Zu 10 _ v2) [] [(0,.bp 0 0),(1,.sl 24),(2,.sl 25),(3,.sl 26),(4,.sl 27),(5,.sl 28)] (wa J 6 (Yi [(24,.sl 30),(25,.sl 31),(26,.sl 32),(27,.sl 33),(28,.sl 34)] (ih1026 (u2.Z2,u2.p'.Zu,u2.p'.ZE,u2.p'.ZF,u2.p'.ZG,u2.Z3,u2.Z4.ZY,u2.Z4.Zu,u2.Z4.ZZ,s2,k2,(Yh (l2+1))) h)))
      obtain⟨K,h⟩|⟨K,h⟩:=U6 h
      ·cases h
      refine wa J 5 (SZ 1 (by exact lz K) ?_);refine Yu J 3 h (fun h=>wa J 7 (Yi [] (ih1026 (X1,Y1,Z1,a2,b2,c2,e2,g2,i2,s2,k2,(Yh (l2+1))) h))) fun h=>?_;exact wO J 5 h fun x2 y2 h=>Ym (Wv N (⟨X1,(⟨Y1,Z1,a2,b2⟩:Yl),c2,(⟨e2,g2,i2⟩:Y6)⟩:Yp) D.Zu 10 _ y2) [] [(0,.bp 0 0),(1,.sl 24),(2,.sl 25),(3,.sl 26),(4,.sl 27),(5,.sl 28)] (wa J 6 (Yi [(24,.sl 30),(25,.sl 31),(26,.sl 32),(27,.sl 33),(28,.sl 34)] (ih1026 (x2.Z2,x2.p'.Zu,x2.p'.ZE,x2.p'.ZF,x2.p'.ZG,x2.Z3,x2.Z4.ZY,x2.Z4.Zu,x2.Z4.ZZ,s2,k2,(Yh (l2+1))) h)))
     obtain⟨K,h⟩|⟨K,h⟩:=U6 h
     ·cases h
     refine SZ 1 (by exact lz K) ?_;obtain⟨K,h⟩|⟨K,h⟩:=oc h
     ·refine wa J 5 (SZ 0 (by exact lz K) ?_);refine Yu J 3 h (fun h=>wa J 7 (Yi [] (ih1026 (X1,Y1,Z1,a2,b2,c2,e2,g2,i2,j2,s2,(Yh (l2+1))) h))) fun h=>?_;exact wO J 5 h fun z2 A2 h=>Ym (Wv N (⟨X1,(⟨Y1,Z1,a2,b2⟩:Yl),c2,(⟨e2,g2,i2⟩:Y6)⟩:Yp) D.Zu 10 _ A2) [] [(0,.bp 0 0),(1,.sl 24),(2,.sl 25),(3,.sl 26),(4,.sl 27),(5,.sl 28)] (wa J 6 (Yi [(24,.sl 30),(25,.sl 31),(26,.sl 32),(27,.sl 33),(28,.sl 34)] (ih1026 (z2.Z2,z2.p'.Zu,z2.p'.ZE,z2.p'.ZF,z2.p'.ZG,z2.Z3,z2.Z4.ZY,z2.Z4.Zu,z2.Z4.ZZ,j2,s2,(Yh (l2+1))) h)))
     obtain⟨K,h⟩|⟨K,h⟩:=U6 h
     ·cases h
     refine wa J 5 (SZ 1 (by exact lz K) ?_);refine Yu J 3 h (fun h=>wa J 7 (Yi [] (ih1026 (X1,Y1,Z1,a2,b2,c2,e2,g2,i2,j2,s2,(Yh (l2+1))) h))) fun h=>?_;exact wO J 5 h fun B2 C2 h=>Ym (Wv N (⟨X1,(⟨Y1,Z1,a2,b2⟩:Yl),c2,(⟨e2,g2,i2⟩:Y6)⟩:Yp) D.Zu 10 _ C2) [] [(0,.bp 0 0),(1,.sl 24),(2,.sl 25),(3,.sl 26),(4,.sl 27),(5,.sl 28)] (wa J 6 (Yi [(24,.sl 30),(25,.sl 31),(26,.sl 32),(27,.sl 33),(28,.sl 34)] (ih1026 (B2.Z2,B2.p'.Zu,B2.p'.ZE,B2.p'.ZF,B2.p'.ZG,B2.Z3,B2.Z4.ZY,B2.Z4.Zu,B2.Z4.ZZ,j2,s2,(Yh (l2+1))) h)))
    obtain⟨K,h⟩|⟨K,h⟩:=oc h
    ·exact eAa 0 (by exact lz K) (wa J 4 (Yi [] (j1029 (q0.Zx.Zt,q0.Zx.Zw,q0.Zx.Field,q0.Zx.N) h)))
    obtain⟨K,h⟩|⟨K,h⟩:=oc h
    ·exact eAa 1 (by exact lz K) (wa J 4 (Yi [] (j1029 (q0.Zy.Zt,q0.Zy.Zw,q0.Zy.Field,q0.Zy.N) h)))
    cases h
   exact Yi [(24,.sl 15),(25,.sl 16),(26,.sl 17),(27,.sl 18),(28,.sl 19)] (ih N (c0,e0,g0,i0,j0,k0,l0,m0,o0,0,0,0) h)
  exact Yi [(15,.sl 6),(16,.sl 7),(17,.sl 8),(18,.sl 9),(19,.sl 10)] (ih N (o,p,q,u,v,x,y,z,A,0) h)
 exact Yi [(6,.sl 1),(7,.sl 2),(8,.sl 3),(9,.sl 4),(10,.sl 5)] (ih N (c.Z2,c.p'.Zu,c.p'.ZE,c.p'.ZF,c.p'.ZG,c.Z3,c.Z4.ZY,c.Z4.Zu,c.Z4.ZZ,0) h)
theorem Zvn(c:Yl)(d:Yl)(r:Bool)(h:Zb5 N c d=some r) :
 Fn aB 111 ⟨7,[.a [.s c.Zu,.sl 0,.sl 1,.sl 2],.B 3 0],(Xg 0 1 2 c (Xg 4 5 6 d [])),[(3,.box [.s d.Zu,.sl 4,.sl 5,.sl 6] 56)],7,.O r,[],[(3,.box [.s d.Zu,.sl 4,.sl 5,.sl 6] 56)]⟩:=Yy func111 rfl fun E F w=>by
 unfold Zb5 at h;exact oi h▸wr J 14 func111 []
theorem Zxp(d:(List Yl))(e:Yl)(r:Int)(h:Zah N d e=some r) :
 Fn aB 97 ⟨5,[.S 0,.c (.cl 111 [] [1])],((0,.sl YN d)::Xg 2 3 4 e []),[(1,.box [.s e.Zu,.sl 2,.sl 3,.sl 4] 56)],5,.I r,[],[(1,.box [.s e.Zu,.sl 2,.sl 3,.sl 4] 56)]⟩:=Yy func97 rfl fun E F w=>by
 unfold Zah at h;refine wa J 11 (YD (σ:=Unit) (fun st=>(zz6 e.Zu d e [])) (fun st=>Zd5=some r) ?_ (fun j1=>?_))
 ·intro _ h;unfold Zd5 at h;exact oi h▸wr J 4 func97 []
 refine wa J 1 (YP (σ:=Int) (fun st=>(zz6 e.Zu d e [(0,.S 0),(1,.c (.cl 111 [] [1])),(7,.I (d.length:Int)),(8,.I st)])) (fun n st=>Lv N d e n st) (r:=r) (fun _=>rfl) ?_ (fun ih=>?_))
 ·intro n2 ih3;intro f h;unfold Lv at h;refine Yu J 5 h (fun h=>wa J 2 (Yi [] (j1 () h))) fun h=>?_;refine wO J 14 h fun g i h=>YK J Vw i ?_;refine wO J 1 h fun j k h=>Ym (Zvn N g e _ k) [] [(0,.sl 6),(1,.sl 7),(2,.sl 8),(3,.bp 1 0),(4,.sl 2),(5,.sl 3),(6,.sl 4)] ?_;exact wB J 1 h (fun h=>oi h▸wr J 6 func97 []) fun h=>wa J 7 (Yi [] (ih3 (Yh (f+1)) h))
 exact Yi [] (ih N 0 h)
theorem Zvo(rc:(List Yj)->Option (List be))(rcT:(∀(c:(List Yj)) (r:(List be)),rc c=some r->Fn aB 112 ⟨1,[.S 0],[(0,.sl Yz c)],[],2,.S 1,[],[(1,.own rS r true)]⟩))(c:(List Yj))(r:(List be))(h:Bc N rc c=some r) :
 Fn aB 112 ⟨1,[.S 0],[(0,.sl Yz c)],[],2,.S 1,[],[(1,.own rS r true)]⟩:=Yy func112 rfl fun E F w=>by
 unfold Bc at h;refine wa J 15 (YD (σ:=(List be)) (fun st=>⟨[(3,.S 1)],[(1,.own rS st true)],[(0,.sl Yz c)],2⟩) (fun st=>Zb6 st=some r) ?_ (fun j1=>?_))
 ·intro d h;unfold Zb6 at h;exact oi h▸wr J 5 func112 [(1,.sl 1)]
 refine wa J 1 (YP (σ:=(List be)×Int) (fun st=>⟨[(3,.S 1),(8,.S 0),(9,.I (c.length:Int)),(10,.I st.2)],[(1,.own rS st.1 true)],[(0,.sl Yz c)],2⟩) (fun n st=>Sy N rc c n st.1 st.2) (r:=r) (fun _=>rfl) ?_ (fun ih=>?_))
 ·intro n12 ih15;rintro⟨e,f⟩ h;unfold Sy at h;refine Yu J 5 h (fun h=>wa J 2 (Yi [] (j1 e h))) fun h=>?_;refine wO J 6 h fun g i h=>YK J R7 i (wa J 11 (YD (σ:=(List be)) (fun st=>⟨[(3,.S 6),(5,.B 5 0),(8,.S 0),(9,.I (c.length:Int)),(10,.I f)],[(5,.box [.I g.Zt,.s g.ZB,.sl 3,.s g.Zu,.s g.As,.I g.ZC,.sl 4] 132),(6,.own rS st true)],[(0,.sl Yz c),(3,.sl rS g.To),(4,.sl (YH Yz) g.ZD)],7⟩) (fun st=>H3 N rc f (Sy N rc c n12) g st=some r) ?_ (fun j24=>?_)))
  ·intro j h;unfold H3 at h;refine wa J 7 (YD (σ:=(List be)) (fun st=>⟨[(3,.S 7),(8,.S 0),(9,.I (c.length:Int)),(10,.I f)],[(7,.own rS st true)],[(0,.sl Yz c)],8⟩) (fun st=>Zb7 f (Sy N rc c n12) st=some r) ?_ (fun j25=>?_))
   ·intro k h;unfold Zb7 at h;exact wa J 5 (Yi [(1,.sl 7)] (ih15 (k,(Yh (f+1))) h))
   refine wa J 1 (YP (σ:=(List be)×Int) (fun st=>⟨[(3,.S 7),(8,.S 0),(9,.I (c.length:Int)),(10,.I f),(23,.S 4),(24,.I (g.ZD.length:Int)),(25,.I st.2)],[(7,.own rS st.1 true)],[(0,.sl Yz c),(4,.sl (YH Yz) g.ZD)],8⟩) (fun n st=>My rc f (Sy N rc c n12) g n st.1 st.2) (r:=r) (fun _=>rfl) ?_ (fun ih=>?_))
   ·intro n14 ih27;rintro⟨l,m⟩ h;unfold My at h;refine Yu J 5 h (fun h=>wa J 2 (Yi [] (j25 l h))) fun h=>?_;refine wO J 6 h fun o p h=>YK J (Xj Yz) p ?_;refine wO J 6 h fun q t h=>Ym (rcT o _ t) [] [(0,.sl 9)] ?_;have⟨u,v,h⟩:=ob h;exact Xu J rS v (wa J 7 (Yi [(7,.sl 11)] (ih27 (u,(Yh (m+1))) h)))
   exact Yi [(7,.sl 6)] (ih N (j,0) h)
  refine Wj h (fun h=>wa J 2 (Yi [(6,.sl 1)] (j24 e h))) fun h=>wa J 5 (YW J [] oS ([g.Zu]:List be) ?_);have⟨x,y,h⟩:=ob h;exact Xu J rS y (wa J 2 (Yi [(6,.sl 7)] (j24 x h)))
 exact Yi [(1,.nil)] (ih N (([]:List be),0) h)
theorem Zvq:∀(N:Nat) (c:(List Yj)) (r:(List be)) (h:Zb8 N c=some r),Fn aB 112 ⟨1,[.S 0],[(0,.sl Yz c)],[],2,.S 1,[],[(1,.own rS r true)]⟩:=by
 intro N;induction N with
 |zero=>intros;rename_i h;cases h
 |succ N ih=>intro c r h;exact Zvo N (Zb8 N) ih c r h
theorem Zvp(c:(List Yj))(r:(List be))(h:Mx N c=some r):Fn aB 112 ⟨1,[.S 0],[(0,.sl Yz c)],[],2,.S 1,[],[(1,.own rS r true)]⟩:=Zvq N c r h
theorem Zvr(c:List be)(r:List be)(h:Zb9 N c=some r):Fn aB 113 ⟨1,[.S 0],[],[(0,.own rS c false)],1,.t [],[],[(0,.own rS r false)]⟩:=by
 unfold Zb9 at h;cases hb:(decide ((c.length:Int)<=4611686018427387903)) with
 |false=>rw[hb]at h;cases h
 |true=>
  rw[hb]at h;simp only[l9,aR]at h;subst h;simp only[l8]at hb;exact Zus c (by omega)
theorem Zvs(c:List be)(r:List be)(h:Zca N c=some r):Fn aB 114 ⟨1,[.S 0],[],[(0,.own rS c false)],2,.S 1,[],[(1,.own rS r false),(0,.gone)]⟩:=by
 unfold Zca at h;cases hb:(decide ((c.length:Int)<=4611686018427387903)) with
 |false=>rw[hb]at h;cases h
 |true=>
  rw[hb]at h;simp only[l9,aR]at h;subst h;simp only[l8]at hb;exact Zo0 c (by omega)
theorem Zvu(c:Yl)(d:be)(r:Bool)(h:Zcc N c d=some r) :
 Fn aB 117 ⟨4,[.a [.s c.Zu,.sl 0,.sl 1,.sl 2],.B 3 0],(Xg 0 1 2 c []),[(3,.box [.s d] 9)],4,.O r,[],[(3,.box [.s d] 9)]⟩:=Yy func117 rfl fun E F w=>by
 unfold Zcc at h;exact oi h▸wr J 13 func117 []
theorem Zxq(d:(List Yl))(e:be)(r:Int)(h:Zai N d e=some r) :
 Fn aB 97 ⟨2,[.S 0,.c (.cl 117 [] [1])],[(0,.sl YN d)],[(1,.box [.s e] 9)],2,.I r,[],[(1,.box [.s e] 9)]⟩:=Yy func97 rfl fun E F w=>by
 unfold Zai at h;refine wa J 11 (YD (σ:=Unit) (fun st=>⟨[],[(1,.box [.s e] 9)],[(0,.sl YN d)],2⟩) (fun st=>Zd6=some r) ?_ (fun j1=>?_))
 ·intro _ h;unfold Zd6 at h;exact oi h▸wr J 4 func97 []
 refine wa J 1 (YP (σ:=Int) (fun st=>⟨[(0,.S 0),(1,.c (.cl 117 [] [1])),(7,.I (d.length:Int)),(8,.I st)],[(1,.box [.s e] 9)],[(0,.sl YN d)],2⟩) (fun n st=>Lw N d e n st) (r:=r) (fun _=>rfl) ?_ (fun ih=>?_))
 ·intro n2 ih3;intro f h;unfold Lw at h;refine Yu J 5 h (fun h=>wa J 2 (Yi [] (j1 () h))) fun h=>?_;refine wO J 14 h fun g i h=>YK J Vw i ?_;refine wO J 1 h fun j k h=>Ym (Zvu N g e _ k) [] [(0,.sl 3),(1,.sl 4),(2,.sl 5),(3,.bp 1 0)] ?_;exact wB J 1 h (fun h=>oi h▸wr J 6 func97 []) fun h=>wa J 7 (Yi [] (ih3 (Yh (f+1)) h))
 exact Yi [] (ih N 0 h)
theorem ZwI(d:(List Yl))(e:be)(r:Bool)(h:BM N d e=some r) :
 Fn aB 44 ⟨2,[.S 0,.c (.cl 117 [] [1])],[(0,.sl YN d)],[(1,.box [.s e] 9)],2,.O r,[],[(1,.box [.s e] 9)]⟩:=Yy func44 rfl fun E F w=>by
 unfold BM at h;refine wO J 8 h fun f g h=>Ym (Zxq N d e _ g) [] [(0,.sl 0),(1,.bp 1 0)] ?_;exact oi h▸wr J 3 func44 []
theorem ZmS(d:be)(e:Yp)(r:Bool)(h:Mz N d e=some r) :
 Fn aB 116 ⟨7,[.c (.s d),.B 6 0],(Mm 1 2 3 4 5 e []),[(0,.box (XP 1 2 3 4 5 e) 125),(6,.box [.bp 0 0] 123)],7,.O r,[],[(0,.box (XP 1 2 3 4 5 e) 125),(6,.box [.bp 0 0] 123)]⟩:=Yy func116 rfl fun E F w=>by
 unfold Mz at h;refine wO J 12 h fun f g h=>Ym (ZwI N e.Z2 d _ g) [] [(0,.sl 1),(1,.bp 7 0)] ?_;exact oi h▸wr J 3 func116 []
theorem ZvP(d:(List be))(e:Yp)(r:Int)(h:Bo N d e=some r) :
 Fn aB 144 ⟨8,[.S 0,.c (.cl 116 [] [7])],((0,.sl rS d)::Mm 2 3 4 5 6 e []),[(1,.box (XP 2 3 4 5 6 e) 125),(7,.box [.bp 1 0] 123)],8,.I r,[],[(1,.box (XP 2 3 4 5 6 e) 125),(7,.box [.bp 1 0] 123)]⟩:=Yy func144 rfl fun E F w=>by
 unfold Bo at h;refine wa J 11 (YD (σ:=Unit) (fun st=>(ZnD e d [])) (fun st=>ZcK=some r) ?_ (fun j1=>?_))
 ·intro _ h;unfold ZcK at h;exact oi h▸wr J 4 func144 []
 refine wa J 1 (YP (σ:=Int) (fun st=>(ZnD e d [(0,.S 0),(1,.c (.cl 116 [] [7])),(7,.I (d.length:Int)),(8,.I st)])) (fun n st=>MQ N d e n st) (r:=r) (fun _=>rfl) ?_ (fun ih=>?_))
 ·intro n2 ih3;intro f h;unfold MQ at h;refine Yu J 5 h (fun h=>wa J 2 (Yi [] (j1 () h))) fun h=>?_;refine wO J 14 h fun g i h=>YK J oS i ?_;refine wO J 1 h fun j k h=>Ym (ZmS N g e _ k) [] [(0,.bp 1 0),(1,.sl 2),(2,.sl 3),(3,.sl 4),(4,.sl 5),(5,.sl 6),(6,.bp 7 0)] ?_;exact wB J 1 h (fun h=>oi h▸wr J 6 func144 []) fun h=>wa J 7 (Yi [] (ih3 (Yh (f+1)) h))
 exact Yi [] (ih N 0 h)
theorem Zvt(d:(List be))(e:Yp)(r:(List be))(h:Bd N d e=some r) :
 Fn aB 115 ⟨8,[.S 0,.c (.cl 116 [] [7])],(Mm 2 3 4 5 6 e []),[(0,.own rS d false),(1,.box (XP 2 3 4 5 6 e) 125),(7,.box [.bp 1 0] 123)],9,.S 8,[],[(8,.own rS r false),(0,.gone),(1,.box (XP 2 3 4 5 6 e) 125),(7,.box [.bp 1 0] 123)]⟩:=Yy func115 rfl fun E F w=>by
 unfold Bd at h;refine wO J 8 h fun f g h=>Wp (ZvP N d e _ g) [] [(0,.sl 0),(1,.bp 1 0),(2,.sl 2),(3,.sl 3),(4,.sl 4),(5,.sl 5),(6,.sl 6),(7,.bp 7 0)] [0] (.inr ⟨rfl,trivial⟩) ?_;refine wB J 8 h (fun h=>oi h▸wr J 6 func115 [(8,.sl 0)]) fun h=>wa J 9 (YD (σ:=(List be)×Int) (fun st=>(ZnE st.1 e [(0,.S 0),(5,.I st.2)])) (fun st=>Zcb st.1 st.2=some r) ?_ (fun j1=>?_))
 ·rintro⟨i,j⟩ h;unfold Zcb at h;refine wO J 4 h fun k l h=>VT J rS l ?_;have⟨m,o,h⟩:=ob h;refine eCe J o ?_;refine wO J 5 h fun p q h=>VT J rS q (wa J 2 (eSl rS 9 q ?_));cases h;exact Xi J func115 [(8,.sl 9)]
 refine wa J 1 (YP (σ:=(List be)×Int×Int) (fun st=>(ZnE st.1 e [(0,.S 0),(1,.c (.cl 116 [] [7])),(5,.I st.2.1),(6,.I st.2.2)])) (fun n st=>Pi N e n st.1 st.2.1 st.2.2) (r:=r) (fun _=>rfl) ?_ (fun ih=>?_))
 ·intro n2 ih3;rintro⟨s,t,u⟩ h;unfold Pi at h;refine Yu J 8 h (fun h=>wa J 2 (Yi [] (j1 (s,t) h))) fun h=>?_;refine wO J 8 h fun v x h=>XA J rS x (Wt J oS x ?_);refine wO J 6 h fun y z h=>Ym (ZmS N v e _ z) [] [(0,.bp 1 0),(1,.sl 2),(2,.sl 3),(3,.sl 4),(4,.sl 5),(5,.sl 6),(6,.bp 7 0)] ?_;refine Yu J 2 h (fun h=>wa J 8 (Yi [] (ih3 (s,t,(Yh (u+1))) h))) fun h=>?_;exact wO J 6 h fun A C h=>XA J rS C (Uc J [] oS v C (wa J 12 (Yi [] (ih3 ((YE s t v),(Yh (t+1)),(Yh (u+1))) h))))
 exact Yi [] (ih N (d,f,(Yh (f+1))) h)
theorem ZwP(c:Yp)(r:Yp)(h:z51 N c=some r) :
 Fn aB 51 ⟨6,[.B 0 0],((1,.sl YN c.Z2)::Xg 2 3 4 c.p' []),[(0,.box (XP 1 2 3 4 5 c) 125),(5,.own rS c.Z3 false)],11,.t [],((6,.sl YN r.Z2)::Xg 7 8 9 r.p' []),[(5,.gone),(10,.own rS r.Z3 false),(0,.box (XP 6 7 8 9 10 r) 125)]⟩:=Yy func51 rfl fun E F w=>by
 unfold z51 at h;refine wa J 11 (YW J [] oS ([c.p'.Zu]:List be) (wa J 7 (YD (σ:=(List be)) (fun st=>(ZnF c c.Z3 st c.Z2 c.p' [(1,.B 6 0),(2,.S 8)])) (fun st=>Zdz N c st=some r) ?_ (fun j1=>?_))))
 ·intro d h;unfold Zdz at h;refine Yu J 6 h (fun h=>oi h▸wr J 2 func51 [(6,.sl 1),(7,.sl 2),(8,.sl 3),(9,.sl 4),(10,.sl 5)]) fun h=>?_;refine wO J 8 h fun e f h=>Ym (Wv N c c.p'.Zu 6 _ f) [] [(0,.bp 0 0),(1,.sl 1),(2,.sl 2),(3,.sl 3),(4,.sl 4),(5,.sl 5)] (YL ?_);cases h;exact Xi J func51 [(6,.sl 9),(7,.sl 10),(8,.sl 11),(9,.sl 12),(10,.sl 13)]
 refine wa J 1 (YP (σ:=(List be)×Int) (fun st=>(ZnF c c.Z3 st.1 c.Z2 c.p' [(1,.B 6 0),(2,.S 8),(13,.I st.2)])) (fun n st=>Rt N c n st.1 st.2) (r:=r) (fun _=>rfl) ?_ (fun ih=>?_))
 ·intro n12 ih12;rintro⟨g,i⟩ h;unfold Rt at h;refine Yu J 5 h (fun h=>wa J 2 (Yi [] (j1 g h))) fun h=>wa J 18 (YD (σ:=(List be)) (fun st=>⟨[(1,.B 6 0),(3,.S 9),(13,.I i)],[(0,.box (XP 1 2 3 4 5 c) 125),(5,.own rS c.Z3 false),(6,.box [.bp 0 0] 123),(9,.own rS st true)],((1,.sl YN c.Z2)::Xg 2 3 4 c.p' []),10⟩) (fun st=>GH N c i (Rt N c n12) st=some r) ?_ (fun j19=>?_))
  ·intro j h;unfold GH at h;refine wO J 3 h fun k l h=>Ym (Zvr N j _ l) [] [(0,.sl 9)] ?_;refine wO J 4 h fun m o h=>Ym (Zvs N k _ o) [] [(0,.sl 9)] ?_;exact wO J 5 h fun p q h=>Wp (Zvt N m c _ q) [] [(0,.sl 10),(1,.bp 0 0),(2,.sl 1),(3,.sl 2),(4,.sl 3),(5,.sl 4),(6,.sl 5),(7,.bp 6 0)] [5] (.inr ⟨rfl,⟨Ztq,trivial⟩⟩) (wa J 7 (Yi [(8,.sl 11)] (ih12 (p,(Yh (i+1))) h)))
  refine wa J 1 (YP (σ:=(List be)×Int) (fun st=>⟨[(1,.B 6 0),(2,.S 8),(3,.S 9),(13,.I i),(18,.S 1),(19,.I (c.Z2.length:Int)),(20,.I st.2)],[(0,.box (XP 1 2 3 4 5 c) 125),(5,.own rS c.Z3 false),(6,.box [.bp 0 0] 123),(8,.own rS g true),(9,.own rS st.1 true)],((1,.sl YN c.Z2)::Xg 2 3 4 c.p' []),10⟩) (fun n st=>SG N c g i (Rt N c n12) n st.1 st.2) (r:=r) (fun _=>rfl) ?_ (fun ih=>?_))
  ·intro n14 ih21;rintro⟨s,u⟩ h;unfold SG at h;refine Yu J 5 h (fun h=>wa J 2 (Yi [] (j19 s h))) fun h=>?_;refine wO J 7 h fun v x h=>YK J Vw x ?_;refine wO J 12 h fun y z h=>Ym (Zxp N c.Z2 v _ z) [] [(0,.sl 1),(1,.bp 14 0),(2,.sl 11),(3,.sl 12),(4,.sl 13)] ?_;refine Yu J 8 h (fun h=>wa J 13 (Yi [] (ih21 (s,(Yh (u+1))) h))) fun h=>?_;refine wO J 3 h fun A C h=>Wp (PA N g v.Zu _ C) [] [(0,.sl 8)] [8] (.inr ⟨rfl,trivial⟩) ?_;refine Yu J 2 h (fun h=>wa J 7 (Yi [] (ih21 (s,(Yh (u+1))) h))) fun h=>?_;refine wO J 5 h fun D G h=>Ym (Zvp N v.ZG _ G) [] [(0,.sl 13)] ?_;have⟨H,R,h⟩:=ob h;exact Xu J rS R (wa J 7 (Yi [(9,.sl 16)] (ih21 (H,(Yh (u+1))) h)))
  exact Yi [(9,.nil)] (ih N (([]:List be),0) h)
 exact Yi [(8,.sl 7)] (ih N (([c.p'.Zu]:List be),0) h)
theorem Zm2(c:(List Yl))(r:Y6)(h:Po N c=some r) :
 Fn aB 17 ⟨2,[.S 0],[(0,.sl YN c)],[(1,.abs kx)],2,.a (ZoA r),[],[(1,.abs kx)]⟩:=Yy func17 rfl fun E F w=>by
 unfold Po at h;refine wO J 8 h fun d e h=>Ym (Zm1 N c _ e) [] [(0,.sl 0),(1,.sl 1)] ?_;refine wB J 2 h (fun h=>oi h▸wr J 6 func17 []) fun h=>wa J 9 (YD (σ:=Unit) (fun st=>(ZnG kx c [(2,.B 2 0)])) (fun st=>ZgX=some r) ?_ (fun j1=>?_))
 ·intro _ h;unfold ZgX at h;exact oi h▸wr J 5 func17 []
 refine wa J 1 (YP (σ:=Int) (fun st=>(ZnG kx c [(0,.S 0),(2,.B 2 0),(11,.S 0),(12,.I (c.length:Int)),(13,.I st)])) (fun n st=>UQ N c n st) (r:=r) (fun _=>rfl) ?_ (fun ih=>?_))
 ·intro n12 ih15;intro f h;unfold UQ at h;refine Yu J 5 h (fun h=>wa J 2 (Yi [] (j1 () h))) fun h=>?_;refine wO J 7 h fun g i h=>YK J Vw i ?_;refine wO J 18 h fun j k h=>Dj J YN k ?_;refine wO J 1 h fun l m h=>Ym (ZwH N j g _ m) [] [(0,.sl 9),(1,.bp 7 0),(2,.sl 4),(3,.sl 5),(4,.sl 6)] (wa J 1 (YD (σ:=(List Yl)×be×(List be)×(List Ys)×(List Yj)×(List be)×be×be×Int) (fun st=>⟨[(0,.S 0),(2,.B 2 0),(4,.B 7 0),(5,.B 8 0),(11,.S 0),(12,.I (c.length:Int)),(13,.I f)],[(1,.abs kx),(2,.box [.s (str []),.s (str []),.I 0] 70),(7,.box [.s g.Zu,.sl 4,.sl 5,.sl 6] 56),(8,.box [.sl 10,.s st.2.1,.sl 11,.sl 12,.sl 13,.sl 14,.s st.2.2.2.2.2.2.1,.s st.2.2.2.2.2.2.2.1,.I st.2.2.2.2.2.2.2.2] 125),(14,.own rS st.2.2.2.2.2.1 true)],((0,.sl YN c)::Xg 4 5 6 g [(10,.sl YN st.1),(11,.sl rS st.2.2.1),(12,.sl Xa st.2.2.2.1),(13,.sl Yz st.2.2.2.2.1)]),15⟩) (fun st=>Pq N f (UQ N c n12) g st.1 st.2.1 st.2.2.1 st.2.2.2.1 st.2.2.2.2.1 st.2.2.2.2.2.1 st.2.2.2.2.2.2.1 st.2.2.2.2.2.2.2.1 st.2.2.2.2.2.2.2.2=some r) ?_ (fun j24=>?_)))
  ·rintro⟨o,p,q,t,u,v,x,y,z⟩ h;unfold Pq at h;refine wa J 8 (YD (σ:=(List Yl)×be×(List be)×(List Ys)×(List Yj)×(List be)×be×be×Int) (fun st=>(ZnH kx g.Zu st.2.1 st.2.2.2.2.2.2.1 st.2.2.2.2.2.2.2.1 st.2.2.2.2.2.2.2.2 st.2.2.2.2.2.1 c g st.1 st.2.2.1 st.2.2.2.1 st.2.2.2.2.1 [(0,.S 0),(2,.B 2 0),(4,.B 7 0),(5,.B 8 0),(11,.S 0),(12,.I (c.length:Int)),(13,.I f)])) (fun st=>Gg N f (UQ N c n12) g st.1 st.2.1 st.2.2.1 st.2.2.2.1 st.2.2.2.2.1 st.2.2.2.2.2.1 st.2.2.2.2.2.2.1 st.2.2.2.2.2.2.2.1 st.2.2.2.2.2.2.2.2=some r) ?_ (fun j25=>?_))
   ·rintro⟨A,C,D,G,H,R,T,U,X⟩ h;unfold Gg at h;refine wO J 3 h fun Y Z h=>Ym (ZwK N (⟨A,(⟨C,D,G,H⟩:Yl),R,(⟨T,U,X⟩:Y6)⟩:Yp) _ Z) [] [(0,.bp 8 0),(1,.sl 15),(2,.sl 16),(3,.sl 17),(4,.sl 18),(5,.sl 19)] ?_;refine wO J 4 h fun a0 b0 h=>Ym (ZwL N Y _ b0) [] [(0,.bp 8 0),(1,.sl 20),(2,.sl 21),(3,.sl 22),(4,.sl 23),(5,.sl 24)] ?_;refine wO J 6 h fun c0 e0 h=>Ym (ZwN N a0 g.ZG ([]:List YT) _ e0) [] [(0,.bp 8 0),(1,.sl 25),(2,.sl 26),(3,.sl 27),(4,.sl 28),(5,.sl 29),(6,.sl 6),(7,.nil)] ?_;refine wO J 4 h fun g0 i0 h=>Ym (ZwP N c0 _ i0) [] [(0,.bp 8 0),(1,.sl 30),(2,.sl 31),(3,.sl 32),(4,.sl 33),(5,.sl 34)] ?_;exact wB J 10 h (fun h=>oi h▸wr J 9 func17 []) fun h=>wa J 7 (Yi [] (ih15 (Yh (f+1)) h))
   refine wa J 1 (YP (σ:=(List Yl)×be×(List be)×(List Ys)×(List Yj)×(List be)×be×be×Int×Int) (fun st=>(ZnH kx g.Zu st.2.1 st.2.2.2.2.2.2.1 st.2.2.2.2.2.2.2.1 st.2.2.2.2.2.2.2.2.1 st.2.2.2.2.2.1 c g st.1 st.2.2.1 st.2.2.2.1 st.2.2.2.2.1 [(0,.S 0),(2,.B 2 0),(4,.B 7 0),(5,.B 8 0),(11,.S 0),(12,.I (c.length:Int)),(13,.I f),(33,.I (g.ZE.length:Int)),(34,.I st.2.2.2.2.2.2.2.2.2)])) (fun n st=>Pr N f (UQ N c n12) g n st.1 st.2.1 st.2.2.1 st.2.2.2.1 st.2.2.2.2.1 st.2.2.2.2.2.1 st.2.2.2.2.2.2.1 st.2.2.2.2.2.2.2.1 st.2.2.2.2.2.2.2.2.1 st.2.2.2.2.2.2.2.2.2) (r:=r) (fun _=>rfl) ?_ (fun ih=>?_))
   ·intro n14 ih27;rintro⟨j0,k0,l0,m0,o0,p0,q0,s0,t0,u0⟩ h;unfold Pr at h;refine Yu J 5 h (fun h=>wa J 2 (Yi [] (j25 (j0,k0,l0,m0,o0,p0,q0,s0,t0) h))) fun h=>?_;refine wO J 14 h fun v0 x0 h=>Ym (Zm8 N g.ZE u0 _ x0) [] [(0,.sl 4)] ?_;refine Yu J 1 h (fun h=>wa J 7 (Yi [] (ih27 (j0,k0,l0,m0,o0,p0,q0,s0,t0,(Yh (u0+1))) h))) fun h=>?_;refine wO J 6 h fun y0 z0 h=>YK J oS z0 ?_;exact wO J 1 h fun A0 B0 h=>Ym (Wv N (⟨j0,(⟨k0,l0,m0,o0⟩:Yl),p0,(⟨q0,s0,t0⟩:Y6)⟩:Yp) y0 9 _ B0) [] [(0,.bp 8 0),(1,.sl 15),(2,.sl 16),(3,.sl 17),(4,.sl 18),(5,.sl 19)] (wa J 6 (Yi [(15,.sl 21),(16,.sl 22),(17,.sl 23),(18,.sl 24),(19,.sl 25)] (ih27 (A0.Z2,A0.p'.Zu,A0.p'.ZE,A0.p'.ZF,A0.p'.ZG,A0.Z3,A0.Z4.ZY,A0.Z4.Zu,A0.Z4.ZZ,(Yh (u0+1))) h)))
   exact Yi [(15,.sl 10),(16,.sl 11),(17,.sl 12),(18,.sl 13),(19,.sl 14)] (ih N (o,p,q,t,u,v,x,y,z,0) h)
  refine Wj h (fun h=>wa J 2 (Yi [(10,.sl 0),(11,.sl 4),(12,.sl 5),(13,.sl 6),(14,.nil)] (j24 (c,g.Zu,g.ZE,g.ZF,g.ZG,([]:List be),(str []),(str []),0) h))) fun h=>?_;exact wO J 5 h fun C0 D0 h=>Ym (Wv N (⟨c,g,([]:List be),(⟨(str []),(str []),0⟩:Y6)⟩:Yp) g.Zu 9 _ D0) [] [(0,.bp 8 0),(1,.sl 0),(2,.sl 4),(3,.sl 5),(4,.sl 6),(5,.nil)] (wa J 1 (Yi [] (j24 (C0.Z2,C0.p'.Zu,C0.p'.ZE,C0.p'.ZF,C0.p'.ZG,C0.Z3,C0.Z4.ZY,C0.Z4.Zu,C0.Z4.ZZ) h)))
 exact Yi [] (ih N 0 h)
theorem ZwR(rc:(List Yj)->Option Bool)(rcT:(∀(c:(List Yj)) (r:Bool),rc c=some r->Fn aB 18 ⟨1,[.S 0],[(0,.sl Yz c)],[],1,.O r,[],[]⟩))(d:(List Yj))(r:Bool)(h:z53 N rc d=some r) :
 Fn aB 53 ⟨1,[.S 0],[(0,.sl Yz d)],[],1,.O r,[],[]⟩:=Yy func53 rfl fun E F w=>by
 unfold z53 at h;refine wO J 7 h fun e f h=>Ym (rcT d _ f) [] [(0,.sl 0)] ?_;exact oi h▸wr J 3 func53 []
theorem Zvv(rc:(List Yj)->Option Bool)(rcT:(∀(d:(List Yj)) (r:Bool),rc d=some r->Fn aB 18 ⟨1,[.S 0],[(0,.sl Yz d)],[],1,.O r,[],[]⟩))(e:(List (List Yj)))(r:Int)(h:Zcd N rc e=some r) :
 Fn aB 118 ⟨1,[.S 0,.c (.cl 53 [] [])],[(0,.sl (YH Yz) e)],[],1,.I r,[],[]⟩:=Yy func118 rfl fun E F w=>by
 unfold Zcd at h;refine wa J 11 (YD (σ:=Unit) (fun st=>⟨[],[],[(0,.sl (YH Yz) e)],1⟩) (fun st=>Zce=some r) ?_ (fun j1=>?_))
 ·intro _ h;unfold Zce at h;exact oi h▸wr J 4 func118 []
 refine wa J 1 (YP (σ:=Int) (fun st=>⟨[(0,.S 0),(1,.c (.cl 53 [] [])),(7,.I (e.length:Int)),(8,.I st)],[],[(0,.sl (YH Yz) e)],1⟩) (fun n st=>MA N rc e n st) (r:=r) (fun _=>rfl) ?_ (fun ih=>?_))
 ·intro n2 ih3;intro f h;unfold MA at h;refine Yu J 5 h (fun h=>wa J 2 (Yi [] (j1 () h))) fun h=>?_;refine wO J 14 h fun g i h=>YK J (Xj Yz) i ?_;refine wO J 1 h fun j k h=>Ym (ZwR N rc rcT g _ k) [] [(0,.sl 2)] ?_;exact wB J 1 h (fun h=>oi h▸wr J 6 func118 []) fun h=>wa J 7 (Yi [] (ih3 (Yh (f+1)) h))
 exact Yi [] (ih N 0 h)
theorem ZwQ(rc:(List Yj)->Option Bool)(rcT:(∀(d:(List Yj)) (r:Bool),rc d=some r->Fn aB 18 ⟨1,[.S 0],[(0,.sl Yz d)],[],1,.O r,[],[]⟩))(e:(List (List Yj)))(r:Bool)(h:ZdA N rc e=some r) :
 Fn aB 52 ⟨1,[.S 0,.c (.cl 53 [] [])],[(0,.sl (YH Yz) e)],[],1,.O r,[],[]⟩:=Yy func52 rfl fun E F w=>by
 unfold ZdA at h;refine wO J 8 h fun f g h=>Ym (Zvv N rc rcT e _ g) [] [(0,.sl 0)] ?_;exact oi h▸wr J 3 func52 []
theorem Zwd(rc:(List Yj)->Option Bool)(rcT:(∀(c:(List Yj)) (r:Bool),rc c=some r->Fn aB 18 ⟨1,[.S 0],[(0,.sl Yz c)],[],1,.O r,[],[]⟩))(c:(List Yj))(r:Bool)(h:ZgZ N rc c=some r) :
 Fn aB 18 ⟨1,[.S 0],[(0,.sl Yz c)],[],1,.O r,[],[]⟩:=Yy func18 rfl fun E F w=>by
 unfold ZgZ at h;refine wa J 11 (YD (σ:=Unit) (fun st=>⟨[],[],[(0,.sl Yz c)],1⟩) (fun st=>Zc5=some r) ?_ (fun j1=>?_))
 ·intro _ h;unfold Zc5 at h;exact oi h▸wr J 4 func18 []
 refine wa J 1 (YP (σ:=Int) (fun st=>⟨[(5,.S 0),(6,.I (c.length:Int)),(7,.I st)],[],[(0,.sl Yz c)],1⟩) (fun n st=>MY N rc c n st) (r:=r) (fun _=>rfl) ?_ (fun ih=>?_))
 ·intro n2 ih3;intro d h;unfold MY at h;refine Yu J 5 h (fun h=>wa J 2 (Yi [] (j1 () h))) fun h=>?_;refine wO J 6 h fun e f h=>YK J R7 f ?_;refine wB J 10 h (fun h=>oi h▸wr J 15 func18 []) fun h=>?_;refine wB J 5 h (fun h=>oi h▸wr J 10 func18 []) fun h=>?_;refine wO J 2 h fun g i h=>Ym (ZwQ N rc rcT e.ZD _ i) [] [(0,.sl 3)] ?_;exact wB J 2 h (fun h=>oi h▸wr J 5 func18 []) fun h=>wa J 7 (Yi [] (ih3 (Yh (d+1)) h))
 exact Yi [] (ih N 0 h)
theorem Zwf:∀(N:Nat) (c:(List Yj)) (r:Bool) (h:Ps N c=some r),Fn aB 18 ⟨1,[.S 0],[(0,.sl Yz c)],[],1,.O r,[],[]⟩:=by
 intro N;induction N with
 |zero=>intros;rename_i h;cases h
 |succ N ih=>intro c r h;exact Zwd N (Ps N) ih c r h
theorem Zwe(c:(List Yj))(r:Bool)(h:z18 N c=some r):Fn aB 18 ⟨1,[.S 0],[(0,.sl Yz c)],[],1,.O r,[],[]⟩:=Zwf N c r h
theorem ZwS(c:(List T3))(r:(List T3))(h:BY N c=some r) :
 Fn aB 54 ⟨1,[.S 0],[(0,.sl XK c)],[],2,.S 1,[],[(1,.own XK r true)]⟩:=Yy func54 rfl fun E F w=>by
 unfold BY at h;refine wa J 8 (eNi XK c false ?_);intro nb hnb;cases nb
 ·refine wa J 5 (YW J [] Sq ([]:List T3) ?_);refine wO J 1 h fun d e h=>Xu J XK e ?_;exact oi h▸wr J 2 func54 [(1,.sl 2)]
 ·obtain rfl:=hnb rfl;replace h:(some ([]:List T3):Option (List T3))=some r:=h;exact oi h▸wr J 6 func54 [(1,.nil)]
theorem ZwU(c:T0)(d:Y5)(r:Bool)(h:ZdC N c d=some r) :
 Fn aB 57 ⟨4,[.a (cC0 0 1 2 c),.B 3 0],[(0,.sl XK c.Zz)],[(3,.box (X2 d) 102)],4,.O r,[],[(3,.box (X2 d) 102)]⟩:=Yy func57 rfl fun E F w=>by
 unfold ZdC at h;exact oi h▸wr J 14 func57 []
theorem ZwT(d:(List T0))(e:Y5)(r:Int)(h:BZ N d e=some r) :
 Fn aB 56 ⟨2,[.S 0,.c (.cl 57 [] [1])],[(0,.sl lI d)],[(1,.box (X2 e) 102)],2,.I r,[],[(1,.box (X2 e) 102)]⟩:=Yy func56 rfl fun E F w=>by
 unfold BZ at h;refine wa J 11 (YD (σ:=Unit) (fun st=>⟨[],[(1,.box (X2 e) 102)],[(0,.sl lI d)],2⟩) (fun st=>ZdB=some r) ?_ (fun j1=>?_))
 ·intro _ h;unfold ZdB at h;exact oi h▸wr J 4 func56 []
 refine wa J 1 (YP (σ:=Int) (fun st=>⟨[(0,.S 0),(1,.c (.cl 57 [] [1])),(7,.I (d.length:Int)),(8,.I st)],[(1,.box (X2 e) 102)],[(0,.sl lI d)],2⟩) (fun n st=>Lc N d e n st) (r:=r) (fun _=>rfl) ?_ (fun ih=>?_))
 ·intro n2 ih3;intro f h;unfold Lc at h;refine Yu J 5 h (fun h=>wa J 2 (Yi [] (j1 () h))) fun h=>?_;refine wO J 14 h fun g i h=>YK J ZfY i ?_;refine wO J 1 h fun j k h=>Ym (ZwU N g e _ k) [] [(0,.sl 3),(1,.sl 4),(2,.sl 5),(3,.bp 1 0)] ?_;exact wB J 1 h (fun h=>oi h▸wr J 6 func56 []) fun h=>wa J 7 (Yi [] (ih3 (Yh (f+1)) h))
 exact Yi [] (ih N 0 h)
theorem ZwY(c:T3)(d:Y5)(r:Bool)(h:ZdG N c d=some r) :
 Fn aB 59 ⟨1,[.a (V8 c),.B 0 0],[],[(0,.box (X2 d) 102)],1,.O r,[],[(0,.box (X2 d) 102)]⟩:=Yy func59 rfl fun E F w=>by
 unfold ZdG at h;exact oi h▸wr J 14 func59 []
theorem ZwX(d:(List T3))(e:Y5)(r:Int)(h:B5 N d e=some r) :
 Fn aB 58 ⟨2,[.S 0,.c (.cl 59 [] [1])],[(0,.sl XK d)],[(1,.box (X2 e) 102)],2,.I r,[],[(1,.box (X2 e) 102)]⟩:=Yy func58 rfl fun E F w=>by
 unfold B5 at h;refine wa J 11 (YD (σ:=Unit) (fun st=>(zz7 e d [])) (fun st=>ZdF=some r) ?_ (fun j1=>?_))
 ·intro _ h;unfold ZdF at h;exact oi h▸wr J 4 func58 []
 refine wa J 1 (YP (σ:=Int) (fun st=>(zz7 e d [(0,.S 0),(1,.c (.cl 59 [] [1])),(7,.I (d.length:Int)),(8,.I st)])) (fun n st=>Lf N d e n st) (r:=r) (fun _=>rfl) ?_ (fun ih=>?_))
 ·intro n2 ih3;intro f h;unfold Lf at h;refine Yu J 5 h (fun h=>wa J 2 (Yi [] (j1 () h))) fun h=>?_;refine wO J 14 h fun g i h=>YK J Sq i ?_;refine wO J 1 h fun j k h=>Ym (ZwY N g e _ k) [] [(0,.bp 1 0)] ?_;exact wB J 1 h (fun h=>oi h▸wr J 6 func58 []) fun h=>wa J 7 (Yi [] (ih3 (Yh (f+1)) h))
 exact Yi [] (ih N 0 h)
theorem Zm9(c:Y5)(d:(List T0))(e:Int)(r:Vs×Bool)(h:Px N c d e=some r) :
 Fn aB 55 ⟨3,[.a (X2 c),.B 0 0,.B 2 0],[(1,.sl lI d)],[(0,.box [.sl 1] 29),(2,.box [.I e] 3)],3,.t [.inr (Db r.1),.inl (.b r.2)],[],[(0,.box [.sl 1] 29),(2,.box [.I e] 3)]⟩:=Yy func55 rfl fun E F w=>by
 unfold Px at h;refine wB J 13 h (fun h=>oi h▸wr J 9 func55 []) fun h=>?_;refine wO J 6 h fun f g h=>YK J ZfY g (wa J 11 (YD (σ:=be×(List T3)×Int×(List T1)×(List (Int×Int))) (fun st=>⟨[(3,.B 3 0),(4,.B 4 0),(6,.B 9 0)],[(0,.box [.sl 1] 29),(2,.box [.I e] 3),(3,.box (X2 c) 102),(4,.box [.I 0,.I 0] 146),(9,.box [.s st.1,.sl 10,.I st.2.2.1,.sl 11,.sl 12] 144)],[(1,.sl lI d),(10,.sl XK st.2.1)],13⟩) (fun st=>GI N c st.1 st.2.1 st.2.2.1 st.2.2.2.1 st.2.2.2.2=some r) ?_ (fun j1=>?_)))
 ·rintro⟨i,j,k,l,m⟩ h;unfold GI at h;refine wO J 5 h fun o p h=>Ym (ZwX N j c _ p) [] [(0,.sl 10),(1,.bp 3 0)] ?_;refine Yu J 15 h (fun h=>wa J 11 (YL ?_)) fun h=>?_
  ·cases h;exact Xi J func55 []
  refine wO J 3 h fun q u h=>YK J Sq u (wa J 7 (YL ?_));cases h;exact Xi J func55 []
 refine Wj h (fun h=>wa J 2 (Yi [(10,.sl 6),(11,.sl 7),(12,.sl 8)] (j1 (f.Zu,f.Zz,f.ZN,f.ZO.ZL,f.ZO.ZM) h))) fun h=>?_;refine wO J 5 h fun v x h=>Ym (ZwT N d c _ x) [] [(0,.sl 1),(1,.bp 3 0)] ?_;have⟨y,z,h⟩:=ob h;exact YK J ZfY z (wa J 2 (YL (Yi [(10,.sl 11),(11,.sl 12),(12,.sl 13)] (j1 (y.Zu,y.Zz,y.ZN,y.ZO.ZL,y.ZO.ZM) h))))
theorem H4(c:Vs)(d:Vs)(e:Int)(r:T1)(h:Ql N c d e=some r) :
 Fn aB 119 ⟨0,[.a (Db c),.a (Db d),.I e],[],[],0,.a (cC1 r),[],[]⟩:=Yy func119 rfl fun E F w=>by
 unfold Ql at h;exact oi h▸wr J 22 func119 []
theorem ZwZ(d:be)(e:Vs)(f:Vs)(r:(List T1))(h:B6 N d e f=some r) :
 Fn aB 60 ⟨0,[.c (.s d),.a (Db e),.a (Db f)],[],[],1,.S 0,[],[(0,.own UK r true)]⟩:=Yy func60 rfl fun E F w=>by
 unfold B6 at h;refine wB J 21 h (fun h=>?_) fun h=>?_
 ·refine wO J 6 h fun g i h=>Ym (H4 N e f 1 _ i) [] [] (YW J [] Hu ([g]:List T1) ?_);exact oi h▸wr J 2 func60 [(0,.sl 2)]
 refine wB J 6 h (fun h=>?_) fun h=>?_
 ·refine wO J 6 h fun j k h=>Ym (H4 N e f 0 _ k) [] [] (YW J [] Hu ([j]:List T1) ?_);exact oi h▸wr J 2 func60 [(0,.sl 2)]
 refine wB J 6 h (fun h=>?_) fun h=>?_
 ·refine wO J 6 h fun l m h=>Ym (H4 N f e 1 _ m) [] [] (YW J [] Hu ([l]:List T1) ?_);exact oi h▸wr J 2 func60 [(0,.sl 2)]
 refine wB J 6 h (fun h=>?_) fun h=>?_
 ·refine wO J 6 h fun o p h=>Ym (H4 N f e 0 _ p) [] [] (YW J [] Hu ([o]:List T1) ?_);exact oi h▸wr J 2 func60 [(0,.sl 2)]
 refine wO J 8 h fun q t h=>Ym (H4 N e f 0 _ t) [] [] ?_;refine wO J 3 h fun u v h=>Ym (H4 N f e 0 _ v) [] [] (YW J [] Hu ([q,u]:List T1) (wa J 1 (YL ?_)));cases h;exact Xi J func60 [(0,.sl 2)]
theorem Zwg(e:(List Ys))(r:(List T0)×be×Int)(h:Gh N e=some r) :
 Fn aB 19 ⟨2,[.S 0],[(0,.sl Xa e)],[(1,.abs kx)],3,.t [.inl (.sl 2),.inl (.s r.2.1),.inl (.I r.2.2)],[],[(2,.own rR0 r.1 true),(1,.abs kx)]⟩:=Yy func19 rfl fun E F w=>by
 unfold Gh at h;refine wa J 9 (YW J [] oS ([(str [65])]:List be) (wa J 2 (YW J [3] Vw ([(⟨(str [80]),([(str [65])]:List be),e,([]:List Yj)⟩:Yl)]:List Yl) ?_)));have⟨f,g,h⟩:=ob h;refine Ym (Zm2 N ([(⟨(str [80]),([(str [65])]:List be),e,([]:List Yj)⟩:Yl)]:List Yl) _ g) [4] [(0,.sl 4),(1,.sl 1)] ?_;refine wB J 3 h (fun h=>oi h▸wr J 7 func19 [(2,.nil)]) fun h=>wa J 13 (YD (σ:=(List T0)×Int) (fun st=>(ZnI kx st.1 e [(0,.S 0),(2,.B 2 0),(5,.I st.2)])) (fun st=>Bu N e st.1 st.2=some r) ?_ (fun j1=>?_))
 ·rintro⟨ds,c⟩ h;unfold Bu at h;refine wB J 6 h (fun h=>oi h▸wr J 7 func19 [(2,.nil)]) fun h=>RO (R:=lJ) (R':=lH) (xs:=ds) (fr:=true) (ds.map Do) 5 rfl (by rw[aN]) Zqf (wa J 9 (YD (σ:=List GG×List T5) (fun st=>⟨[(2,.B 2 0)],[(1,.abs kx),(2,.box [.sl 5] 29),(5,.own lH st.1 true)],[(0,.sl Xa e)],6⟩) (fun st=>UB (SL (ds.map WL) st.2 st.1) (bif Nat.beq st.2.length (ds.map WL).length then some (Tx (ds.map WL) st.2,str [],0) else none)=some r) ?_ (fun j3=>?_)))
  ·rintro⟨gs,G⟩ h;have⟨hI,h⟩:=Zbj h;replace hI:SL (ds.map WL) G gs:=hI;have⟨hb,h⟩:=og h;cases h;have⟨e1,e2⟩:=ZqI hI (Zd hb);exact RO (R:=lH) (R':=rR0) (xs:=gs) (fr:=true) (Tx (ds.map WL) G) 5 rfl e1 e2 (wr J 7 func19 [(2,.sl 5)])
  refine wa J 1 (YP (σ:=List GG×List T5×Int) (fun st=>⟨[(2,.B 2 0),(51,.S 0),(52,.I (e.length:Int)),(53,.I st.2.2)],[(1,.abs kx),(2,.box [.sl 5] 29),(5,.own lH st.1 true)],[(0,.sl Xa e)],6⟩) (fun n st=>UB (SL (ds.map WL) st.2.1 st.1) (TV N e (ds.map WL) n st.2.2 st.2.1)) (r:=r) (fun _=>ZqA _) ?_ (fun ih=>?_))
  ·intro n9 ih11;rintro⟨gs,G,i⟩ h;have⟨hI,h⟩:=Zbj h;replace hI:SL (ds.map WL) G gs:=hI;unfold TV at h;obtain⟨K,h⟩|⟨K,h⟩:=U6 h
   ·exact wH J 5 K (wa J 2 (Yi [] (j3 (gs,G) (QW hI h))))
   refine wH J 5 K ?_;refine wO J 7 h fun m hm h=>YK J UI hm ?_;have⟨hi,h⟩:=og h;replace hi:i=(G.length:Int):=lj hi;have⟨d,hd,h⟩:=ob h;have⟨x,hx,j,hn⟩:=ZqJ hI hd hi;refine wO J 15 h fun p hp h=>RO (R:=lH) (R':=lH) (xs:=gs) (fr:=true) (gs.set i.toNat (XF x Xn none Xn none)) 5 rfl (by rw[List.length_set]) (Zql j hn) (XA J lH (HJ (y:=XF x Xn none Xn none) hx) (QS 5 (fun L=>?_)));refine eZn UK (eZn Qa (wa J 11 (WY (L:=L) 11 5 (i.toNat*lH.sz) (YD (σ:=G1×G1×List T1×List (Int×Int)) (fun st=>⟨[(2,.B 2 0),(9,.B 10 0),(11,.P 11 3),(51,.S 0),(52,.I (e.length:Int)),(53,.I i)],[(1,.abs kx),(2,.box [.sl 5] 29),(5,.own lH (gs.set i.toNat (XF x st.1 none st.2.1 none)) true),(10,.box [.s m.Zu,.sl 7,.sl 8] 97),(12,.own UK st.2.2.1 true),(13,.own Qa st.2.2.2 true)],((0,.sl Xa e)::(5,.fn (Xx L))::XU 7 8 m [(11,.fn (Sk L (i.toNat*lH.sz))),(12,.fn (Xx st.1)),(13,.fn (Xx st.2.1))]),14⟩) (fun st=>((TW st.2.2.1 N (0:Int)).bind fun ok=>bif ok then TV N e (ds.map WL) n9 (Yh (i+1)) (G++[⟨st.2.2.1,st.2.2.2⟩]) else some ([],m.Zu,2))=some r) ?_ (fun j4=>?_)))))
   ·rintro⟨u,v,D,E⟩ h;refine Ha (L:=L) 11 5 (i.toNat*lH.sz) (wm J (L7 11 (wm J (PS (u:=u) J DH 12 (HJ (y:=XF x u none v none) hx) (wm J (YP (σ:=Int) (fun st=>⟨[(2,.B 2 0),(9,.B 10 0),(51,.S 0),(52,.I (e.length:Int)),(53,.I i),(116,.S 12),(117,.I (D.length:Int)),(118,.I st)],[(1,.abs kx),(2,.box [.sl 5] 29),(5,.own lH (gs.set i.toNat (XF x u none v none)) true),(10,.box [.s m.Zu,.sl 7,.sl 8] 97),(12,.own UK D true),(13,.own Qa E true)],((0,.sl Xa e)::XU 7 8 m [(12,.fn (Xx u)),(13,.fn (Xx v))]),14⟩) (fun n st=>(TW D n st).bind fun ok=>bif ok then TV N e (ds.map WL) n9 (Yh (i+1)) (G++[⟨D,E⟩]) else some ([],m.Zu,2)) (r:=r) (fun _=>rfl) ?_ (fun ih=>?_)))))))
    ·intro n6 ih6;intro k h;have⟨ok,hok,h⟩:=ob h;replace hok:TW D (n6+1) k=some ok:=hok;unfold TW at hok;rcases U6 hok with⟨K,hok⟩|⟨K,hok⟩
     ·cases hok;replace h:TV N e (ds.map WL) n9 (Yh (i+1)) (G++[⟨D,E⟩])=some r:=h;have hs:SL (ds.map WL) (G++[⟨D,E⟩]) (gs.set i.toNat (XF x u (some D) v (some E))):=ZqK hI j hi;refine wH J 5 K (eZd (R:=lH) (Rb:=UK) (fr:=true) (xs:=gs.set i.toNat (XF x u none v none)) (ys:=D) (x:=XF x u none v none) (u:=u) (XF x u (some D) v none) i.toNat 5 12 (Zfp j) (fun F w vs hr hs=>Zqg hr hs) rfl ?_);refine eZd (R:=lH) (Rb:=Qa) (fr:=true) (xs:=(gs.set i.toNat (XF x u none v none)).set i.toNat (XF x u (some D) v none)) (ys:=E) (x:=XF x u (some D) v none) (u:=v) (XF x u (some D) v (some E)) i.toNat 5 13 (Zfp (Zfp j)) (fun F w vs hr hs=>Zqh hr hs) rfl ?_;exact WS (R:=lH) (fr:=true) (xs:=((gs.set i.toNat (XF x u none v none)).set i.toNat (XF x u (some D) v none)).set i.toNat (XF x u (some D) v (some E))) (gs.set i.toNat (XF x u (some D) v (some E))) 5 (by rw[iH,iH]) (wm J (Yi [] (ih11 (gs.set i.toNat (XF x u (some D) v (some E)),G++[⟨D,E⟩],Yh (i+1)) (QW hs h))))
     refine wH J 5 K ?_;have⟨dd,hdd,hok⟩:=ob hok;refine wm J (XA J UK hdd (wm J (Wt J Hu hdd ?_)));rcases oc hok with⟨hc1,hok⟩|⟨hc1,hok⟩
     ·cases hok;replace h:some ([],m.Zu,2)=some r:=h;cases h;exact wa J 9 (eK hc1 (wm J (YL (Xi J func19 [(2,.nil)]))))
     refine wa J 9 (eK hc1 ?_);rcases oc hok with⟨hc2,hok⟩|⟨hc2,hok⟩
     ·cases hok;replace h:some ([],m.Zu,2)=some r:=h;cases h;exact wa J 5 (eK hc2 (wm J (YL (Xi J func19 [(2,.nil)]))))
     refine wa J 5 (eK hc2 (wm J (Yi [] (ih6 (Yh (k+1)) ?_))));show (TW D n6 (Yh (k+(1:Int)))).bind _=some r;rw[hok];exact h
    exact Yi [] (ih N 0 h)
   refine wa J 1 (YP (σ:=G1×G1×List T1×List (Int×Int)×Int) (fun st=>⟨[(2,.B 2 0),(9,.B 10 0),(10,.c (.cl 55 [] [2,9])),(11,.P 11 3),(51,.S 0),(52,.I (e.length:Int)),(53,.I i),(64,.S 8),(65,.I (m.ZA.length:Int)),(66,.I st.2.2.2.2)],[(1,.abs kx),(2,.box [.sl 5] 29),(5,.own lH (gs.set i.toNat (XF x st.1 none st.2.1 none)) true),(9,.box [.I i] 3),(10,.box [.s m.Zu,.sl 7,.sl 8] 97),(12,.own UK st.2.2.1 true),(13,.own Qa st.2.2.2.1 true)],((0,.sl Xa e)::(5,.fn (Xx L))::XU 7 8 m [(11,.fn (Sk L (i.toNat*lH.sz))),(12,.fn (Xx st.1)),(13,.fn (Xx st.2.1))]),14⟩)
    (fun n st=>(UR N (ds.map WL) i m.ZA n st.2.2.2.2 st.2.2.1 st.2.2.2.1).bind fun p=>(TW p.1 N (0:Int)).bind fun ok=>bif ok then TV N e (ds.map WL) n9 (Yh (i+1)) (G++[⟨p.1,p.2⟩]) else some ([],m.Zu,2)) (r:=r) (fun _=>rfl) ?_ (fun ih=>?_))
   ·intro n4 ih4;rintro⟨u,v,D,E,k⟩ h;have⟨p',hp',h⟩:=ob h;replace hp':UR N (ds.map WL) i m.ZA (n4+1) k D E=some p':=hp';unfold UR at hp';rcases U6 hp' with⟨K,hp'⟩|⟨K,hp'⟩
    ·cases hp';exact wH J 5 K (wa J 2 (Yi [] (j4 (u,v,D,E) h)))
    refine wH J 5 K ?_;have hv:(gs.set i.toNat (XF x u none v none)).map Ss=ds.map WL:=Zqm hI.1 j rfl;have⟨a,ha,hp'⟩:=ob hp';refine wa J 6 (YK J Mb ha ?_);have⟨y1,hy1,hp'⟩:=ob hp';rw[<-hv]at hy1;refine wa J 9 (Wp (Fn.see (R:=lH) (R':=lI) (φ:=Ss) (xs:=gs.set i.toNat (XF x u none v none)) rfl Zj3 (Zm9 N a.Zx _ i _ hy1)) [] [(0,.bp 2 0),(1,.sl 5),(2,.bp 9 0)] [5] (.inr ⟨rfl,trivial⟩) ?_);have⟨y2,hy2,hp'⟩:=ob hp';rw[<-hv]at hy2;refine wa J 12 (Wp (Fn.see (R:=lH) (R':=lI) (φ:=Ss) (xs:=gs.set i.toNat (XF x u none v none)) rfl Zj3 (Zm9 N a.Zy _ i _ hy2)) [] [(0,.bp 2 0),(1,.sl 5),(2,.bp 9 0)] [5] (.inr ⟨rfl,trivial⟩) ?_);rcases oc hp' with⟨hc2,hp'⟩|⟨hc2,hp'⟩
    ·have⟨E',hE',hp'⟩:=ob hp';refine wa J 12 (eK hc2 (Ha (L:=L) 11 5 (i.toNat*lH.sz) (wm J (L7 11 (wm J (PS (u:=v) J DH 13 (HJ (y:=XF x u none v none) hx) (wm J (YW J [] (oP oD oD) ([(y1.1.x',y2.1.x')]:List (Int×Int)) (Xu J Qa hE' (wm J (L7 11 (wm J (L8 (QS 19 (fun v'=>?_)))))))))))))));refine RN J [] DH (XF x u none v' none) (HJ (y:=XF x u none v none) hx) (WY (L:=L) 11 5 (i.toNat*lH.sz) (WS (R:=lH) (fr:=true) (xs:=YE (gs.set i.toNat (XF x u none v none)) i (XF x u none v' none)) (gs.set i.toNat (XF x u none v' none)) 5 (by rw[YE,iH]) (wm J (Yi [(13,.sl 19)] (ih4 (u,v',D,E',Yh (k+1)) ?_)))));show (UR N (ds.map WL) i m.ZA n4 (Yh (k+1)) D E').bind _=some r;rw[hp'];exact h
    ·have⟨dd,hdd,hp'⟩:=ob hp';have⟨D',hD',hp'⟩:=ob hp';refine wa J 12 (eK hc2 (Ha (L:=L) 11 5 (i.toNat*lH.sz) (wm J (L7 11 (wm J (PS (u:=u) J DH 12 (HJ (y:=XF x u none v none) hx) (wm J (Ym (ZwZ N a.Op y1.1 y2.1 _ hdd) [] [] (Xu J UK hD' (wm J (L7 11 (wm J (L8 (QS 19 (fun u'=>?_)))))))))))))));refine RN J [] DH (XF x u' none v none) (HJ (y:=XF x u none v none) hx) (WY (L:=L) 11 5 (i.toNat*lH.sz) (WS (R:=lH) (fr:=true) (xs:=YE (gs.set i.toNat (XF x u none v none)) i (XF x u' none v none)) (gs.set i.toNat (XF x u' none v none)) 5 (by rw[YE,iH]) (wm J (Yi [(12,.sl 19)] (ih4 (u',v,D',E,Yh (k+1)) ?_)))));show (UR N (ds.map WL) i m.ZA n4 (Yh (k+1)) D' E).bind _=some r;rw[hp'];exact h
   refine Yi [] (ih N (Xn,Xn,[],[],0) ?_);show (UR N (ds.map WL) i m.ZA N 0 [] []).bind _=some r;rw[hp];exact h
  exact Yi [] (ih N (ds.map Do,[],0) (QW (ZqH ds) h))
 refine wa J 1 (YP (σ:=(List T0)×Int×Int) (fun st=>(ZnI kx st.1 e [(0,.S 0),(2,.B 2 0),(5,.I st.2.1),(27,.S 0),(28,.I (e.length:Int)),(29,.I st.2.2)])) (fun n st=>Pt N e n st.1 st.2.1 st.2.2) (r:=r) (fun _=>rfl) ?_ (fun ih=>?_))
 ·intro n12 ih18;rintro⟨ds,c,i⟩ h;unfold Pt at h;refine Yu J 5 h (fun h=>wa J 2 (Yi [] (j1 (ds,c) h))) fun h=>?_;refine wO J 6 h fun m hm h=>YK J UI hm ?_;refine wO J 11 h fun fs hfs h=>Ym (ZwS N m.Zz _ hfs) [] [(0,.sl 7)] (wa J 2 (YW J [10] Zs3 ([(⟨m.Zu,fs,c,(⟨([]:List T1),([]:List (Int×Int))⟩:T5)⟩:T0)]:List T0) ?_));have⟨ds',hds',h⟩:=ob h;exact Xu J lJ hds' (wa J 1 (YL (wa J 13 (Yi [(5,.sl 12)] (ih18 (ds',(Yh (c+(m.Zz.length:Int))),(Yh (i+1))) h)))))
 exact Yi [(5,.nil)] (ih N (([]:List T0),0,0) h)
theorem ZvE(c:Ys)(d:Yj)(r:Bool)(h:Zco N c d=some r) :
 Fn aB 126 ⟨5,[.a [.s c.Zu,.sl 0,.sl 1],.B 2 0],(XU 0 1 c [(3,.sl rS d.To),(4,.sl (YH Yz) d.ZD)]),[(2,.box [.I d.Zt,.s d.ZB,.sl 3,.s d.Zu,.s d.As,.I d.ZC,.sl 4] 132)],5,.O r,[],[(2,.box [.I d.Zt,.s d.ZB,.sl 3,.s d.Zu,.s d.As,.I d.ZC,.sl 4] 132)]⟩:=Yy func126 rfl fun E F w=>by
 unfold Zco at h;exact oi h▸wr J 14 func126 []
theorem ZvD(d:(List Ys))(e:Yj)(r:Int)(h:Zcm N d e=some r) :
 Fn aB 125 ⟨4,[.S 0,.c (.cl 126 [] [1])],[(0,.sl Xa d),(2,.sl rS e.To),(3,.sl (YH Yz) e.ZD)],[(1,.box [.I e.Zt,.s e.ZB,.sl 2,.s e.Zu,.s e.As,.I e.ZC,.sl 3] 132)],4,.I r,[],[(1,.box [.I e.Zt,.s e.ZB,.sl 2,.s e.Zu,.s e.As,.I e.ZC,.sl 3] 132)]⟩:=Yy func125 rfl fun E F w=>by
 unfold Zcm at h;refine wa J 11 (YD (σ:=Unit) (fun st=>(zz8 e.Zt e.ZB e.Zu e.As e.ZC d e.To e.ZD [])) (fun st=>Zcn=some r) ?_ (fun j1=>?_))
 ·intro _ h;unfold Zcn at h;exact oi h▸wr J 4 func125 []
 refine wa J 1 (YP (σ:=Int) (fun st=>(zz8 e.Zt e.ZB e.Zu e.As e.ZC d e.To e.ZD [(0,.S 0),(1,.c (.cl 126 [] [1])),(7,.I (d.length:Int)),(8,.I st)])) (fun n st=>MG N d e n st) (r:=r) (fun _=>rfl) ?_ (fun ih=>?_))
 ·intro n2 ih3;intro f h;unfold MG at h;refine Yu J 5 h (fun h=>wa J 2 (Yi [] (j1 () h))) fun h=>?_;refine wO J 14 h fun g i h=>YK J UI i ?_;refine wO J 1 h fun j k h=>Ym (ZvE N g e _ k) [] [(0,.sl 5),(1,.sl 6),(2,.bp 1 0),(3,.sl 2),(4,.sl 3)] ?_;exact wB J 1 h (fun h=>oi h▸wr J 6 func125 []) fun h=>wa J 7 (Yi [] (ih3 (Yh (f+1)) h))
 exact Yi [] (ih N 0 h)
abbrev NX:=(List Int⊕G1)×List T9×List V7
abbrev lD:k6 NX:=rP (XW rA) (rP (YH Mc) (YH Hz))
abbrev Ma:ki lD:=oP (Hs rA) (oP (Xj Mc) (Xj Hz))
abbrev XH:NX:=(.inl [],[],[])
abbrev Q5:NX:=(.inr Xn,[],[])
abbrev Xo(n:YU):NX:=(.inl n.Yb,n.Yc,n.Yd)
theorem Zkb{α:Type}{xs:List α}{x:α}{n:Nat}(h:xs.length=n):idx (xs++[x]) (n:Int)=some x:=by unfold idx;rw[lh (da n),l9,a8,Zp (by omega),h,br];rfl
theorem Zt9{α:Type}{xs:List α}{x y:α}{n:Nat}(h:xs.length=n):YE (xs++[x]) (n:Int) y=xs++[y]:=by unfold YE;rw[a8,gL _ _ (by omega),h,br];rfl
theorem QU{α:Type}{xs ys:List α}{x:α}{n:Nat}(h:xs.length=n):idx (xs++[x]++ys) (n:Int)=some x:=by unfold idx;rw[lh (da n),l9,a8,aU,Zp (by omega),h,br];rfl
theorem HK{α:Type}{xs ys:List α}{x y:α}{n:Nat}(h:xs.length=n):YE (xs++[x]++ys) (n:Int) y=xs++[y]++ys:=by unfold YE;rw[a8,aU,gL _ _ (by omega),h,br,aU];rfl
theorem Zbi{α:Type}{xs ys zs:List α}{x:α}{n:Nat}(h:xs.length=n):idx (xs++[x]++ys++zs) (n:Int)=some x:=by rw[aU (xs++[x])];exact QU h
theorem Zub{α:Type}{xs ys zs:List α}{x y:α}{n:Nat}(h:xs.length=n):YE (xs++[x]++ys++zs) (n:Int) y=xs++[y]++(ys++zs):=by rw[aU (xs++[x])];exact HK h
theorem Zbf{α:Type}{xs ys:List α}{x:α}:(xs++[x]++ys)[xs.length]?=some x:=by rw[aU,Zp (Zq _),br];rfl
theorem sett_mid{α:Type}{xs ys:List α}{x y:α}:(xs++[x]++ys).set xs.length y=xs++[y]++ys:=by rw[aU,gL _ _ (Zq _),br,aU];rfl
theorem Zm3(nm:be)(xs:List NX)(n:Nat)(hn:xs.length=n)(hb:n+1<=lim) :
 Fn aB 128 ⟨5,[.B 0 0],[],[(0,.box [.s nm,.sl 1,.sl 2,.sl 3,.sl 4] 78),(4,.own lD xs false)],6,.I (n:Int),[],[(4,.gone),(5,.own lD (xs++[XH]) false),(0,.box [.s nm,.sl 1,.sl 2,.sl 3,.sl 5] 78)]⟩:=by
 have hl:lim=4294967296:=rfl;have h:Y8 xs [XH]=some (xs++[XH]):=by unfold Y8;rw[show aY (xs.length+[XH].length) lim=true from ai (by rw[hn];exact hb)];rfl
 have e:Yh (((xs++[XH]).length:Int)-1)=(n:Int):=by rw[ae,hn,show ((n+[XH].length:Nat):Int)-1=(n:Int) by simp];exact Tf (by omega) (by omega)
 rw[<-e];refine Yy func128 rfl (fun E F w=>?_);exact wa J 12 (YW J [] Ma ([XH]:List NX) (Xu J lD h (wr J 14 func128 [(5,.sl 6)])))
theorem ZsI(nm:be)(xs:List NX)(n:Nat)(hn:xs.length=n)(hb:n+1<=lim) :
 Fn aB 128 ⟨5,[.B 0 0],[],[(0,.box [.s nm,.sl 1,.sl 2,.sl 3,.sl 4] 78),(4,.own lD xs false)],6,.I (n:Int),[],[(4,.gone),(5,.own lD (xs++[Q5]) false),(0,.box [.s nm,.sl 1,.sl 2,.sl 3,.sl 5] 78)]⟩:=by
 have hl:lim=4294967296:=rfl;have h:Y8 xs [Q5]=some (xs++[Q5]):=by unfold Y8;rw[show aY (xs.length+[Q5].length) lim=true from ai (by rw[hn];exact hb)];rfl
 have e:Yh (((xs++[Q5]).length:Int)-1)=(n:Int):=by rw[ae,hn,show ((n+[Q5].length:Nat):Int)-1=(n:Int) by simp];exact Tf (by omega) (by omega)
 rw[<-e];refine Yy func128 rfl (fun E F w=>?_);exact wa J 12 (YW J [] Ma ([Q5]:List NX) (Xu J lD h (wr J 14 func128 [(5,.sl 6)])))
theorem Zgb(nm:be)(roles:List be)(d:be)(r:Int)(h:TT N roles d=some r) :
 Fn aB 129 ⟨5,[.B 0 0,.c (.s d)],[(1,.sl rS roles)],[(0,.box [.s nm,.sl 1,.sl 2,.sl 3,.sl 4] 78)],5,.I r,[],[(0,.box [.s nm,.sl 1,.sl 2,.sl 3,.sl 4] 78)]⟩:=Yy func129 rfl fun E F w=>by
 exact wa J 12 (Ym (ZmW N roles d _ h) [] [(0,.sl 1)] (wr J 2 func129 []))
theorem Zou:ItB aB 167 1 (by decide) false:=by
 refine ItB.intro _ _ func167 rfl rfl (by decide) (fun cs l F0 Jj hlm stab rounds E w hg hJ=>?_);have hl:lim=4294967296:=rfl;have hz:0<1:=by decide
 refine Wc.h (c:=.co _ _) ?_;refine wa J 8 ?_;refine eIl (fun m=>⟨[(3,.I (bG.wrap ((m:Int)-1))),(0,.c (.v (.func (.yield l) #[] #[]))),(1,.P 0 0)],[],S5 1 hz cs,2⟩) ?_ ?_ (fun ih=>L9 ih) hg hJ
 ·intro E w hg hJ;exact wa J 6 (eK (b:=decide (bG.wrap (((0:Nat):Int)-1)>=0)) (t:=false) (by decide) (wa J 2 (eRi J func167 stab hJ)))
 ·intro m hm ih E w hg hJ;have e:bG.wrap (((m+1:Nat):Int)-1)=(m:Int):=by rw[show ((m+1:Nat):Int)-1=(m:Int) by omega];exact Tf (by omega) (by omega)
  refine wa J 6 (eK (b:=decide (bG.wrap (((m+1:Nat):Int)-1)>=0)) (t:=true) (lh (by omega)) ?_);refine wa J 5 (eYr J stab rounds hg hm hJ e fun cc E' w' hg' hJ'=>?_);have ih':=ih E' w' hg' hJ';rw[show bG.wrap ((m:Int)-1)=bG.wrap (bG.wrap (((m+1:Nat):Int)-1)-1) by rw[e]]at ih';exact wa J 10 (L9 ih')
theorem Zos:ItB aB 124 7 (by decide) true:=by
 refine ItB.intro _ _ func124 rfl rfl (by decide) (fun cs l F0 Jj hlm stab rounds E w hg hJ=>?_);have hl:lim=4294967296:=rfl;have hz:0<7:=by decide
 refine Wc.h (c:=.co _ _) ?_;refine wa J 8 ?_;refine eIl (fun m=>⟨[(3,.I (bG.wrap ((m:Int)-1))),(0,.c (.v (.func (.yield l) #[] #[]))),(1,.P 0 0)],[],S5 7 hz cs,2⟩) ?_ ?_ (fun ih=>L9 ih) hg hJ
 ·intro E w hg hJ;exact wa J 6 (eK (b:=decide (bG.wrap (((0:Nat):Int)-1)>=0)) (t:=false) (by decide) (wa J 2 (eRi J func124 stab hJ)))
 ·intro m hm ih E w hg hJ;have e:bG.wrap (((m+1:Nat):Int)-1)=(m:Int):=by rw[show ((m+1:Nat):Int)-1=(m:Int) by omega];exact Tf (by omega) (by omega)
  refine wa J 6 (eK (b:=decide (bG.wrap (((m+1:Nat):Int)-1)>=0)) (t:=true) (lh (by omega)) ?_);refine wa J 5 (eYr J stab rounds hg hm hJ e fun cc E' w' hg' hJ'=>?_);have ih':=ih E' w' hg' hJ';rw[show bG.wrap ((m:Int)-1)=bG.wrap (bG.wrap (((m+1:Nat):Int)-1)-1) by rw[e]]at ih';exact wa J 10 (L9 ih')
abbrev gB(nm:be)(k:Nat):MO:=.box [.s nm,.sl 1,.sl 2,.sl 3,.sl k] 78
abbrev xB(x:Yj):MO:=.box [.I x.Zt,.s x.ZB,.sl 5,.s x.Zu,.s x.As,.I x.ZC,.sl 6] 132
abbrev mB(lM:X4):MO:=.av (Xr rA false true lM)
def ZhG(nm:be)(roles:List be)(msgs:List Ys)(f:Yj->Int->X4->Nat->Option WJ):Prop:=
  ∀(gs:List NX) (x:Yj) (lP:Int) (kvs0 lM:X4) (r:WJ),(lM.map (·.1)).Nodup->(∀a,YR lM a=YR kvs0 a)->f x lP kvs0 gs.length=some r ->
    Fn aB 65 ⟨8,[.B 0 0,.a [.I x.Zt,.s x.ZB,.sl 5,.s x.Zu,.s x.As,.I x.ZC,.sl 6],.I lP,.S 7],[(1,.sl rS roles),(2,.sl Xa msgs),(5,.sl rS x.To),(6,.sl (YH Yz) x.ZD)],
      [(0,gB nm 4),(4,.own lD gs false),(7,mB lM)],9,.I r.1,[],[(4,.gone),(8,.own lD (gs++r.2.map Xo) false),(0,gB nm 8),(7,mB lM)]⟩
def Zep(nm:be)(roles:List be)(msgs:List Ys)(f:List Yj->Int->X4->Nat->Option WJ):Prop:=
  ∀(gs:List NX) (l:List Yj) (lP:Int) (kvs0 lM:X4) (r:WJ),(lM.map (·.1)).Nodup->(∀a,YR lM a=YR kvs0 a)->f l lP kvs0 gs.length=some r ->
    Fn aB 21 ⟨8,[.B 0 0,.S 5,.I lP,.S 7],[(1,.sl rS roles),(2,.sl Xa msgs),(5,.sl Yz l)],
      [(0,gB nm 4),(4,.own lD gs false),(7,mB lM)],9,.I r.1,[],[(4,.gone),(8,.own lD (gs++r.2.map Xo) false),(0,gB nm 8),(7,mB lM)]⟩
theorem Zqz{α:Type}{p:Prop}{x:Option α}(h:¬ p):UB p x=none:=by unfold UB;rw[mE h]
theorem ZsR{F:YJ}{w:World}{u:G1}{D:List Int}{vs:List Value}(h:lD.rep F w ((.inr u,[],[]):NX) vs)(hs:SlR rA F w D u.1):lD.rep F w ((.inl D,[],[]):NX) vs:=by have⟨u1,w1,e1,h1,h2⟩:=h;exact⟨u1,w1,e1,⟨u.1,h1,hs⟩,h2⟩
theorem Zoh:Fn aB 127 ⟨1,[.S 0],[],[],2,.c (.cl 167 [] [1]),[],[(1,.box [.sl 0] 22)]⟩:=Yy func127 rfl fun E F w=>by
 exact wm J (Xi J func127 [(1,.bp 1 0)])
theorem ZqU{nm:be}{roles:List be}{msgs:List Ys}{lst:List Yj->Int->X4->Nat->Option WJ}(hlst:Zep nm roles msgs lst):ZhG nm roles msgs (P0 N roles msgs lst):=by
  intro gs x lP kvs0 lM r hnd hkv h;refine Yy func65 rfl (fun E F w=>?_);unfold P0 at h;refine wn J ?_;obtain⟨K,h⟩|⟨K,h⟩:=oc h
  · refine ek J K ?_;cases h;refine PP (nl:=true) (q:=x.Zu) (lM:=lM) oD Vk (show (YR lM x.Zu).getD 0=(YR kvs0 x.Zu).getD 0 by rw[hkv]) (wm J ?_);exact WS (R:=lD) (fr:=false) (xs:=gs) (gs++([]:List YU).map Xo) 4 (by simp) (Xi J func65 [(8,.sl 4)])
  refine ek J K ?_;rcases oc h with⟨hc2,h⟩|⟨hc2,h⟩
  · refine ek J hc2 ?_;have⟨label,hlab,h⟩:=ob h;refine Ym (ZvD N msgs x _ hlab) [] [(0,.sl 2),(1,.bp 9 0),(2,.sl 5),(3,.sl 6)] (wn J ?_);refine Ym Zoh [] [(0,.sl 5)] (wn J ?_);refine WS (R:=lD) (fr:=false) (xs:=gs) (gs++([]:List YU).map Xo) 4 (by simp) ?_;refine eRs ⟨(42,.c (.cl 167 [] [12]))::[(4,.B 8 0),(5,.B 9 0),(6,.B 10 0),(9,.B 11 0)],(12,.box [.sl 5] 22)::[(0,gB nm 13),(7,mB lM),(8,.box [.bp 0 0] 75),(9,xB x),(10,.box [.I lP] 3),(11,.box [.I label] 3),(13,.own lD (gs++([]:List YU).map Xo) false)],
      [(1,.sl rS roles),(2,.sl Xa msgs),(5,.sl rS x.To),(6,.sl (YH Yz) x.ZD)],14⟩ [(13,.sl 4)] ?_
    refine eRf (bt:=22) oS Zou (Mi N roles x label gs.length) (fun (b:WJ)=>⟨[(4,.B 8 0),(5,.B 9 0),(6,.B 10 0),(9,.B 11 0)],[(0,gB nm 13),(7,mB lM),(8,.box [.bp 0 0] 75),(9,xB x),(10,.box [.I b.1] 3),(11,.box [.I label] 3),(13,.own lD (gs++b.2.map Xo) false)],
      [(1,.sl rS roles),(2,.sl Xa msgs),(5,.sl rS x.To),(6,.sl (YH Yz) x.ZD)],14⟩) 14 13 12 5 43 44 h (fun _=>⟨rfl,rfl⟩) ?_ ?_
    · intro i t b b' hst E F w n0 Z l D rr post kk;unfold Mi at hst;have⟨f,hf,hst⟩:=ob hst;have⟨q,hq,hst⟩:=ob hst;have⟨hb,hst⟩:=og hst;replace hb:gs.length+b.2.length+1<=lim:=Ze hb;cases hst;refine wm J (eBr (l:=l) (D:=D) (r:=rr) 14 (wm J ?_));refine Ym (Zm3 nm (gs++b.2.map Xo) (gs.length+b.2.length) (by simp) hb) [] [(0,.bp 0 0),(1,.sl 1),(2,.sl 2),(3,.sl 3),(4,.sl 13)] (wm J ?_);refine Ym (Zgb N nm roles x.ZB _ hf) [] [(0,.bp 0 0),(1,.sl 1),(2,.sl 2),(3,.sl 3),(4,.sl 15)] (wm J ?_);refine Ym (Zgb N nm roles t _ hq) [] [(0,.bp 0 0),(1,.sl 1),(2,.sl 2),(3,.sl 3),(4,.sl 15)] (wm J ?_);refine YL (wm J (YW J [] oO9 ([⟨⟨f,q,label⟩,b.1,decide ((i:Int)>0)⟩]:List T9) (wm J ?_)));refine XA J lD (Zkb (x:=XH) (by simp:(gs++b.2.map Xo).length=gs.length+b.2.length)) (wm J (L8 ?_));refine RN J [17] Ma ((.inl [],[⟨⟨f,q,label⟩,b.1,decide ((i:Int)>0)⟩],[]):NX) (Zkb (x:=XH) (by simp:(gs++b.2.map Xo).length=gs.length+b.2.length)) ?_;refine WS (R:=lD) (fr:=false) (xs:=YE (gs++b.2.map Xo++[XH]) ((gs.length+b.2.length:Nat):Int) (.inl [],[⟨⟨f,q,label⟩,b.1,decide ((i:Int)>0)⟩],[])) (gs++(b.2++[(⟨[],[⟨⟨f,q,label⟩,b.1,decide ((i:Int)>0)⟩],[]⟩:YU)]).map Xo) 15 (by rw[Zt9 (by simp),bn,aU];rfl) ?_;exact wm J (Yi [(13,.sl 15)] kk)
    · intro D;exact wm J (ZjJ J func65 14 [(8,.sl 13)])
  refine ek J hc2 ?_;have⟨hb,h⟩:=og h;replace hb:gs.length+1<=lim:=Ze hb;rcases oc h with⟨hc3,h⟩|⟨hc3,h⟩
  · refine ek J hc3 ?_;have⟨bl,hbl,h⟩:=ob h;have⟨rr,hrr,h⟩:=ob h;cases h;refine Ym (Zm3 nm gs gs.length rfl hb) [] [(0,.bp 0 0),(1,.sl 1),(2,.sl 2),(3,.sl 3),(4,.sl 4)] (wm J ?_);refine eMm rA false (wm J ?_);refine eRm (nl:=true) (lM:=lM) Vk (fun bo rg hro=>?_);refine wa J 1 (YD (σ:=X4) (fun m=>⟨[(4,.B 8 0),(5,.B 9 0),(6,.B 10 0),(3,.S 7),(14,.I (gs.length:Int)),(15,.S 12)],[(0,gB nm 11),(7,.av (Ug rA false bo lM)),(8,.box [.bp 0 0] 75),(9,xB x),(10,.box [.I lP] 3),(11,.own lD (gs++[XH]) false),(12,.av (Xr rA false false m))],
      [(1,.sl rS roles),(2,.sl Xa msgs),(5,.sl rS x.To),(6,.sl (YH Yz) x.ZD)],13⟩) (fun m=>(m.map (·.1)).Nodup/\∀a,YR m a=YR lM a) ?_ (fun j1=>?_))
    · rintro m ⟨hm1,hm2⟩;refine wm J (PQ (q:=x.Zu) (lM:=m) [] oD (gs.length:Int) Vk (eMx (bo:=bo) (lM:=lM) (R:=rI .i64) (ag:=false) 7 (eMw (R:=rI .i64) (ag:=false) (lM:=Xf m x.Zu (gs.length:Int)) 12 (wm J ?_))));refine YK J (Xj Yz) hbl (wm J ?_);refine Ym (hlst (gs++[XH]) bl lP (Xf kvs0 x.Zu (gs.length:Int)) (Xf m x.Zu (gs.length:Int)) rr (ZfC hm1).1 (fun a=>by rw[Hp,Hp,hm2,hkv]) (by rw[ae];exact hrr)) [] [(0,.bp 0 0),(1,.sl 1),(2,.sl 2),(3,.sl 3),(4,.sl 11),(5,.sl 14),(6,.nil),(7,.sl 12)] (wm J ?_);refine YL (wm J (YW J [] oD ([rr.1]:List Int) (wm J ?_)));refine XA J lD (QU (xs:=gs) (ys:=rr.2.map Xo) (x:=XH) rfl) (wm J ?_);refine RN J [16] Ma ((.inl [rr.1],[],[]):NX) (QU (xs:=gs) (ys:=rr.2.map Xo) (x:=XH) rfl) ?_;refine WS (R:=lD) (fr:=false) (xs:=YE (gs++[XH]++rr.2.map Xo) (gs.length:Int) (.inl [rr.1],[],[])) (gs++((⟨[rr.1],[],[]⟩:YU)::rr.2).map Xo) 15 (by rw[HK rfl,aU];rfl) ?_;exact wm J (Xi J func65 [(8,.sl 15)])
    refine wa J 1 (YP (σ:=Array Nat×X4) (fun st=>⟨[(4,.B 8 0),(5,.B 9 0),(6,.B 10 0),(3,.S 7),(14,.I (gs.length:Int)),(15,.S 12),(77,.c (.v (.pointer (some ⟨rg,0,none⟩))))],[(0,gB nm 11),(7,.av (Ug rA false bo lM)),(8,.box [.bp 0 0] 75),(9,xB x),(10,.box [.I lP] 3),(11,.own lD (gs++[XH]) false),(12,.av (Xr rA false false st.2)),(13,.abs (UD rg bo st.1))],
      [(1,.sl rS roles),(2,.sl Xa msgs),(5,.sl rS x.To),(6,.sl (YH Yz) x.ZD)],14⟩) (fun n st=>UB (CpI bo lM st.1 st.2/\P4 bo st.1<n) (some ())) (r:=()) (fun st=>Zqz (fun h=>Nat.not_lt_zero _ h.2)) ?_ (fun ih=>?_))
    · rintro n ih ⟨sn,m⟩ hst;obtain⟨⟨hI,hn⟩,_⟩:=Zbj hst;replace hI:CpI bo lM sn m:=hI;replace hn:P4 bo sn<n+1:=hn;refine wm J (eNx (bo:=bo) (sn:=sn) (lM:=lM) (r:=rg) 13 7 (fun hall=>?_) (fun j q v β hq hb _ hlt=>?_))
      · exact wa J 5 (Yi [] (j1 m ⟨hI.nd,hI.end_ hro hall⟩))
      · refine wm J (eNy (bo:=bo) (sn:=sn) (lM:=lM) (r:=rg) 13 7 hq hb (wm J ?_));exact PQ (q:=q) (lM:=m) [] oD v Vk (wm J (Yi [] (ih (sn.push β,Xf m q v) (QW ⟨hI.step hro hnd hq hb,Zh hlt (Nat.le_of_lt_succ hn)⟩ rfl))))
    exact Yi [] (ih (P4 bo #[]+1) (#[],[]) (QW ⟨CpI.nil,Nat.lt_succ_self _⟩ rfl))
  refine ek J hc3 ?_;have⟨ro,hro,h⟩:=ob h;obtain⟨⟨o',D',ns'⟩,hch,h⟩:=ob h;cases h;refine Ym (ZsI nm gs gs.length rfl hb) [] [(0,.bp 0 0),(1,.sl 1),(2,.sl 2),(3,.sl 3),(4,.sl 4)] (wm J ?_);refine Ym (Zgb N nm roles x.ZB _ hro) [] [(0,.bp 0 0),(1,.sl 1),(2,.sl 2),(3,.sl 3),(4,.sl 11)] (wm J (YL ?_));refine WS (R:=lD) (fr:=false) (xs:=gs++[Q5]) (gs++[((.inr Xn,[],[]):NX)]++([]:List YU).map Xo) 11 (by simp) (eZn rA ?_);refine wa J 8 (YD (σ:=G1) (fun u=>⟨[(4,.B 8 0),(5,.B 9 0),(6,.B 10 0),(3,.S 7),(19,.I (gs.length:Int)),(20,.B 12 0)],[(0,gB nm 11),(7,mB lM),(8,.box [.bp 0 0] 75),(9,xB x),(10,.box [.I lP] 3),(11,.own lD (gs++[((.inr u,[],[]):NX)]++bm Xo ns') false),(12,.box [.I ro,.I x.ZC,.I o'] 235),(13,.own rA D' true)],[(1,.sl rS roles),(2,.sl Xa msgs),(5,.sl rS x.To),(6,.sl (YH Yz) x.ZD),(13,.fn (Xx u))],14⟩) (fun _=>True) ?_ (fun j1=>?_))
  · intro u _;refine eZd (R:=lD) (Rb:=rI .i64) (fr:=false) (xs:=gs++[((.inr u,[],[]):NX)]++bm Xo ns') (ys:=D') (x:=((.inr u,[],[]):NX)) (u:=u) ((.inl D',[],[]):NX) gs.length 11 13 Zbf (fun F w vs hr hs=>ZsR hr hs) rfl ?_;refine WS (R:=lD) (fr:=false) (xs:=(gs++[((.inr u,[],[]):NX)]++bm Xo ns').set gs.length (.inl D',[],[])) (gs++[((.inl D',[],[]):NX)]++bm Xo ns') 11 sett_mid.symm (wm J ?_);refine YW J [] Zk8 ([⟨ro,x.ZC,o'⟩]:List V7) (wm J ?_);refine XA J lD (QU (xs:=gs) (ys:=bm Xo ns') (x:=((.inl D',[],[]):NX)) rfl) (wm J (L8 ?_));refine RN J [14] Ma ((.inl D',[],[⟨ro,x.ZC,o'⟩]):NX) (QU (xs:=gs) (ys:=bm Xo ns') (x:=((.inl D',[],[]):NX)) rfl) ?_;refine WS (R:=lD) (fr:=false) (xs:=YE (gs++[((.inl D',[],[]):NX)]++bm Xo ns') (gs.length:Int) (.inl D',[],[⟨ro,x.ZC,o'⟩])) (gs++((⟨D',[],[⟨ro,x.ZC,o'⟩]⟩:YU)::ns').map Xo) 11 (by rw[HK rfl,aU];rfl) ?_;exact wm J (Xi J func65 [(8,.sl 11)])
  refine wa J 1 (YP (σ:=G1×Int×List Int×List YU×Int) (fun st=>⟨[(4,.B 8 0),(5,.B 9 0),(6,.B 10 0),(3,.S 7),(19,.I (gs.length:Int)),(20,.B 12 0),(118,.S 6),(119,.I (x.ZD.length:Int)),(120,.I st.2.2.2.2)],[(0,gB nm 11),(7,mB lM),(8,.box [.bp 0 0] 75),(9,xB x),(10,.box [.I lP] 3),(11,.own lD (gs++[((.inr st.1,[],[]):NX)]++bm Xo st.2.2.2.1) false),(12,.box [.I ro,.I x.ZC,.I st.2.1] 235),(13,.own rA st.2.2.1 true)],[(1,.sl rS roles),(2,.sl Xa msgs),(5,.sl rS x.To),(6,.sl (YH Yz) x.ZD),(13,.fn (Xx st.1))],14⟩) (fun n st=>QN N lst x lP kvs0 gs.length n st.2.2.2.2 st.2.1 st.2.2.1 st.2.2.2.1) (r:=(o',D',ns')) (fun _=>rfl) ?_ (fun ih=>?_))
  · rintro n ih ⟨u,o,D,ns,i⟩ h;unfold QN at h;rcases U6 h with⟨hc4,h⟩|⟨hc4,h⟩
    · cases h;exact wa J 5 (eK hc4 (wa J 2 (Yi [] (j1 u trivial))))
    refine wa J 5 (eK hc4 (wm J ?_));have⟨bl,hbl,h⟩:=ob h;have⟨rr,hrr,h⟩:=ob h;have⟨D2,hD2,h⟩:=ob h;refine YK J (Xj Yz) hbl (wm J ?_);refine Ym (hlst (gs++[((.inr u,[],[]):NX)]++bm Xo ns) bl lP kvs0 lM rr hnd hkv (by rw[ae,ae,aN];exact hrr)) [] [(0,.bp 0 0),(1,.sl 1),(2,.sl 2),(3,.sl 3),(4,.sl 11),(5,.sl 15),(6,.nil),(7,.sl 7)] (wm J ?_);refine XA J lD (Zbi (xs:=gs) (ys:=bm Xo ns) (zs:=bm Xo rr.2) (x:=((.inr u,[],[]):NX)) rfl) (wm J ?_);refine PS (u:=u) J Ma 13 (Zbi (xs:=gs) (ys:=bm Xo ns) (zs:=bm Xo rr.2) (x:=((.inr u,[],[]):NX)) rfl) (wm J ?_);refine YW J [] oD ([rr.1]:List Int) (Xu J rA hD2 (wm J ?_));refine XA J lD (Zbi (xs:=gs) (ys:=bm Xo ns) (zs:=bm Xo rr.2) (x:=((.inr u,[],[]):NX)) rfl) (wm J (L8 (QS 19 (fun u'=>?_))));refine RN J [] Ma ((.inr u',[],[]):NX) (Zbi (xs:=gs) (ys:=bm Xo ns) (zs:=bm Xo rr.2) (x:=((.inr u,[],[]):NX)) rfl) ?_;refine WS (R:=lD) (fr:=false) (xs:=YE (gs++[((.inr u,[],[]):NX)]++bm Xo ns++bm Xo rr.2) (gs.length:Int) (.inr u',[],[])) (gs++[((.inr u',[],[]):NX)]++bm Xo (ns++rr.2)) 16 (by rw[Zub rfl,bn]) ?_;exact wm J (Yi [(11,.sl 16),(13,.sl 19)] (ih (u',rr.1,D2,ns++rr.2,Yh (i+1)) h))
  exact Yi [] (ih N (Xn,0,[],[],0) hch)
theorem Zoi:Fn aB 64 ⟨1,[.S 0],[],[],2,.c (.cl 124 [] [1]),[],[(1,.box [.sl 0] 54)]⟩:=Yy func64 rfl fun E F w=>by
 exact wm J (Xi J func64 [(1,.bp 1 0)])
theorem ZrB{nm:be}{roles:List be}{msgs:List Ys}{itm:Yj->Int->X4->Nat->Option WJ}(hitm:ZhG nm roles msgs itm):Zep nm roles msgs (Dx itm):=by
 intro gs l lP kvs0 lM r hnd hkv h;refine Yy func21 rfl (fun E F w=>?_);unfold Dx at h;refine wm J (Ym Zoi [] [(0,.sl 5)] (wm J ?_));refine WS (R:=lD) (fr:=false) (xs:=gs) (gs++bm Xo ([]:List YU)) 4 (by simp) ?_;refine eRs ⟨(12,.c (.cl 124 [] [11]))::[(4,.B 8 0),(6,.B 9 0),(7,.B 10 0)],(11,.box [.sl 5] 54)::[(0,gB nm 12),(7,mB lM),(8,.box [.bp 0 0] 75),(9,.box [.I lP] 3),(10,.box [.sl 7] 47),(12,.own lD (gs++bm Xo ([]:List YU)) false)],[(1,.sl rS roles),(2,.sl Xa msgs),(5,.sl Yz l)],13⟩ [(12,.sl 4)] ?_;refine eRf (bt:=54) R7 Zos (fun _ x (b:WJ)=>(itm x b.1 kvs0 (gs.length+b.2.length)).bind fun r=>some (r.1,b.2++r.2)) (fun (b:WJ)=>⟨[(4,.B 8 0),(6,.B 9 0),(7,.B 10 0)],[(0,gB nm 12),(7,mB lM),(8,.box [.bp 0 0] 75),(9,.box [.I b.1] 3),(10,.box [.sl 7] 47),(12,.own lD (gs++bm Xo b.2) false)],[(1,.sl rS roles),(2,.sl Xa msgs),(5,.sl Yz l)],13⟩) 13 12 11 5 13 14 h (fun _=>⟨rfl,rfl⟩) ?_ ?_
 ·intro i x b b' hst E F w n0 Z ll D lr post kk;have⟨rr,hrr,hst⟩:=ob hst;cases hst;refine wm J (eBr (l:=ll) (D:=D) (r:=lr) 13 (wm J ?_));refine Ym (hitm (gs++bm Xo b.2) x b.1 kvs0 lM rr hnd hkv (by rw[ae,aN];exact hrr)) [] [(0,.bp 0 0),(1,.sl 1),(2,.sl 2),(3,.sl 3),(4,.sl 12),(5,.sl 14),(6,.sl 15),(7,.sl 7)] (wm J ?_);refine WS (R:=lD) (fr:=false) (xs:=gs++bm Xo b.2++bm Xo rr.2) (gs++bm Xo (b.2++rr.2)) 17 (by rw[bn,aU]) ?_;exact Yi [(12,.sl 17)] kk
 ·intro D;refine wm J ?_;exact ZjJ J func21 13 [(8,.sl 12)]
theorem Zkx(N:Nat)(nm:be)(roles:List be)(msgs:List Ys):∀n,Zep nm roles msgs (Tz N roles msgs n)
 |0=>fun gs l lP kvs0 lM r _ _ h=>by cases h
 |n+1=>ZrB (ZqU N (Zkx N nm roles msgs n))
/-- The list's node, without loops around it. -/
theorem ZrA(nm:be)(roles:List be)(msgs:List Ys)(n:Nat)(gs:List NX)(l:List Yj)(lP:Int)(r:WJ)(h:Tz N roles msgs n l lP [] gs.length=some r) :
  Fn aB 21 ⟨8,[.B 0 0,.S 5,.I lP,.c (.v (.map none))],[(1,.sl rS roles),(2,.sl Xa msgs),(5,.sl Yz l)],
   [(0,gB nm 4),(4,.own lD gs false)],9,.I r.1,[],[(4,.gone),(8,.own lD (gs++r.2.map Xo) false),(0,gB nm 8)]⟩:=by
 have hf:=Zkx N nm roles msgs n gs l lP [] [] r List.nodup_nil (fun _=>rfl) h;refine⟨hf.callable,fun E F w hp=>?_⟩
 let E1:lC:=E.setρ 7 (.map none)
 have hρ:∀j,j≠7->E1.ρ j=E.ρ j:=fun j hj=>by show (if j=7 then _ else E.ρ j)=_;rw[mE hj]
 have h7:E1.ρ 7=.map none:=by show (E.setρ 7 (.map none)).ρ 7=_;simp[lC.setρ]
 have hβ:∀j,E1.β j=E.β j:=fun _=>rfl;have look3:∀ {α:Type 1} {a b c:α} {k:Nat} {m:α},Yg [(0,a),(4,b),(7,c)] k=some m->(k=0/\m=a)\/(k=4/\m=b)\/(k=7/\m=c):=fun {α a b c k m} h=>by
  rw[YF]at h;split at h
  ·rename_i e;cases h;exact .inl ⟨e.symm,rfl⟩
  rw[YF]at h;split at h
  ·rename_i e;cases h;exact .inr (.inl ⟨e.symm,rfl⟩)
  rw[YF]at h;split at h
  ·rename_i e;cases h;exact .inr (.inr ⟨e.symm,rfl⟩)
  cases h
 have M0:=hp.M 0 (gB nm 4) rfl;have M4:=hp.M 4 (.own lD gs false) rfl;have hp1:Ct.Pre ⟨8,[.B 0 0,.S 5,.I lP,.S 7],[(1,.sl rS roles),(2,.sl Xa msgs),(5,.sl Yz l)],[(0,gB nm 4),(4,.own lD gs false),(7,mB [])],9,.I r.1,[],[(4,.gone),(8,.own lD (gs++r.2.map Xo) false),(0,gB nm 8),(7,mB [])]⟩ E1 F w:={
  one:=fun j=>by
   by_cases e:j=7
   ·rw[e,h7];rfl
   ·rw[hρ j e];exact hp.one j
  hF:=hp.hF
  V:=fun k f hk=>by
   have hk':Yg [(1,VF.sl rS roles),(2,VF.sl Xa msgs),(5,VF.sl Yz l)] k=some f:=hk;have ho:=hp.V k f hk;rw[YF]at hk';split at hk'
   ·rename_i e;cases hk';subst e;rw[hρ 1 (by decide)];exact ho
   rw[YF]at hk';split at hk'
   ·rename_i e;cases hk';subst e;rw[hρ 2 (by decide)];exact ho
   rw[YF]at hk';split at hk'
   ·rename_i e;cases hk';subst e;rw[hρ 5 (by decide)];exact ho
   cases hk'
  M:=fun k m hk=>by
   rcases look3 hk with⟨rfl,rfl⟩|⟨rfl,rfl⟩|⟨rfl,rfl⟩
   ·show w.heap[E.β 0]?=some (.cells (([.s nm,.sl 1,.sl 2,.sl 3,.sl 4]:List SC).map (Yn E1)).toArray 78 (0,0));have M0:w.heap[E.β 0]?=some (.cells (([.s nm,.sl 1,.sl 2,.sl 3,.sl 4]:List SC).map (Yn E)).toArray 78 (0,0)):=M0;rw[M0];simp only[aI,au,Yn,hρ 1 (by decide),hρ 2 (by decide),hρ 3 (by decide),hρ 4 (by decide)]
   ·show kh lD F w gs (E1.ρ 4);rw[hρ 4 (by decide)];exact M4
   ·show ZhH rA false true [] F w (E1.ρ 7);rw[h7];exact .inl ⟨rfl,rfl,rfl⟩
  dis:=fun k k' m m' hk hk' hne b hb hb'=>by
   have no7:∀b,¬ (mB []).fp E1 7 b:=fun b hb=>by have hb:YV (E1.ρ 7)=some b:=hb;rw[h7]at hb;cases hb
   rcases look3 hk with⟨rfl,rfl⟩|⟨rfl,rfl⟩|⟨rfl,rfl⟩<;>rcases look3 hk' with⟨rfl,rfl⟩|⟨rfl,rfl⟩|⟨rfl,rfl⟩
   ·exact hne rfl
   ·have hb':YV (E1.ρ 4)=some b:=hb';rw[hρ 4 (by decide)]at hb';exact hp.dis 0 4 _ _ rfl rfl (by decide) b hb hb'
   ·exact no7 b hb'
   ·have hb:YV (E1.ρ 4)=some b:=hb;rw[hρ 4 (by decide)]at hb;exact hp.dis 4 0 _ _ rfl rfl (by decide) b hb hb'
   ·exact hne rfl
   ·exact no7 b hb'
   ·exact no7 b hb
   ·exact no7 b hb
   ·exact hne rfl
  mF:=fun k m hk b hb=>by
   rcases look3 hk with⟨rfl,rfl⟩|⟨rfl,rfl⟩|⟨rfl,rfl⟩
   ·exact hp.mF 0 _ rfl b hb
   ·have hb:YV (E1.ρ 4)=some b:=hb;rw[hρ 4 (by decide)]at hb;exact hp.mF 4 _ rfl b hb
   ·have hb:YV (E1.ρ 7)=some b:=hb;rw[h7]at hb;cases hb }
 have K:=hf.calls E1 F w hp1;have ea:([.B 0 0,.S 5,.I lP,.S 7]:List SV).map (Yt E1)=([.B 0 0,.S 5,.I lP,.c (.v (.map none))]:List SV).map (Yt E):=by simp only[aI,au,Yt,Yn,hρ 5 (by decide),h7];rfl
 have K:Calls aB 21 (([.B 0 0,.S 5,.I lP,.S 7]:List SV).map (Yt E1)).toArray w _:=K;rw[ea]at K;refine Calls.mono K fun e w' hh=>?_;have⟨E',F',he,hq⟩:=hh
 let E2:lC:=E'.setρ 7 (E.ρ 7)
 have g:∀j,j≠7->E2.ρ j=E'.ρ j:=fun j hj=>by show (if j=7 then _ else E'.ρ j)=_;rw[mE hj]
 have hfp:∀b,Ct.fp0 ⟨8,[.B 0 0,.S 5,.I lP,.S 7],[(1,.sl rS roles),(2,.sl Xa msgs),(5,.sl Yz l)],[(0,gB nm 4),(4,.own lD gs false),(7,mB [])],9,.I r.1,[],[(4,.gone),(8,.own lD (gs++r.2.map Xo) false),(0,gB nm 8),(7,mB [])]⟩ E1 b ->
   Ct.fp0 ⟨8,[.B 0 0,.S 5,.I lP,.c (.v (.map none))],[(1,.sl rS roles),(2,.sl Xa msgs),(5,.sl Yz l)],[(0,gB nm 4),(4,.own lD gs false)],9,.I r.1,[],[(4,.gone),(8,.own lD (gs++r.2.map Xo) false),(0,gB nm 8)]⟩ E b:=fun b hb=>by
  have⟨k,m,hk,hb⟩:=hb;rcases look3 hk with⟨rfl,rfl⟩|⟨rfl,rfl⟩|⟨rfl,rfl⟩
  ·exact⟨0,_,rfl,hb⟩
  ·refine⟨4,_,rfl,?_⟩;have hb:YV (E1.ρ 4)=some b:=hb;rw[hρ 4 (by decide)]at hb;exact hb
  ·have hb:YV (E1.ρ 7)=some b:=hb;rw[h7]at hb;cases hb
 have look4:∀ {k:Nat} {m:MO},Yg [(4,MO.gone),(8,MO.own lD (gs++r.2.map Xo) false),(0,gB nm 8)] k=some m->k≠7/\Yg [(4,MO.gone),(8,MO.own lD (gs++r.2.map Xo) false),(0,gB nm 8),(7,mB [])] k=some m/\(∀b,m.fp E2 k b↔m.fp E' k b)/\∀F w,m.ok E' F w k->m.ok E2 F w k:=fun {k m} hk=>by
  rw[YF]at hk;split at hk
  ·rename_i e;cases hk;subst e;exact⟨by decide,rfl,fun _=>fv,fun _ _ h=>h⟩
  rw[YF]at hk;split at hk
  ·rename_i e;cases hk;subst e;refine⟨by decide,rfl,fun b=>?_,fun F w h=>?_⟩
   ·show YV (E2.ρ 8)=some b↔YV (E'.ρ 8)=some b;rw[g 8 (by decide)]
   ·show kh lD F w _ (E2.ρ 8);rw[g 8 (by decide)];exact h
  rw[YF]at hk;split at hk
  ·rename_i e;cases hk;subst e;refine⟨by decide,rfl,fun b=>fv,fun F w h=>?_⟩;have h:w.heap[E'.β 0]?=some (.cells (([.s nm,.sl 1,.sl 2,.sl 3,.sl 8]:List SC).map (Yn E')).toArray 78 (0,0)):=h;show w.heap[E'.β 0]?=some (.cells (([.s nm,.sl 1,.sl 2,.sl 3,.sl 8]:List SC).map (Yn E2)).toArray 78 (0,0));rw[h];simp only[aI,au,Yn,g 1 (by decide),g 2 (by decide),g 3 (by decide),g 8 (by decide)]
  cases hk
 refine⟨E2,F',he,{
  env:=fun j hj=>by
   have hj:j<8:=hj;by_cases e:j=7
   ·refine⟨?_,(hq.env j hj).2⟩;show (E'.setρ 7 (E.ρ 7)).ρ j=E.ρ j;subst e;simp[lC.setρ]
   ·refine⟨?_,(hq.env j hj).2⟩;rw[g j e,<-hρ j e];exact (hq.env j hj).1
  one:=fun j=>by
   by_cases e:j=7
   ·show (if j=7 then E.ρ 7 else _:Value).oneCell'=true;rw[mD e];exact hp.one 7
   ·rw[g j e];exact hq.one j
  V:=fun k f hk=>by cases hk
  M:=fun k m hk=>let ⟨_,h1,_,h2⟩:=look4 hk;h2 _ _ (hq.M k m h1)
  dis:=fun k k' m m' hk hk' hne b hb hb'=>by have⟨_,h1,h2,_⟩:=look4 hk;have⟨_,h1',h2',_⟩:=look4 hk';exact hq.dis k k' m m' h1 h1' hne b ((h2 b).1 hb) ((h2' b).1 hb')
  mF:=fun k m hk b hb=>by have⟨_,h1,h2,_⟩:=look4 hk;have:=hq.mF k m h1 b ((h2 b).1 hb);exact⟨this.1,this.2.1,this.2.2.imp (hfp b) id⟩
  fresh:=fun k m hk hfr b hb=>by have⟨_,h1,h2,_⟩:=look4 hk;exact hq.fresh k m h1 hfr b ((h2 b).1 hb)
  F0:=hq.F0
  F1:=hq.F1
  Fs:=hq.Fs
  ext:=hq.ext.mono fun b hb=>⟨hb.1,fun h=>hb.2 (hfp b h)⟩ }⟩
theorem ZsT(xs:List YU):∀(i:Nat) (x:YU) (y:NX),xs[i]?=some x->(xs.map Xo)[i]?=some y->∀F w vs,rR12.rep F w x vs->lD.rep F w y vs:=by intro i x y h1 h2;rw[aK,h1]at h2;cases h2;intro F w vs h;exact h
theorem ZsU(xs:List YU):∀(i:Nat) (x:NX) (y:YU),(xs.map Xo)[i]?=some x->xs[i]?=some y->∀F w vs,lD.rep F w x vs->rR12.rep F w y vs:=by intro i x y h1 h2;rw[aK,h2]at h1;cases h1;intro F w vs h;exact h
theorem ZnO(nm:be)(roles:List be)(msgs:List Ys)(nodes:List YU)(l:List Yj)(lP:Int)(r:WJ)(h:G4 N roles msgs nodes l lP=some r) :
  Fn aB 21 ⟨8,[.B 0 0,.S 5,.I lP,.c (.v (.map none))],[(1,.sl rS roles),(2,.sl Xa msgs),(5,.sl Yz l)],
   [(0,gB nm 4),(4,.own lD (nodes.map Xo) false)],9,.I r.1,[],[(4,.gone),(8,.own lD (r.2.map Xo) false),(0,gB nm 8)]⟩:=by unfold G4 at h;have⟨q,hq,h⟩:=ob h;cases h;have:=ZrA N nm roles msgs N (nodes.map Xo) l lP q (by rw[aN];exact hq);rw[<-bn]at this;exact this
theorem Zvx(c:(List Int))(r:(List Int))(h:Zch N c=some r) :
 Fn aB 120 ⟨1,[.S 0],[(0,.sl rA c)],[],2,.S 1,[],[(1,.own rA r true)]⟩:=Yy func120 rfl fun E F w=>by
 unfold Zch at h;refine wa J 8 (eNi rA c false ?_);intro nb hnb;cases nb
 ·refine wa J 5 (YW J [] oD ([]:List Int) ?_);refine wO J 1 h fun d e h=>Xu J rA e ?_;exact oi h▸wr J 2 func120 [(1,.sl 2)]
 ·obtain rfl:=hnb rfl;replace h:(some ([]:List Int):Option (List Int))=some r:=h;exact oi h▸wr J 6 func120 [(1,.nil)]
theorem Zvy(c:List Int)(r:List Int)(h:Zci N c=some r):Fn aB 121 ⟨1,[.S 0],[],[(0,.own rA c false)],1,.t [],[],[(0,.own rA r false)]⟩:=by
 unfold Zci at h;cases hb:(decide ((c.length:Int)<=4611686018427387903)) with
 |false=>rw[hb]at h;cases h
 |true=>
  rw[hb]at h;simp only[l9,aR]at h;subst h;simp only[l8]at hb;exact Zut c (by omega)
theorem Zhn(c:X5)(d:(List Int))(r:(List Int))(h:Lg N c d=some r) :
 Fn aB 61 ⟨6,[.B 0 0,.S 5],(Td 1 2 3 4 c [(5,.sl rA d)]),[(0,.box (Vt 1 2 3 4 c) 78)],7,.S 6,[],[(6,.own rA r true),(0,.box (Vt 1 2 3 4 c) 78)]⟩:=Yy func61 rfl fun E F w=>by
 unfold Lg at h;refine wa J 6 (Ze6 Int rB false ?_);refine wO J 10 h fun e f h=>Ym (Zvx N d _ f) [] [(0,.sl 5)] (wa J 2 (YD (σ:=(List Int)) (fun st=>⟨[(6,.S 8)],[(0,.box (Vt 1 2 3 4 c) 78),(8,.own rA st true)],(Td 1 2 3 4 c [(5,.sl rA d)]),9⟩) (fun st=>ZdH N st=some r) ?_ (fun j1=>?_)))
 ·intro g h;unfold ZdH at h;refine wO J 3 h fun i j h=>Ym (Zvy N g _ j) [] [(0,.sl 8)] ?_;exact oi h▸wr J 6 func61 [(6,.sl 8)]
 refine wa J 1 (YP (σ:=(List (Int×Bool))×(List Int)×(List Int)) (fun st=>⟨[(0,.B 0 0),(5,.S 6),(6,.S 8),(7,.S 9)],[(0,.box (Vt 1 2 3 4 c) 78),(6,.av (Xr rB false false st.1)),(8,.own rA st.2.1 true),(9,.own rA st.2.2 true)],(Td 1 2 3 4 c [(5,.sl rA d)]),10⟩) (fun n st=>Qs N c n st.1 st.2.1 st.2.2) (r:=r) (fun _=>rfl) ?_ (fun ih=>?_))
 ·intro n2 ih3;rintro⟨k,l,m⟩ h;unfold Qs at h;refine Yu J 7 h (fun h=>wa J 2 (Yi [] (j1 l h))) fun h=>?_;refine wO J 9 h fun o p h=>XA J rA p (Wt J oD p ?_);refine wO J 8 h fun s t h=>VT J rA t ?_;refine wO J 7 h fun u v h=>PP (nl:=false) oB ZkQ (Zm v) ?_;refine wB J 1 h (fun h=>wa J 2 (eSl rA 11 t (Yi [(9,.sl 11)] (ih3 (k,l,s) h)))) fun h=>wa J 6 (PQ (q:=o) (lM:=k) [] oB true ZkQ (wa J 5 (YW J [] oD ([o]:List Int) ?_)));have⟨x,y,h⟩:=ob h;refine Xu J rA y ?_;refine wO J 9 h fun z A h=>YK J ZbC A ?_;exact wO J 2 h fun C D h=>eSl rA 11 t (Xu J rA D (wa J 3 (Yi [(8,.sl 13),(9,.sl 18)] (ih3 ((Xf k o true),x,C) h))))
 exact Yi [(8,.nil),(9,.sl 7)] (ih N (([]:(List (Int×Bool))),([]:List Int),e) h)
theorem Zv2(c:be)(r:be)(h:ZcW N c=some r) :
 Fn aB 161 ⟨1,[.B 0 0],[],[(0,.box [.v (.pointer none),.nil] 195)],2,.t [],[],[(1,.buf r 5),(0,.box [.bp 0 0,.sl 1] 195)]⟩:=Yy func161 rfl fun E F w=>by
 unfold ZcW at h;refine wa J 6 (ePz (wa J 5 (eCu (eNe func200 (by kernel_rfl) (by kernel_rfl) (by kernel_rfl) (by kernel_rfl) (eCq ?_)))));exact oi h▸wr J 4 func161 [(1,.nil)]
theorem Zwh(d:be)(e:Int)(r:be)(h:Zc6 N d e=some r) :
 Fn aB 201 ⟨1,[.S 0,.c (.i .i32 e)],[],[(0,.buf d 5)],2,.S 1,[],[(1,.buf r 5),(0,.gone)]⟩:=Yy func201 rfl fun E F w=>by
 unfold Zc6 at h;refine wB J 17 h (fun h=>?_) fun h=>wa J 8 (YD (σ:=Bool) (fun st=>⟨[(0,.S 0),(1,.c (.i .i32 e)),(5,.c (.i .u32 (wk .u32 (e)))),(25,.O st)],[(0,.buf d 5)],[],1⟩) (fun st=>Gi d e st=some r) ?_ (fun j1=>?_))
 ·refine wO J 5 h fun f g h=>WR g ?_;refine wO J 1 h fun j k h=>WR k ?_;refine wO J 2 h fun l m h=>WR m ?_;have⟨o,p,h⟩:=ob h;refine WR p (YW J [] (oI .u8) ([j,o]:List Int) ?_);have⟨s,t,h⟩:=ob h;refine L5 (ty:=5) (fr:=true) (q:=1) J t ?_;exact oi h▸wr J 2 func201 [(1,.sl 2)]
 ·intro u h;unfold Gi at h;refine eB h (fun h=>?_) fun h=>?_
  ·refine wO J 5 h fun v x h=>WR x ?_;refine wO J 1 h fun y z h=>WR z ?_;refine wO J 1 h fun A C h=>WR C ?_;refine wO J 1 h fun D G h=>WR G ?_;have⟨H,R,h⟩:=ob h;refine WR R ?_;refine wO J 2 h fun T U h=>WR U ?_;have⟨X,Y,h⟩:=ob h;refine WR Y (YW J [] (oI .u8) ([y,H,X]:List Int) ?_);have⟨Z,a0,h⟩:=ob h;refine L5 (ty:=5) (fr:=true) (q:=1) J a0 ?_;exact oi h▸wr J 2 func201 [(1,.sl 2)]
  refine Yu J 6 h (fun h=>wa J 9 (YW J [] (oI .u8) ([239,191,189]:List Int) ?_)) fun h=>?_
  ·have⟨b0,c0,h⟩:=ob h;refine L5 (ty:=5) (fr:=true) (q:=1) J c0 ?_;exact oi h▸wr J 2 func201 [(1,.sl 2)]
  refine Yu J 5 h (fun h=>wa J 4 (YW J [] (oI .u8) ([239,191,189]:List Int) ?_)) fun h=>?_
  ·have⟨e0,g0,h⟩:=ob h;refine L5 (ty:=5) (fr:=true) (q:=1) J g0 ?_;exact oi h▸wr J 2 func201 [(1,.sl 2)]
  refine wO J 5 h fun i0 j0 h=>WR j0 ?_;refine wO J 1 h fun k0 l0 h=>WR l0 ?_;refine wO J 1 h fun m0 o0 h=>WR o0 ?_;refine wO J 1 h fun p0 q0 h=>WR q0 ?_;have⟨s0,t0,h⟩:=ob h;refine WR t0 ?_;refine wO J 1 h fun u0 v0 h=>WR v0 ?_;refine wO J 1 h fun x0 y0 h=>WR y0 ?_;have⟨z0,A0,h⟩:=ob h;refine WR A0 ?_;refine wO J 2 h fun B0 C0 h=>WR C0 ?_;have⟨D0,G0,h⟩:=ob h;refine WR G0 (YW J [] (oI .u8) ([k0,s0,z0,D0]:List Int) ?_);have⟨H0,I0,h⟩:=ob h;refine L5 (ty:=5) (fr:=true) (q:=1) J I0 ?_;exact oi h▸wr J 2 func201 [(1,.sl 2)]
 refine eB h (fun h=>wa J 2 (Yi [] (j1 true h))) fun h=>?_;exact wB J 5 h (fun h=>wa J 5 (Yi [] (j1 (decide ((wk .u32 (e))<=65535)) h))) fun h=>wa J 5 (Yi [] (j1 false h))
theorem ZmZ(d:be)(e:Int)(r:be)(h:Ge N d e=some r) :
 Fn aB 162 ⟨1,[.S 0,.c (.i .i32 e)],[],[(0,.buf d 5)],2,.S 1,[],[(1,.buf r 5),(0,.gone)]⟩:=Yy func162 rfl fun E F w=>by
 unfold Ge at h;refine wB J 11 h (fun h=>wa J 6 (YW J [] (oI .u8) ([(wk .u8 (e))]:List Int) ?_)) fun h=>?_
 ·have⟨f,g,h⟩:=ob h;refine L5 (ty:=5) (fr:=true) (q:=1) J g ?_;exact oi h▸wr J 2 func162 [(1,.sl 2)]
 refine wO J 6 h fun j k h=>Ym (Zwh N d e _ k) [] [(0,.sl 0)] ?_;exact oi h▸wr J 2 func162 [(1,.sl 1)]
theorem ZmT(d:Int)(e:be)(r:Int×Unit×be)(h:H5 N d e=some r) :
 Fn aB 122 ⟨1,[.B 0 0,.c (.i .i32 d)],[],[(0,.box [.v (.pointer none),.nil] 195)],2,.t [.inl (.I r.1),.inl (.v .nilIface)],[],[(1,.buf r.2.2 5),(0,.box [.bp 0 0,.sl 1] 195)]⟩:=Yy func122 rfl fun E F w=>by
 unfold H5 at h;refine wO J 8 h fun f g h=>Ym (Zv2 N ao _ g) [] [(0,.bp 0 0)] (wa J 7 (L4 (sb:=f) (ty:=5) J ?_));refine wO J 10 h fun j k h=>Ym (ZmZ N f d _ k) [] [(0,.sl 1)] (wa J 10 (L4 (sb:=j) (ty:=5) J ?_));exact oi h▸wr J 5 func122 [(1,.sl 2)]
theorem Zv3(c:be)(r:Unit)(h:ZcY N c=some r) :
 Fn aB 161 ⟨2,[.B 0 0],[],[(0,.box [.bp 0 0,.sl 1] 195),(1,.buf c 5)],2,.t [],[],[(0,.box [.bp 0 0,.sl 1] 195),(1,.buf c 5)]⟩:=Yy func161 rfl fun E F w=>by
 unfold ZcY at h;refine wa J 6 (ePn false (wa J 9 (ePs ?_)));cases h;exact wr J 3 func161 []
theorem ZgH(d:Int)(e:be)(r:Int×Unit×be)(h:MC N d e=some r) :
 Fn aB 122 ⟨2,[.B 0 0,.c (.i .i32 d)],[],[(0,.box [.bp 0 0,.sl 1] 195),(1,.buf e 5)],3,.t [.inl (.I r.1),.inl (.v .nilIface)],[],[(1,.gone),(2,.buf r.2.2 5),(0,.box [.bp 0 0,.sl 2] 195)]⟩:=Yy func122 rfl fun E F w=>by
 unfold MC at h;refine wO J 8 h fun f g h=>Ym (Zv3 N e _ g) [] [(0,.bp 0 0),(1,.sl 1)] (wa J 7 (L4 (sb:=e) (ty:=5) J ?_));refine wO J 10 h fun j k h=>Ym (ZmZ N e d _ k) [] [(0,.sl 1)] (wa J 10 (L4 (sb:=j) (ty:=5) J ?_));exact oi h▸wr J 5 func122 [(2,.sl 2)]
theorem Znj(d:be)(r:be)(h:GR N d=some r) :
 Fn aB 96 ⟨2,[.B 0 0],[],[(0,.box [.bp 0 0,.sl 1] 195),(1,.buf d 5)],2,.c (.s r),[],[(0,.box [.bp 0 0,.sl 1] 195),(1,.gone)]⟩:=Yy func96 rfl fun E F w=>by
 unfold GR at h;refine wO J 10 h fun e f h=>eUd (ty:=5) (Zbd f) (wa J 4 (L4 (sb:=d) (ty:=5) J ?_));have⟨g,i,h⟩:=ob h;refine eUs (ty:=5) (Zbd i) (wa J 1 (YL ?_));cases h;exact Xi J func96 []
theorem Zxm(d:be)(r:be)(h:Zhy N d=some r) :
 Fn aB 96 ⟨1,[.B 0 0],[],[(0,.box [.v (.pointer none),.nil] 195)],1,.c (.s r),[],[(0,.box [.v (.pointer none),.nil] 195)]⟩:=Yy func96 rfl fun E F w=>by
 unfold Zhy at h;refine wa J 10 (eUn (wa J 5 (eUz (wa J 1 (YL ?_)))));cases h;exact Xi J func96 []
theorem Zho(d:(List Int))(r:be)(h:Lh N d=some r) :
 Fn aB 62 ⟨1,[.S 0],[(0,.sl rA d)],[],1,.c (.s r),[],[]⟩:=Yy func62 rfl fun E F w=>by
 unfold Lh at h;refine wa J 16 (ePl ?_);refine Yu J 5 h (fun h=>?_) fun h=>?_
 ·refine wO J 4 h fun e f h=>Ym (Zxm N ao _ f) [] [(0,.bp 1 0)] ?_;exact oi h▸wr J 2 func62 []
 refine wO J 6 h fun g i h=>YK J oD i ?_;refine wO J 6 h fun j k h=>Ym (ZmT N (wk .i32 (g)) ao _ k) [] [(0,.bp 1 0)] (wa J 6 (Ze5 (σ:=be×Int) (fun st=>⟨[(3,.B 1 0),(6,.S 0),(7,.I (d.length:Int)),(8,.I st.2)],[(1,.box [.bp 1 0,.sl 4] 195),(4,.buf st.1 5)],[(0,.sl rA d)],5⟩) (fun n st=>Li N d n st.1 st.2) (r:=r) (fun _=>rfl) ?_ (fun ih=>?_)))
 ·intro n2 ih3;rintro⟨l,m⟩ h;unfold Li at h;refine Yu J 5 h (fun h=>?_) fun h=>?_
  ·refine wO J 4 h fun o p h=>Ym (Znj N l _ p) [] [(0,.bp 1 0),(1,.sl 4)] ?_;exact oi h▸wr J 2 func62 []
  refine wO J 6 h fun q t h=>YK J oD t ?_;exact wO J 6 h fun u v h=>Ym (ZgH N (wk .i32 (q)) l _ v) [] [(0,.bp 1 0),(1,.sl 4)] (wa J 6 (Yi [(4,.sl 6)] (ih3 (u.2.2,(Yh (m+1))) h)))
 exact Yi [(4,.sl 3)] (ih N (j.2.2,(Yh ((0:Int)+(1:Int)))) h)
theorem Zm4(c:Int)(r:Bool)(h:Gj N c=some r) :
 Fn aB 225 ⟨0,[.I c],[],[],0,.O r,[],[]⟩:=Yy func225 rfl fun E F w=>by
 unfold Gj at h;exact oi h▸wr J 11 func225 []
theorem Zg0(c:Int)(d:Int)(r:Int)(h:MZ N c d=some r) :
 Fn aB 203 ⟨0,[.I c,.I d],[],[],0,.I r,[],[]⟩:=Yy func203 rfl fun E F w=>by
 unfold MZ at h;refine wO J 7 h fun e f h=>Ym (Zm4 N c _ f) [] [] ?_;refine wO J 5 h fun g i h=>Ym (Zm4 N d _ i) [] [] ?_;refine wB J 7 h (fun h=>?_) fun h=>?_
 ·exact wB J 6 h (fun h=>oi h▸wr J 5 func203 []) fun h=>oi h▸wr J 6 func203 []
 refine wB J 7 h (fun h=>oi h▸wr J 5 func203 []) fun h=>?_;refine wB J 9 h (fun h=>oi h▸wr J 5 func203 []) fun h=>?_;exact wB J 9 h (fun h=>oi h▸wr J 5 func203 []) fun h=>oi h▸wr J 6 func203 []
theorem Zwi(c:(List Int))(r:Int)(h:Zc7 N c=some r) :
 Fn aB 202 ⟨1,[.S 0],[(0,.sl rA c)],[],1,.I r,[],[]⟩:=Yy func202 rfl fun E F w=>by
 unfold Zc7 at h;refine wa J 15 (YD (σ:=Unit) (fun st=>⟨[(3,.I 0)],[],[(0,.sl rA c)],1⟩) (fun st=>Zc8=some r) ?_ (fun j1=>?_))
 ·intro _ h;unfold Zc8 at h;exact oi h▸wr J 5 func202 []
 refine wa J 1 (YP (σ:=Int) (fun st=>⟨[(3,.I 0),(6,.S 0),(7,.I (c.length:Int)),(8,.I st)],[],[(0,.sl rA c)],1⟩) (fun n st=>Rp c n st) (r:=r) (fun _=>rfl) ?_ (fun ih=>?_))
 ·intro n2 ih3;intro d h;unfold Rp at h;refine Yu J 5 h (fun h=>wa J 2 (Yi [] (j1 () h))) fun h=>?_;refine wO J 6 h fun e f h=>YK J oD f ?_;exact wB J 9 h (fun h=>oi h▸wr J 6 func202 []) fun h=>wa J 7 (Yi [] (ih3 (Yh (d+1)) h))
 exact Yi [] (ih N 0 h)
theorem Zm0(c:T6)(d:T6)(r:Int)(h:z164 N c d=some r) :
 Fn aB 164 ⟨0,[.a (PL c),.a (PL d)],[],[],0,.I r,[],[]⟩:=Yy func164 rfl fun E F w=>by
 unfold z164 at h;refine wO J 12 h fun e f h=>Ym (Zg0 N c.ZB d.ZB _ f) [] [] ?_;refine wO J 4 h fun g i h=>Ym (Zg0 N c.To d.To _ i) [] [] ?_;refine wO J 4 h fun j k h=>Ym (Zg0 N c.ZP d.ZP _ k) [] [] (YW J [] oD ([e,g,j]:List Int) ?_);have⟨l,m,h⟩:=ob h;refine Wp (Zwi N ([e,g,j]:List Int) _ m) [] [(0,.sl 2)] [2] (.inr ⟨rfl,trivial⟩) (wa J 1 (YL ?_));cases h;exact Xi J func164 []
theorem Zv6(d:(List T6))(e:T6)(r:Int×Bool)(h:Bq N d e=some r) :
 Fn aB 163 ⟨1,[.S 0,.a (PL e),.c (.cl 164 [] [])],[(0,.sl lG d)],[],1,.t [.inl (.I r.1),.inl (.b r.2)],[],[]⟩:=Yy func163 rfl fun E F w=>by
 unfold Bq at h;refine wa J 19 (YD (σ:=Int) (fun st=>⟨[(0,.S 0),(2,.c (.cl 164 [] [])),(4,.B 1 0),(8,.I (d.length:Int)),(9,.I st)],[(1,.box (PL e) 39)],[(0,.sl lG d)],2⟩) (fun st=>Zc0 N d e st=some r) ?_ (fun j1=>?_))
 ·intro f h;unfold Zc0 at h;refine Yu J 7 h (fun h=>wa J 11 (YL ?_)) fun h=>?_
  ·cases h;exact Xi J func163 []
  refine wO J 3 h fun g i h=>YK J Wy i ?_;refine wO J 2 h fun j k h=>Ym (Zm0 N g e _ k) [] [] (wa J 4 (YL ?_));cases h;exact Xi J func163 []
 refine wa J 1 (YP (σ:=Int×Int) (fun st=>⟨[(0,.S 0),(2,.c (.cl 164 [] [])),(4,.B 1 0),(8,.I (d.length:Int)),(9,.I st.1),(10,.I st.2)],[(1,.box (PL e) 39)],[(0,.sl lG d)],2⟩) (fun n st=>SB N d e n st.1 st.2) (r:=r) (fun _=>rfl) ?_ (fun ih=>?_))
 ·intro n2 ih3;rintro⟨l,m⟩ h;unfold SB at h;refine Yu J 7 h (fun h=>wa J 2 (Yi [] (j1 l h))) fun h=>?_;refine wO J 9 h fun o p h=>WR p ?_;refine wO J 8 h fun q s h=>YK J Wy s ?_;refine wO J 2 h fun u v h=>Ym (Zm0 N q e _ v) [] [] (wa J 1 (YL ?_));exact eB h (fun h=>wa J 7 (Yi [] (ih3 ((Yh ((Yh (o))+1)),m) h))) fun h=>wa J 6 (Yi [] (ih3 (l,(Yh (o))) h))
 exact Yi [] (ih N (0,(d.length:Int)) h)
theorem ZeE{n i:Nat}(h:i<=n):WK (some (i:Int)) none n=some (i,n):=by
 have h2:(i:Int)<=(n:Int):=by omega
 simp only[WK,bX,Option.getD_none,a8,da,decide_true,h2,Int.le_refl,Bool.and_self,l9]
theorem Zom{n i:Nat}(h:i<=n):WK none (some (i:Int)) n=some (0,i):=by
 have h2:(i:Int)<=(n:Int):=by omega
 simp only[WK,bX,Option.getD_none,a8,da,decide_true,h2,Int.le_refl,Bool.and_self,l9,Int.toNat_zero]
theorem TB{α:Type}{xs:List α}{i:Nat}(h:i<=xs.length):lsl xs (some (i:Int)) none=some (xs.drop i):=by unfold Kx.lsl;rw[ZeE h];simp
theorem Ho{α:Type}{xs:List α}{i:Nat}(h:i<=xs.length):lsl xs none (some (i:Int))=some (xs.take i):=by unfold Kx.lsl;rw[Zom h];simp
theorem ZaO{α:Type}{xs:List α}{x:α}{i:Nat}(h:i<xs.length):RK xs (some (i:Int)) none [x]=some (xs.take i++[x]++xs.drop (i+1),1):=by
 unfold RK;rw[ZeE (Nat.le_of_lt h)];have e:min ([x]:List α).length (xs.length-i)=1:=by simp;omega
 simp only[bb,e];rfl
theorem ZiA{α:Type}{xs ys:List α}{i:Nat}(h:i+ys.length=xs.length):RK xs (some (i:Int)) none ys=some (xs.take i++ys,(ys.length:Int)):=by
 unfold RK;rw[ZeE (by omega)];have e:min ys.length (xs.length-i)=ys.length:=by omega
 simp only[bb,e];rw[dZ,h,jS,bh]
theorem Zvz(xs:List T6)(x:T6)(i:Nat)(hi:i<=xs.length)(hlim:xs.length+1<=lim) :
 Fn aB 165 ⟨2,[.S 0,.I (i:Int),.S 1],[(1,.fn (RX 1))],[(0,.own lG xs false),(1,.av (Uj lG [x]))],3,.S 2,[],[(0,.gone),(1,.av (Uj lG [x])),(2,.own lG (xs.take i++[x]++xs.drop i) false)]⟩:=by
 have hl:lim=4294967296:=rfl;have hw:Yh ((xs.length:Int)+1)=((xs.length+1:Nat):Int):=by rw[show ((xs.length:Int)+1)=((xs.length+1:Nat):Int) by omega];exact Tf (by omega) (by omega)
 refine Yy func165 rfl (fun E F w=>?_);refine wn J (VT J lG (TB hi) (wn J (eLn (len:=1) J (wn J (wa J 1 (wn J ?_))))));by_cases he:i=xs.length
 ·refine ek J (b:=((i:Int)==(xs.length:Int))) (t:=true) (by rw[he];exact ly _) ?_;refine eKa J lG (zs:=xs++[x]) (by unfold Y8;rw[ai (show xs.length+[x].length<=lim from hlim)];rfl) (wm J ?_);exact WS (R:=lG) (fr:=false) (xs:=xs++[x]) (xs.take i++[x]++xs.drop i) 3 (by rw[he,dZ,jS,bh]) (Xi J func165 [(2,.sl 3)])
 have hlt:i<xs.length:=by omega
 have hw2:Yh ((i:Int)+1)=((i+1:Nat):Int):=by rw[show ((i:Int)+1)=((i+1:Nat):Int) by omega];exact Tf (by omega) (by omega)
 refine ek J (b:=((i:Int)==(xs.length:Int))) (t:=false) (lp.2 (by omega)) ?_;refine eKc (R:=lG) (xs:=xs) (fr:=false) J (fun c K=>?_);refine wn J ?_;by_cases hr:xs.length+1<=c
 ·refine ek J (b:=decide (Yh ((xs.length:Int)+1)>(c:Int))) (t:=false) (decide_eq_false (by rw[hw];omega)) ?_;refine eKr (R:=lG) (xs:=xs) (fr:=false) (cp:=c) J 1 hw hr (by omega) (wm J ?_);refine L6 (R:=lG) (xs:=xs) (m:=1) J (i+1) hw2 (by omega) (wm J ?_);refine eKo (R:=lG) (xs:=xs) (ys:=[x]) (m:=1) (l:=i+1) (t:=159) (tR:=4) (f:=204) J 3 (run_callFunc_extern func204 (by kernel_rfl) (by kernel_rfl) (by kernel_rfl) (by kernel_rfl)) (by omega) (wn J (wa J 1 (wn J ?_)));refine L6 (R:=lG) (xs:=xs) (m:=1) J (i+1) hw2 (by omega) (wm J ?_);refine L6 (R:=lG) (xs:=xs) (m:=1) J i rfl (by omega) (wm J ?_);refine eKh (R:=lG) (xs:=xs) J 3 i hlt (YL (wm J ?_));have e1:(xs.take (i+1)++xs.drop i).length=xs.length+1:=by simp;omega
  refine VT J lG (TB (xs:=xs.take (i+1)++xs.drop i) (i:=i) (by omega)) (wm J ?_);refine eKw J lG (ZaO (xs:=xs.take (i+1)++xs.drop i) (x:=x) (i:=i) (by omega)) (wm J ?_);refine WS (R:=lG) (fr:=false) (xs:=(xs.take (i+1)++xs.drop i).take i++[x]++(xs.take (i+1)++xs.drop i).drop (i+1)) (xs.take i++[x]++xs.drop i) 3 ?_ (Xi J func165 [(2,.sl 3)]);have h1:(xs.take (i+1)).length=i+1:=by rw[aL];omega
  rw[bw (by omega),gI,cS (by omega),List.drop_left' h1]
 refine ek J (b:=decide (Yh ((xs.length:Int)+1)>(c:Int))) (t:=true) (lh (by rw[hw];omega)) ?_;have hw3:Yh (Yh ((xs.length:Int)+1)-(i:Int))=((xs.length+1-i:Nat):Int):=by rw[hw,show ((xs.length+1:Nat):Int)-(i:Int)=((xs.length+1-i:Nat):Int) by omega];exact Tf (by omega) (by omega)
 refine VT J lG (Ho hi) (wm J ?_);refine eKz (R:=lG) (xs:=xs) (fr:=false) (cp:=c) (tn:=3) J Wy (⟨0,0,0⟩:T6) 0 i (xs.length+1-i) hw3 (by omega) (by omega) (by omega) (by omega) (by omega) ⟨.i64,by kernel_rfl⟩ (wm J ?_);have e1:(xs.take i++aQ (xs.length+1-i) (⟨0,0,0⟩:T6)).length=xs.length+1:=by simp;omega
 refine VT J lG (TB (xs:=xs.take i++aQ (xs.length+1-i) (⟨0,0,0⟩:T6)) (i:=i) (by omega)) (wm J ?_);refine eKw J lG (ZaO (xs:=xs.take i++aQ (xs.length+1-i) (⟨0,0,0⟩:T6)) (x:=x) (i:=i) (by omega)) (wm J ?_);obtain⟨ys,hys⟩:∃ys,ys=(xs.take i++aQ (xs.length+1-i) (⟨0,0,0⟩:T6)).take i++[x]++(xs.take i++aQ (xs.length+1-i) (⟨0,0,0⟩:T6)).drop (i+1):=⟨_,rfl⟩
 have e2:ys.length=xs.length+1:=by rw[hys];simp;omega
 rw[<-hys];refine VT (lo:=some (Yh ((i:Int)+1))) J lG (by rw[hw2];exact TB (xs:=ys) (by omega)) (wm J ?_);refine VT J lG (TB hi) (wm J ?_);refine eDw (lo:=some (Yh ((i:Int)+1))) J lG (TB hi) (by rw[hw2];exact ZiA (xs:=ys) (ys:=xs.drop i) (by rw[bg];omega)) (YL (wm J ?_));refine WS (R:=lG) (fr:=true) (xs:=ys.take (i+1)++xs.drop i) (xs.take i++[x]++xs.drop i) 4 ?_ (Xi J func165 [(2,.sl 4)]);have h1:(xs.take i).length=i:=by rw[aL];omega
 have hT:(xs.take i++aQ (xs.length+1-i) (⟨0,0,0⟩:T6)).take i=xs.take i:=by rw[bw (by omega),gI,Nat.min_self]
 rw[hys,hT,List.take_left' (l₁:=xs.take i++[x]) (by rw[ae,h1];rfl)]
theorem ZqF(xs:List (List Int⊕G1))(x:(List Int⊕G1))(i:Nat)(hi:i<=xs.length)(hlim:xs.length+1<=lim) :
 Fn aB 166 ⟨2,[.S 0,.I (i:Int),.S 1],[(1,.fn (RX 1))],[(0,.own (XW rA) xs false),(1,.av (Uj (XW rA) [x]))],3,.S 2,[],[(0,.gone),(1,.av (Uj (XW rA) [x])),(2,.own (XW rA) (xs.take i++[x]++xs.drop i) false)]⟩:=by
 have hl:lim=4294967296:=rfl;have hw:Yh ((xs.length:Int)+1)=((xs.length+1:Nat):Int):=by rw[show ((xs.length:Int)+1)=((xs.length+1:Nat):Int) by omega];exact Tf (by omega) (by omega)
 refine Yy func166 rfl (fun E F w=>?_);refine wn J (VT J (XW rA) (TB hi) (wn J (eLn (len:=1) J (wn J (wa J 1 (wn J ?_))))));by_cases he:i=xs.length
 ·refine ek J (b:=((i:Int)==(xs.length:Int))) (t:=true) (by rw[he];exact ly _) ?_;refine eKa J (XW rA) (zs:=xs++[x]) (by unfold Y8;rw[ai (show xs.length+[x].length<=lim from hlim)];rfl) (wm J ?_);exact WS (R:=(XW rA)) (fr:=false) (xs:=xs++[x]) (xs.take i++[x]++xs.drop i) 3 (by rw[he,dZ,jS,bh]) (Xi J func166 [(2,.sl 3)])
 have hlt:i<xs.length:=by omega
 have hw2:Yh ((i:Int)+1)=((i+1:Nat):Int):=by rw[show ((i:Int)+1)=((i+1:Nat):Int) by omega];exact Tf (by omega) (by omega)
 refine ek J (b:=((i:Int)==(xs.length:Int))) (t:=false) (lp.2 (by omega)) ?_;refine eKc (R:=(XW rA)) (xs:=xs) (fr:=false) J (fun c K=>?_);refine wn J ?_;by_cases hr:xs.length+1<=c
 ·refine ek J (b:=decide (Yh ((xs.length:Int)+1)>(c:Int))) (t:=false) (decide_eq_false (by rw[hw];omega)) ?_;refine eKr (R:=(XW rA)) (xs:=xs) (fr:=false) (cp:=c) J 1 hw hr (by omega) (wm J ?_);refine L6 (R:=(XW rA)) (xs:=xs) (m:=1) J (i+1) hw2 (by omega) (wm J ?_);refine eKo (R:=(XW rA)) (xs:=xs) (ys:=[x]) (m:=1) (l:=i+1) (t:=163) (tR:=4) (f:=206) J 3 (run_callFunc_extern func206 (by kernel_rfl) (by kernel_rfl) (by kernel_rfl) (by kernel_rfl)) (by omega) (wn J (wa J 1 (wn J ?_)));refine L6 (R:=(XW rA)) (xs:=xs) (m:=1) J (i+1) hw2 (by omega) (wm J ?_);refine L6 (R:=(XW rA)) (xs:=xs) (m:=1) J i rfl (by omega) (wm J ?_);refine eKh (R:=(XW rA)) (xs:=xs) J 3 i hlt (YL (wm J ?_));have e1:(xs.take (i+1)++xs.drop i).length=xs.length+1:=by simp;omega
  refine VT J (XW rA) (TB (xs:=xs.take (i+1)++xs.drop i) (i:=i) (by omega)) (wm J ?_);refine eKw J (XW rA) (ZaO (xs:=xs.take (i+1)++xs.drop i) (x:=x) (i:=i) (by omega)) (wm J ?_);refine WS (R:=(XW rA)) (fr:=false) (xs:=(xs.take (i+1)++xs.drop i).take i++[x]++(xs.take (i+1)++xs.drop i).drop (i+1)) (xs.take i++[x]++xs.drop i) 3 ?_ (Xi J func166 [(2,.sl 3)]);have h1:(xs.take (i+1)).length=i+1:=by rw[aL];omega
  rw[bw (by omega),gI,cS (by omega),List.drop_left' h1]
 refine ek J (b:=decide (Yh ((xs.length:Int)+1)>(c:Int))) (t:=true) (lh (by rw[hw];omega)) ?_;have hw3:Yh (Yh ((xs.length:Int)+1)-(i:Int))=((xs.length+1-i:Nat):Int):=by rw[hw,show ((xs.length+1:Nat):Int)-(i:Int)=((xs.length+1-i:Nat):Int) by omega];exact Tf (by omega) (by omega)
 refine VT J (XW rA) (Ho hi) (wm J ?_);refine eKz (R:=(XW rA)) (xs:=xs) (fr:=false) (cp:=c) (tn:=3) J (Hs rA) (.inr Xn:List Int⊕G1) 0 i (xs.length+1-i) hw3 (by omega) (by omega) (by omega) (by omega) (by omega) ⟨.i64,by kernel_rfl⟩ (wm J ?_);have e1:(xs.take i++aQ (xs.length+1-i) (.inr Xn:List Int⊕G1)).length=xs.length+1:=by simp;omega
 refine VT J (XW rA) (TB (xs:=xs.take i++aQ (xs.length+1-i) (.inr Xn:List Int⊕G1)) (i:=i) (by omega)) (wm J ?_);refine eKw J (XW rA) (ZaO (xs:=xs.take i++aQ (xs.length+1-i) (.inr Xn:List Int⊕G1)) (x:=x) (i:=i) (by omega)) (wm J ?_);obtain⟨ys,hys⟩:∃ys,ys=(xs.take i++aQ (xs.length+1-i) (.inr Xn:List Int⊕G1)).take i++[x]++(xs.take i++aQ (xs.length+1-i) (.inr Xn:List Int⊕G1)).drop (i+1):=⟨_,rfl⟩
 have e2:ys.length=xs.length+1:=by rw[hys];simp;omega
 rw[<-hys];refine VT (lo:=some (Yh ((i:Int)+1))) J (XW rA) (by rw[hw2];exact TB (xs:=ys) (by omega)) (wm J ?_);refine VT J (XW rA) (TB hi) (wm J ?_);refine eDw (lo:=some (Yh ((i:Int)+1))) J (XW rA) (TB hi) (by rw[hw2];exact ZiA (xs:=ys) (ys:=xs.drop i) (by rw[bg];omega)) (YL (wm J ?_));refine WS (R:=(XW rA)) (fr:=true) (xs:=ys.take (i+1)++xs.drop i) (xs.take i++[x]++xs.drop i) 4 ?_ (Xi J func166 [(2,.sl 4)]);have h1:(xs.take i).length=i:=by rw[aL];omega
 have hT:(xs.take i++aQ (xs.length+1-i) (.inr Xn:List Int⊕G1)).take i=xs.take i:=by rw[bw (by omega),gI,Nat.min_self]
 rw[hys,hT,List.take_left' (l₁:=xs.take i++[x]) (by rw[ae,h1];rfl)]
abbrev SJ:=List (G1×List Int)
abbrev Rf:k6 (List Int⊕G1):=XW rA
abbrev W1(ps:SJ):List (List Int⊕G1):=ps.map fun p=>.inr p.1
abbrev Vb(ps:SJ):List (List Int):=ps.map (·.2)
theorem ZrW{α:Type}{xs:List α}{i:Nat}{x:α}(h:xs[i]?=some x):xs=xs.take i++[x]++xs.drop (i+1):=by obtain⟨hi,rfl⟩:=aE.1 h;rw[aU,List.singleton_append,<-List.drop_eq_getElem_cons hi,cE]
theorem Zqx{ps:SJ}{i:Nat}{u:G1}{t:List Int}(h:ps[i]?=some (u,t)):idx (W1 ps) (i:Int)=some (.inr u):=by unfold idx;rw[lh (da i),l9,a8,W1,aK,h];rfl
theorem ZlY{α:Type}{xs:List α}{i:Nat}{x:α}(h:i<xs.length):xs.set i x=xs.take i++[x]++xs.drop (i+1):=by rw[List.set_eq_take_append_cons_drop,mD h,aU];rfl
theorem Zua{ps:SJ}{i:Nat}{u:G1}{t:List Int}(h:i<ps.length):W1 (ps.take i++[(u,t)]++ps.drop (i+1))=YE (W1 ps) (i:Int) (.inr u):=by rw[YE,a8,ZlY (by simpa[W1]using h)];simp[W1]
theorem Zuc{ps:SJ}{i:Nat}{u:G1}{t:List Int}(h:i<ps.length):Vb (ps.take i++[(u,t)]++ps.drop (i+1))=(Vb ps).set i t:=by rw[ZlY (by simpa[Vb]using h)];simp[Vb]
theorem Zrv(nm:be)(nodes:List YU)(set:List Int)(r:LD)(h:DA N nodes set=some r) :
 Fn aB 123 ⟨6,[.B 0 0,.S 5],[(4,.sl rR12 nodes),(5,.sl rA set)],[(0,.box [.s nm,.sl 1,.sl 2,.sl 3,.sl 4] 78)],8,.t [.inl (.sl 6),.inl (.sl 7),.inl (.I r.2.2.1),.inl (.I r.2.2.2)],[],
  [(6,.own lG r.1 true),(7,.own (YH rA) r.2.1 true),(0,.box [.s nm,.sl 1,.sl 2,.sl 3,.sl 4] 78)]⟩:=Yy func123 rfl fun E F w=>by
 unfold DA at h;refine wa J 14 (eNo lG 4 (eNo Rf 5 (eFe rA w.heap.size ?_)));refine YD (σ:=List T6×SJ×Int×Int) (fun st=>⟨[(0,.B 0 0),(4,.S 6),(5,.S 7),(6,.I st.2.2.1),(7,.I st.2.2.2)],[(0,.box [.s nm,.sl 1,.sl 2,.sl 3,.sl 4] 78),(6,.own lG st.1 true),(7,.own Rf (W1 st.2.1) true),(8,.abs (WD rA w.heap.size st.2.1))],[(4,.sl rR12 nodes),(5,.sl rA set)],9⟩) (fun st=>(st.1,Vb st.2.1,st.2.2.1,st.2.2.2)=r) ?_ (fun j1=>?_)
 ·rintro⟨A,ps,g,p⟩ hr;cases hr;exact eFf rA (ps:=ps) (fr:=true) 8 7 rfl rfl (wm J (Xi J func123 [(6,.sl 6),(7,.sl 7)]))
 refine wa J 1 (YP (σ:=List T6×SJ×Int×Int×Int) (fun st=>⟨[(0,.B 0 0),(4,.S 6),(5,.S 7),(6,.I st.2.2.1),(7,.I st.2.2.2.1),(14,.S 5),(15,.I (set.length:Int)),(16,.I st.2.2.2.2)],[(0,.box [.s nm,.sl 1,.sl 2,.sl 3,.sl 4] 78),(6,.own lG st.1 true),(7,.own Rf (W1 st.2.1) true),(8,.abs (WD rA w.heap.size st.2.1))],[(4,.sl rR12 nodes),(5,.sl rA set)],9⟩) (fun n st=>P6 N nodes set n st.2.2.2.2 st.1 (Vb st.2.1) st.2.2.1 st.2.2.2.1) (r:=r) (fun _=>rfl) ?_ (fun ih=>?_))
 ·rintro n ih ⟨d,ps0,g0,p0,k0⟩ h;unfold P6 at h;obtain⟨K,h⟩|⟨K,h⟩:=U6 h
  ·exact wH J 5 K (wa J 2 (Yi [] (j1 (d,ps0,g0,p0) (Zm h))))
  refine wH J 5 K (wm J ?_);have⟨m,hm,h⟩:=ob h;have⟨nd,hnd,h⟩:=ob h;have⟨q,hq,h⟩:=ob h;refine YK J oD hm (wm J ?_);refine YK J ZbC hnd (wa J 5 (YD (σ:=List T6×SJ×Int×Int) (fun st=>⟨[(0,.B 0 0),(4,.S 6),(5,.S 7),(6,.I st.2.2.1),(7,.I st.2.2.2),(14,.S 5),(15,.I (set.length:Int)),(16,.I k0)],[(0,.box [.s nm,.sl 1,.sl 2,.sl 3,.sl 4] 78),(6,.own lG st.1 true),(7,.own Rf (W1 st.2.1) true),(8,.abs (WD rA w.heap.size st.2.1))],[(4,.sl rR12 nodes),(5,.sl rA set)],9⟩) (fun st=>(st.1,Vb st.2.1,st.2.2.1,st.2.2.2)=q) ?_ (fun j2=>?_)))
  ·rintro⟨A,ps,g,p⟩ hr;cases hr;exact wm J (Yi [] (ih (A,ps,g,p,Yh (k0+1)) h))
  refine wa J 1 (YP (σ:=List T6×SJ×Int×Int×Int) (fun st=>⟨[(0,.B 0 0),(4,.S 6),(5,.S 7),(6,.I st.2.2.1),(7,.I st.2.2.2.1),(14,.S 5),(15,.I (set.length:Int)),(16,.I k0),(27,.S 12),(28,.I (nd.Yc.length:Int)),(29,.I st.2.2.2.2)],[(0,.box [.s nm,.sl 1,.sl 2,.sl 3,.sl 4] 78),(6,.own lG st.1 true),(7,.own Rf (W1 st.2.1) true),(8,.abs (WD rA w.heap.size st.2.1))],[(4,.sl rR12 nodes),(5,.sl rA set),(12,.sl Mc nd.Yc)],14⟩) (fun n st=>R3 N nd.Yc n st.2.2.2.2 st.1 (Vb st.2.1) st.2.2.1 st.2.2.2.1) (r:=q) (fun _=>rfl) ?_ (fun ih2=>?_))
  ·rintro n2 ih2 ⟨A,ps,g,p,k⟩ h2;replace h2:R3 N nd.Yc (n2+1) k A (Vb ps) g p=some q:=h2;unfold R3 at h2;rcases U6 h2 with⟨K,h2⟩|⟨K,h2⟩
   ·exact wH J 5 K (wa J 2 (Yi [] (j2 (A,ps,g,p) (Zm h2))))
   refine wH J 5 K (wm J ?_);have⟨a,ha,h2⟩:=ob h2;obtain⟨⟨ri,rb⟩,hr,h2⟩:=ob h2;have⟨hb,h2⟩:=og h2;simp only[Zc,l8]at hb;obtain⟨⟨⟨hb0,hb1⟩,hb2⟩,hb3⟩:=hb;obtain⟨i,rfl⟩:∃i:Nat,ri=(i:Int):=⟨ri.toNat,(Int.toNat_of_nonneg hb0).symm⟩
   rw[a8]at hb1 h2;replace hb1:i<=A.length:=Ze hb1;replace hb2:A.length+1<=lim:=Ze hb2;replace hb3:ps.length=A.length:=by have:=Zd hb3;simpa[Vb]using this
   have⟨t,ht,h2⟩:=ob h2;have⟨t',ht',h3⟩:=ob h2;clear h2;refine YK J oO9 ha (wm J ?_);refine Wp (Zv6 N A a.Z8 _ hr) [] [(0,.sl 6)] [6] (.inr ⟨rfl,trivial⟩) (wn J ?_);refine YD (σ:=List T6×SJ) (fun st=>⟨[(0,.B 0 0),(4,.S 6),(5,.S 7),(6,.I g),(7,.I p),(14,.S 5),(15,.I (set.length:Int)),(16,.I k0),(27,.S 12),(28,.I (nd.Yc.length:Int)),(29,.I k),(11,.B 15 0),(12,.I (i:Int))],[(0,.box [.s nm,.sl 1,.sl 2,.sl 3,.sl 4] 78),(6,.own lG st.1 true),(7,.own Rf (W1 st.2) true),(8,.abs (WD rA w.heap.size st.2)),(15,.box [.I a.Z8.ZB,.I a.Z8.To,.I a.Z8.ZP,.I a.to',.b a.again'] 244)],[(4,.sl rR12 nodes),(5,.sl rA set),(12,.sl Mc nd.Yc)],16⟩) (fun st=>st.1=(bif rb then A else W6 A i a.Z8)/\Vb st.2=(bif rb then Vb ps else W6 (Vb ps) i [])) ?_ (fun j3=>?_)
   ·rintro⟨j,ps1⟩ ⟨hA1,hT1⟩;replace hA1:j=(bif rb then A else W6 A i a.Z8):=hA1;replace hT1:Vb ps1=(bif rb then Vb ps else W6 (Vb ps) i []):=hT1;rw[<-hT1]at ht;rw[<-hA1,<-hT1]at h3;obtain⟨pp,hpp,hpt⟩:∃pp,ps1[i]?=some pp/\pp.2=t:=by rw[Vb,aK,Zn]at ht;exact ht
    have⟨u,t0⟩:=pp;cases hpt;have hlt:i<ps1.length:=(aE.1 hpp).1;have e0:ps1=ps1.take i++[(u,t0)]++ps1.drop (i+1):=ZrW hpp;have hix:idx (W1 ps1) (i:Int)=some (.inr u):=Zqx hpp;refine eFt (n:=w.heap.size) rA 8 (ps1.take i) (u,t0) (ps1.drop (i+1)) e0 rfl (wm J ?_);refine XA J Rf hix (wm J (PS (u:=u) J (Hs rA) 16 hix (wm J ?_)));refine YW J [] oD ([a.to']:List Int) (Xu J rA ht' (wm J ?_));refine XA J Rf hix (wm J (L8 (QS 19 (fun u'=>?_))));refine RN J [] (Hs rA) (.inr u') hix ?_;refine eFp (n:=w.heap.size) (u:=u') (D:=t') rA 8 19 (ps1.take i) (ps1.drop (i+1)) rfl rfl ?_;refine WS (R:=Rf) (fr:=true) (xs:=YE (W1 ps1) (i:Int) (.inr u')) (W1 (ps1.take i++[(u',t')]++ps1.drop (i+1))) 7 (Zua hlt) ?_;have e1:Vb (ps1.take i++[(u',t')]++ps1.drop (i+1))=(Vb ps1).set i t':=Zuc hlt;rw[<-e1]at h3;refine wn J ?_;cases hg:a.again' with
    |true=>
     rw[hg]at h3;refine wa J 1 (wm J ?_);exact Yi [] (ih2 (j,ps1.take i++[(u',t')]++ps1.drop (i+1),Yh (g+1),p,Yh (k+1)) h3)
    |false=>
     rw[hg]at h3;refine wa J 1 (wm J ?_);exact Yi [] (ih2 (j,ps1.take i++[(u',t')]++ps1.drop (i+1),g,Yh (p+1),Yh (k+1)) h3)
   cases rb with
   |true=>exact wa J 2 (Yi [] (j3 (A,ps) ⟨rfl,rfl⟩))
   |false=>
    refine wa J 1 (wn J (eKb J Wy ([a.Z8]:List T6) (wm J ?_)));refine Ym (Zvz A a.Z8 i hb1 hb2) [] [(0,.sl 6),(1,.sl 16)] (wm J ?_);refine eKb J (Hs rA) ([.inr Xn]:List (List Int⊕G1)) (wm J ?_);refine Ym (ZqF (W1 ps) (.inr Xn) i (by simp[W1];omega) (by simp[W1];omega)) [] [(0,.sl 7),(1,.sl 18)] (wa J 2 ?_);refine eFi (n:=w.heap.size) rA 8 (ps.take i) (ps.drop i) (cE i ps).symm ?_;refine WS (R:=Rf) (fr:=true) (xs:=(W1 ps).take i++[.inr Xn]++(W1 ps).drop i) (W1 (ps.take i++[(Xn,[])]++ps.drop i)) 19 (by simp[W1]) ?_;exact Yi [(6,.sl 17),(7,.sl 19)] (j3 (A.take i++[a.Z8]++A.drop i,ps.take i++[(Xn,[])]++ps.drop i) ⟨rfl,by simp[Vb,W6]⟩)
  exact Yi [] (ih2 N (d,ps0,g0,p0,0) hq)
 exact Yi [] (ih N ([],[],0,0,0) h)
theorem ZhM(o:X5)(v:List Int)(r:LD)(h:G3 N o v=some r):Fn aB 123 ⟨6,[.B 0 0,.S 5],(Td 1 2 3 4 o [(5,.sl rA v)]),[(0,.box (Vt 1 2 3 4 o) 78)],8,.t [.inl (.sl 6),.inl (.sl 7),.inl (.I r.2.2.1),.inl (.I r.2.2.2)],[],[(6,.own lG r.1 true),(7,.own (YH rA) r.2.1 true),(0,.box (Vt 1 2 3 4 o) 78)]⟩:=by
 refine Fn.more (Zrv N o.p'.Zu o.Ye v r h) (fun k g h=>?_);rw[YF]at h;split at h
 ·rename_i e;subst e;exact h
 ·rw[YF]at h;split at h
  ·rename_i e;subst e;exact h
  ·cases h
theorem Zw0(L_:G1)(N:Nat)(c:X5)(d:(List YX))(e:Int)(r:(List (List Int))×Bool×(List YX))(h:Lj N c d e=some r) :
 Fn aB 63 ⟨7,[.B 0 0,.P 6 0],(Td 1 2 3 4 c [(5,.fn (Xx L_)),(6,.fn (Sk L_ (e.toNat*lE.sz)))]),[(0,.box (Vt 1 2 3 4 c) 78),(5,.own lE d false)],8,.t [.inl (.sl 7),.inl (.b r.2.1)],[],[(7,.own (YH rA) r.1 true),(0,.box (Vt 1 2 3 4 c) 78),(5,.own lE r.2.2 false)]⟩:=Yy func63 rfl fun E F w=>by
 unfold Lj at h;refine wa J 9 (Ha (L:=L_) 6 5 (e.toNat*lE.sz) ?_);have⟨f,g,h⟩:=ob h;refine VR 6 (wa J 1 (Wt J Sp g ?_));have⟨i,j,h⟩:=ob h;refine Ym (ZhM N c f.set' _ j) [] [(0,.bp 0 0),(1,.sl 1),(2,.sl 2),(3,.sl 3),(4,.sl 4),(5,.sl 7)] (wa J 19 (VR 6 (wa J 1 (Wt J Sp g ?_))));have⟨k,l,h⟩:=ob h;refine YK J oD l (wa J 2 (VR 6 (wa J 1 (PR J [10] (Xj lG) g (ZrF f i.1) ?_))));have⟨m,o,h⟩:=ob h;refine VR 6 (wa J 1 (PR J [] oB o (ZrE m (decide (i.2.2.1>0))) ?_));have⟨p,q,h⟩:=ob h;refine VR 6 (wa J 1 (PR J [] oB q (ZrD p (k==0)) ?_));refine wO J 5 h fun s u h=>VR 6 (wa J 1 (Wt J Sp u ?_));refine wa J 1 (YD (σ:=Bool) (fun st=>⟨[(0,.B 0 0),(1,.P 6 0),(6,.S 10),(7,.S 11),(91,.O st)],[(0,.box (Vt 1 2 3 4 c) 78),(5,.own lE (YE (YE (YE d e (⟨f.set',f.end',f.again',f.ticks',f.other',i.1,f.to'⟩:YX)) e (⟨m.set',m.end',(decide (i.2.2.1>0)),m.ticks',m.other',m.acts',m.to'⟩:YX)) e (⟨p.set',(k==0),p.again',p.ticks',p.other',p.acts',p.to'⟩:YX)) false),(11,.own (YH rA) i.2.1 true)],(Td 1 2 3 4 c [(5,.fn (Xx L_)),(6,.fn (Sk L_ (e.toNat*lE.sz))),(10,.sl lG i.1)]),19⟩) (fun st=>Vy N c d e f i k m p st=some r) ?_ (fun j1=>?_))
 ·intro v h;unfold Vy at h;refine eB h (fun h=>oi h▸wr J 7 func63 [(7,.sl 11)]) fun h=>wa J 6 (Ha (L:=L_) 6 5 (e.toNat*lE.sz) ?_);have⟨x,y,h⟩:=ob h;refine VR 6 (wa J 1 (Wt J Sp y (wa J 3 (YD (σ:=(List YX)) (fun st=>⟨[(7,.S 11)],[(0,.box (Vt 1 2 3 4 c) 78),(5,.own lE st false),(11,.own (YH rA) i.2.1 true)],(Td 1 2 3 4 c [(5,.fn (Xx L_)),(6,.fn (Sk L_ (e.toNat*lE.sz)))]),22⟩) (fun st=>ZdI i st=some r) ?_ (fun j2=>?_)))))
  ·intro z h;unfold ZdI at h;exact oi h▸wr J 6 func63 [(7,.sl 11)]
  refine wa J 1 (WY (L:=L_) 6 5 (e.toNat*lE.sz) (YP (σ:=(List YX)×Int) (fun st=>⟨[(0,.B 0 0),(1,.P 6 0),(6,.S 10),(7,.S 11),(96,.S 19),(97,.I (x.set'.length:Int)),(98,.I st.2)],[(0,.box (Vt 1 2 3 4 c) 78),(5,.own lE st.1 false),(11,.own (YH rA) i.2.1 true)],(Td 1 2 3 4 c [(5,.fn (Xx L_)),(6,.fn (Sk L_ (e.toNat*lE.sz))),(10,.sl lG i.1),(19,.sl rA x.set')]),22⟩) (fun n st=>Th N c e i x n st.1 st.2) (r:=r) (fun _=>rfl) ?_ (fun ih=>?_)))
  ·intro n12 ih13;rintro⟨A,C⟩ h;unfold Th at h;refine Yu J 5 h (fun h=>wa J 2 (Yi [] (j2 A h))) fun h=>?_;refine wO J 6 h fun D G h=>YK J oD G ?_;refine wO J 10 h fun H R h=>YK J ZbC R (wa J 5 (YD (σ:=(List YX)) (fun st=>⟨[(0,.B 0 0),(1,.P 6 0),(6,.S 10),(7,.S 11),(96,.S 19),(97,.I (x.set'.length:Int)),(98,.I C)],[(0,.box (Vt 1 2 3 4 c) 78),(5,.own lE st false),(11,.own (YH rA) i.2.1 true)],(Td 1 2 3 4 c [(5,.fn (Xx L_)),(6,.fn (Sk L_ (e.toNat*lE.sz))),(10,.sl lG i.1),(19,.sl rA x.set')]),27⟩) (fun st=>ZdJ C (Th N c e i x n12) st=some r) ?_ (fun j20=>?_)))
   ·intro T h;unfold ZdJ at h;exact wa J 5 (Yi [] (ih13 (T,(Yh (C+1))) h))
   refine wa J 1 (YP (σ:=(List YX)×Int) (fun st=>⟨[(0,.B 0 0),(1,.P 6 0),(6,.S 10),(7,.S 11),(96,.S 19),(97,.I (x.set'.length:Int)),(98,.I C),(109,.S 26),(110,.I (H.Yd.length:Int)),(111,.I st.2)],[(0,.box (Vt 1 2 3 4 c) 78),(5,.own lE st.1 false),(11,.own (YH rA) i.2.1 true)],(Td 1 2 3 4 c [(5,.fn (Xx L_)),(6,.fn (Sk L_ (e.toNat*lE.sz))),(10,.sl lG i.1),(19,.sl rA x.set'),(26,.sl Hz H.Yd)]),27⟩) (fun n st=>Ru N c e i C (Th N c e i x n12) H n st.1 st.2) (r:=r) (fun _=>rfl) ?_ (fun ih=>?_))
   ·intro n14 ih22;rintro⟨U,X⟩ h;unfold Ru at h;refine Yu J 5 h (fun h=>wa J 2 (Yi [] (j20 U h))) fun h=>?_;refine wO J 6 h fun Y Z h=>YK J Zk8 Z (wa J 6 (Ha (L:=L_) 6 5 (e.toNat*lE.sz) ?_));have⟨a0,b0,h⟩:=ob h;refine wB J 5 h (fun h=>wa J 8 (YL (oi h▸wr J 7 func63 [(7,.sl 11)]))) fun h=>?_;refine wO J 1 h fun c0 e0 h=>YK J Wy e0 (wa J 6 (YL ?_));refine eB h (fun h=>oi h▸wr J 7 func63 [(7,.sl 11)]) fun h=>?_;refine wB J 9 h (fun h=>wa J 6 (WY (L:=L_) 6 5 (e.toNat*lE.sz) (Yi [] (ih22 (U,(Yh (X+1))) h)))) fun h=>wa J 7 (YW J [] oD ([Y.Ya]:List Int) ?_);have⟨g0,i0,h⟩:=ob h;refine Wp (Zhn N c ([Y.Ya]:List Int) _ i0) [] [(0,.bp 0 0),(1,.sl 1),(2,.sl 2),(3,.sl 3),(4,.sl 4),(5,.sl 30)] [30] (.inr ⟨rfl,⟨(Ztj _),trivial⟩⟩) ?_;refine wO J 6 h fun j0 k0 h=>Ym (ZhM N c g0 _ k0) [31] [(0,.bp 0 0),(1,.sl 1),(2,.sl 2),(3,.sl 3),(4,.sl 4),(5,.sl 31)] ?_;refine wB J 17 h (fun h=>wa J 31 (YL (oi h▸wr J 7 func63 [(7,.sl 11)]))) fun h=>?_;refine wO J 1 h fun l0 m0 h=>YK J oD m0 ?_;refine wB J 4 h (fun h=>wa J 25 (YL (oi h▸wr J 7 func63 [(7,.sl 11)]))) fun h=>wa J 1 (VR 6 (wa J 1 (Wt J Sp b0 ?_)));refine Yu J 2 h (fun h=>wa J 19 (YL ?_)) fun h=>wa J 1 (VR 6 (wa J 1 (Wt J Sp b0 ?_)))
    ·refine wO J 8 h fun o0 p0 h=>XA J lG p0 (Wt J Wy p0 (VR 6 (wa J 1 (PR J [] oD b0 (Zkz a0 Y.ticks') ?_))));have⟨q0,s0,h⟩:=ob h;exact VR 6 (wa J 1 (PR J [] Wy s0 (ZkA q0 o0) (YL (wa J 5 (WY (L:=L_) 6 5 (e.toNat*lE.sz) (Yi [] (ih22 ((YE (YE U e (⟨a0.set',a0.end',a0.again',Y.ticks',a0.other',a0.acts',a0.to'⟩:YX)) e (⟨q0.set',q0.end',q0.again',q0.ticks',o0,q0.acts',q0.to'⟩:YX)),(Yh (X+1))) h)))))))
    refine wB J 4 h (fun h=>wa J 11 (YL (oi h▸wr J 7 func63 [(7,.sl 11)]))) fun h=>wa J 1 (VR 6 (wa J 1 (Wt J Sp b0 ?_)));refine wO J 1 h fun t0 u0 h=>XA J lG u0 (Wt J Wy u0 (eEq (wa J 3 (YL ?_))));refine eB h (fun h=>oi h▸wr J 7 func63 [(7,.sl 11)]) fun h=>?_;refine wO J 8 h fun v0 x0 h=>XA J lG x0 (Wt J Wy x0 (VR 6 (wa J 1 (PR J [] oD b0 (Zkz a0 Y.ticks') ?_))));have⟨y0,z0,h⟩:=ob h;exact VR 6 (wa J 1 (PR J [] Wy z0 (ZkA y0 v0) (YL (wa J 5 (WY (L:=L_) 6 5 (e.toNat*lE.sz) (Yi [] (ih22 ((YE (YE U e (⟨a0.set',a0.end',a0.again',Y.ticks',a0.other',a0.acts',a0.to'⟩:YX)) e (⟨y0.set',y0.end',y0.again',y0.ticks',v0,y0.acts',y0.to'⟩:YX)),(Yh (X+1))) h)))))))
   exact Yi [] (ih N (A,0) h)
  exact Yi [] (ih N ((YE (YE (YE d e (⟨f.set',f.end',f.again',f.ticks',f.other',i.1,f.to'⟩:YX)) e (⟨m.set',m.end',(decide (i.2.2.1>0)),m.ticks',m.other',m.acts',m.to'⟩:YX)) e (⟨p.set',(k==0),p.again',p.ticks',p.other',p.acts',p.to'⟩:YX)),0) h)
 refine Wj h (fun h=>wa J 6 (VR 6 (wa J 1 (Wt J Sp u ?_)))) fun h=>?_
 ·refine Yu J 1 h (fun h=>?_) fun h=>?_
  ·refine Yu J 14 h (fun h=>wa J 14 (YL (WY (L:=L_) 6 5 (e.toNat*lE.sz) (Yi [] (j1 false h))))) fun h=>?_;refine wO J 1 h fun A0 B0 h=>YK J Wy B0 ?_;exact wO J 6 h fun C0 D0 h=>YK J Wy D0 (wa J 5 (YL (WY (L:=L_) 6 5 (e.toNat*lE.sz) (Yi [] (j1 (A0.ZB != C0.ZB) h)))))
  refine wB J 3 h (fun h=>wa J 25 (YL (WY (L:=L_) 6 5 (e.toNat*lE.sz) (Yi [] (j1 true h))))) fun h=>?_;refine wB J 7 h (fun h=>wa J 18 (YL (WY (L:=L_) 6 5 (e.toNat*lE.sz) (Yi [] (j1 true h))))) fun h=>?_;refine Yu J 4 h (fun h=>wa J 14 (YL (WY (L:=L_) 6 5 (e.toNat*lE.sz) (Yi [] (j1 false h))))) fun h=>?_;refine wO J 1 h fun G0 H0 h=>YK J Wy H0 ?_;exact wO J 6 h fun I0 L0 h=>YK J Wy L0 (wa J 5 (YL (WY (L:=L_) 6 5 (e.toNat*lE.sz) (Yi [] (j1 (G0.ZB != I0.ZB) h)))))
 refine wB J 5 h (fun h=>wa J 33 (YL (WY (L:=L_) 6 5 (e.toNat*lE.sz) (Yi [] (j1 true h))))) fun h=>wa J 1 (VR 6 (wa J 1 (Wt J Sp u ?_)));refine Yu J 1 h (fun h=>?_) fun h=>?_
 ·refine Yu J 14 h (fun h=>wa J 14 (YL (WY (L:=L_) 6 5 (e.toNat*lE.sz) (Yi [] (j1 false h))))) fun h=>?_;refine wO J 1 h fun M0 O0 h=>YK J Wy O0 ?_;exact wO J 6 h fun R0 S0 h=>YK J Wy S0 (wa J 5 (YL (WY (L:=L_) 6 5 (e.toNat*lE.sz) (Yi [] (j1 (M0.ZB != R0.ZB) h)))))
 refine wB J 3 h (fun h=>wa J 25 (YL (WY (L:=L_) 6 5 (e.toNat*lE.sz) (Yi [] (j1 true h))))) fun h=>?_;refine wB J 7 h (fun h=>wa J 18 (YL (WY (L:=L_) 6 5 (e.toNat*lE.sz) (Yi [] (j1 true h))))) fun h=>?_;refine Yu J 4 h (fun h=>wa J 14 (YL (WY (L:=L_) 6 5 (e.toNat*lE.sz) (Yi [] (j1 false h))))) fun h=>?_;refine wO J 1 h fun U0 V0 h=>YK J Wy V0 ?_;exact wO J 6 h fun X0 Y0 h=>YK J Wy Y0 (wa J 5 (YL (WY (L:=L_) 6 5 (e.toNat*lE.sz) (Yi [] (j1 (U0.ZB != X0.ZB) h)))))
structure LI where
 set':(List Int)
 end':Bool
 again':Bool
 ticks':Int
 other':T6
 acts':(List T6)
 to':(List Int⊕G1)
abbrev r_flow_stateY:k6 LI:=rM (fun x=>(x.set',x.end',x.again',x.ticks',x.other',x.acts',x.to')) (rP (YH rA) (rP rB (rP rB (rP rA (rP lG (rP (YH lG) (XW rA)))))))
abbrev DG:ki r_flow_stateY:=oM _ (oP (Xj rA) (oP oB (oP oB (oP oD (oP Wy (oP (Xj lG) (Hs rA)))))))
def yT:Option (List Int)->List Int⊕G1
 |none=>.inr Xn
 |some D=>.inl D
abbrev yU(x:YX)(t:List Int⊕G1):LI:=⟨x.set',x.end',x.again',x.ticks',x.other',x.acts',t⟩
abbrev yO(x:YX):LI:=yU x (yT x.to')
abbrev y0(set:List Int):LI:=⟨set,false,false,(0:Int),⟨(0:Int),(0:Int),(0:Int)⟩,[],.inr Xn⟩
theorem Zu7{F:YJ}{w:World}{t:Option (List Int)}{vs:List Value}(h:(Q8 rA).rep F w t vs):(XW rA).rep F w (yT t) vs:=by
 cases t with
 |none=>exact h
 |some D=>exact h
theorem Zu8{F:YJ}{w:World}{t:Option (List Int)}{vs:List Value}(h:(XW rA).rep F w (yT t) vs):(Q8 rA).rep F w t vs:=by
 cases t with
 |none=>exact h
 |some D=>exact h
theorem Zva{F:YJ}{w:World}{x:YX}{vs:List Value}(h:lE.rep F w x vs):r_flow_stateY.rep F w (yO x) vs:=by have⟨u1,w1,e1,h1,u2,w2,e2,h2,u3,w3,e3,h3,u4,w4,e4,h4,u5,w5,e5,h5,u6,w6,e6,h6,h7⟩:=h;exact⟨u1,w1,e1,h1,u2,w2,e2,h2,u3,w3,e3,h3,u4,w4,e4,h4,u5,w5,e5,h5,u6,w6,e6,h6,Zu7 h7⟩
theorem Zvb{F:YJ}{w:World}{x:YX}{vs:List Value}(h:r_flow_stateY.rep F w (yO x) vs):lE.rep F w x vs:=by have⟨u1,w1,e1,h1,u2,w2,e2,h2,u3,w3,e3,h3,u4,w4,e4,h4,u5,w5,e5,h5,u6,w6,e6,h6,h7⟩:=h;exact⟨u1,w1,e1,h1,u2,w2,e2,h2,u3,w3,e3,h3,u4,w4,e4,h4,u5,w5,e5,h5,u6,w6,e6,h6,Zu8 h7⟩
theorem Zu9{F:YJ}{w:World}{x:YX}{u:G1}{D:List Int}{vs:List Value}(h:r_flow_stateY.rep F w (yU x (.inr u)) vs)(hs:SlR rA F w D u.1):r_flow_stateY.rep F w (yU x (.inl D)) vs:=by have⟨u1,w1,e1,h1,u2,w2,e2,h2,u3,w3,e3,h3,u4,w4,e4,h4,u5,w5,e5,h5,u6,w6,e6,h6,h7⟩:=h;exact⟨u1,w1,e1,h1,u2,w2,e2,h2,u3,w3,e3,h3,u4,w4,e4,h4,u5,w5,e5,h5,u6,w6,e6,h6,⟨u.1,h7,hs⟩⟩
theorem Zu5{F:YJ}{w:World}{x:YX}{vs:List Value}(h:lE.rep F w x vs):lF.rep F w (HS x) vs:=by
 have⟨u1,w1,e1,h1,u2,w2,e2,h2,u3,w3,e3,h3,u4,w4,e4,h4,u5,w5,e5,h5,u6,w6,e6,h6,h7⟩:=h;refine⟨u1,w1,e1,h1,u2,w2,e2,h2,u3,w3,e3,h3,u4,w4,e4,h4,u5,w5,e5,h5,u6,w6,e6,h6,?_⟩;cases ht:x.to' with
 |some D=>
  have h7:(Q8 rA).rep F w x.to' w6:=h7;rw[ht]at h7;show (YH rA).rep F w (x.to'.getD []) w6;rw[ht];exact h7
 |none=>
  have h7:(Q8 rA).rep F w x.to' w6:=h7;rw[ht]at h7;have h7:w6=[Xn.1]:=h7;show (YH rA).rep F w (x.to'.getD []) w6;rw[ht];exact⟨Xn.1,h7,.inl ⟨rfl,_,_,rfl⟩⟩
theorem ZkF{α β:Type}{R:k6 α}{R':k6 β}(f:α->β)(W:∀ {F w x vs},R.rep F w x vs->R'.rep F w (f x) vs)(xs:List α):∀(i:Nat) x y,xs[i]?=some x->(xs.map f)[i]?=some y->∀F w vs,R.rep F w x vs->R'.rep F w y vs:=by intro i x y h1 h2;rw[aK,h1]at h2;cases h2;intro F w vs h;exact W h
theorem Zrx{α:Type}(xs:List α)(n:Int)(e:α):(YE xs n e).length=xs.length:=by unfold YE;simp
theorem ZlX{α:Type}(xs:List α)(n:Int)(e e':α):YE (YE xs n e) n e'=YE xs n e':=by unfold YE;simp
theorem Zkc{α:Type}{xs:List α}{n:Int}{x:α}(h:idx xs n=some x)(e:α):idx (YE xs n e) n=some e:=by have⟨h1,h2,h3⟩:=VD h;have:=(aE.1 h3).1;unfold idx YE;rw[lh h1,l9];simp[this]
theorem ZlV{α:Type}{xs:List α}{n:Int}{x:α}(h:idx xs n=some x)(ys:List α)(e:α):YE (xs++ys) n e=YE xs n e++ys:=by have⟨h1,h2,h3⟩:=VD h;have:=(aE.1 h3).1;unfold YE;exact List.set_append_left _ _ this
theorem Zka{α:Type}{xs:List α}{n:Int}{x:α}(h:idx xs n=some x)(ys:List α):idx (xs++ys) n=some x:=by have⟨h1,h2,h3⟩:=VD h;have:=(aE.1 h3).1;unfold idx;rw[lh h1,l9,Zo this,h3]
theorem Zbh{α β:Type}{xs:List α}{n:Int}{x:α}(h:idx xs n=some x)(f:α->β):idx (xs.map f) n=some (f x):=by have⟨h1,h2,h3⟩:=VD h;unfold idx;rw[lh h1,l9,aK,h3];rfl
theorem Zn5{α:Type}{xs ys zs:List α}(h:Y8 xs ys=some zs):zs=xs++ys/\xs.length+ys.length<=lim:=by
 unfold Y8 at h;cases hb:aY (xs.length+ys.length) lim with
 |false=>rw[hb]at h;cases h
 |true=>rw[hb]at h;exact⟨(Zm h).symm,Ze hb⟩
theorem Zn4{α:Type}{xs ys:List α}(h:xs.length+ys.length<=lim):Y8 xs ys=some (xs++ys):=by unfold Y8;rw[ai h];rfl
abbrev gBs(d:X5):MO:=.box (Vt 1 2 3 4 d) 78
abbrev vGs(d:X5):List (Nat×VF):=(Td 1 2 3 4 d [])
abbrev mSs(lM:X4):MO:=.av (Xr rA false false lM)
theorem Zwk(d:X5)(g:Int)(r:(List YM)×Int)(h:sgG N d g=some r) :
 Fn aB 20 ⟨5,[.B 0 0,.I g],(Td 1 2 3 4 d []),[(0,.box (Vt 1 2 3 4 d) 78)],6,.t [.inl (.sl 5),.inl (.I r.2)],[],[(5,.own lF r.1 true),(0,.box (Vt 1 2 3 4 d) 78)]⟩:=Yy func20 rfl fun E F w=>by
 unfold sgG at h;have⟨set0,hset0,h⟩:=ob h;have⟨ks0,hks0,h⟩:=ob h;refine wm J (YW J [] oD ([g]:List Int) (wm J ?_));refine Ym (Zhn N d [g] _ hset0) [5] [(0,.bp 0 0),(1,.sl 1),(2,.sl 2),(3,.sl 3),(4,.sl 4),(5,.sl 5)] (wm J ?_);refine YW J [6] Sp ([WB set0]:List YX) (wm J ?_);refine eMm rA false (wm J ?_);refine XA J lE (xs:=[WB set0]) (m:=0) (e:=WB set0) rfl (wm J ?_);refine Wt J Sp (xs:=[WB set0]) (m:=0) (e:=WB set0) rfl (wm J ?_);refine Ym (Zho N set0 _ hks0) [] [(0,.sl 10)] (wm J ?_);refine eMi (q:=ks0) (lM:=[]) [] oD 0 Vk (wm J ?_);refine YP (σ:=Int×Bool×List YX×X4) (fun st=>⟨[(0,.B 0 0),(6,.S 5),(7,.S 6),(8,.O st.2.1),(9,.I st.1)],[(0,gBs d),(5,.own lE st.2.2.1 true),(6,mSs st.2.2.2)],vGs d,7⟩) (fun n st=>Mj N d n st.1 st.2.1 st.2.2.1 st.2.2.2) (r:=r) (fun _=>rfl) ?_ (fun ih=>Yi [(5,.sl 7),(6,.sl 8)] (ih N (0,true,[WB set0],Xf [] ks0 0) h));rintro n ih ⟨i,right,l,kn⟩ h;unfold Mj at h;refine wn J ?_;obtain⟨K,h⟩|⟨K,h⟩:=U6 h
 ·refine ek J K ?_;rcases oc h with⟨hc2,h⟩|⟨hc2,h⟩
  ·cases h;exact ek J hc2 (Xi J func20 [(5,.nil)])
  ·cases h;exact ek J hc2 (RO (R:=lE) (R':=lF) (fr:=true) (xs:=l) (l.map HS) 5 rfl (aN ..) (ZkF HS Zu5 l) (Xi J func20 [(5,.sl 5)]))
 have⟨rr,hrr,h⟩:=ob h;have⟨x,hx,h⟩:=ob h;rcases oc h with⟨hxt,h⟩|⟨hxt,h⟩
 ·cases h
 replace hxt:x.to'=none:=by
  cases ht:x.to' with
  |none=>rfl
  |some D=>rw[ht]at hxt;cases hxt
 have⟨q,hq,h⟩:=ob h;obtain⟨o,p⟩:∃o,idx l i=some o:=by unfold Lj at hrr;have⟨o,p,_⟩:=ob hrr;exact⟨o,p⟩
 refine ek J K (XA J lE p (wm J ?_));refine QS 5 (fun L=>WY (L:=L) 7 5 (i.toNat*lE.sz) ?_);refine Ym (Zw0 L N d l i rr hrr) [] [(0,.bp 0 0),(1,.sl 1),(2,.sl 2),(3,.sl 3),(4,.sl 4),(5,.sl 5),(6,.sl 7)] (wa J 10 ?_);refine YD (σ:=Bool) (fun st=>⟨[(0,.B 0 0),(6,.S 5),(7,.S 6),(8,.O st),(9,.I i),(10,.S 8)],[(0,gBs d),(5,.own lE rr.2.2 true),(6,mSs kn),(8,.own (YH rA) rr.1 true)],vGs d,9⟩) (fun st=>st=(bif right then rr.2.1 else false)) ?_ (fun j1=>?_)
 ·rintro b rfl;generalize (bif right then rr.2.1 else false)=b at h;refine wm J (Vh [8] ?_);refine RO (R:=lE) (R':=r_flow_stateY) (fr:=true) (xs:=rr.2.2) (rr.2.2.map yO) 5 rfl (aN ..) (ZkF yO Zva rr.2.2) ?_;have e0:YE (rr.2.2.map yO) i (yU x (.inr Xn))=rr.2.2.map yO:=by
   have⟨g1,g2,g3⟩:=VD (Zbh hx yO);have g4:yO x=yU x (.inr Xn):=by show yU x (yT x.to')=_;rw[hxt];rfl
   rw[g4]at g3;have⟨g5,g6⟩:=aE.1 g3;unfold YE;rw[<-g6];exact List.set_getElem_self ..
  refine WS (R:=r_flow_stateY) (fr:=true) (xs:=rr.2.2.map yO) (YE (rr.2.2.map yO) i (yU x (.inr Xn))) 5 e0 (eZn rA ?_);refine YP (σ:=G1×Int×List YX×List LI×X4×List Int) (fun st=>⟨[(0,.B 0 0),(6,.S 5),(7,.S 6),(8,.O b),(9,.I i),(48,.S 8),(49,.I (rr.1.length:Int)),(50,.I st.2.1)],[(0,gBs d),(5,.own r_flow_stateY st.2.2.2.1 true),(6,mSs st.2.2.2.2.1),(9,.own rA st.2.2.2.2.2 true)],(8,.sl (YH rA) rr.1)::(9,.fn (Xx st.1))::vGs d,10⟩)
   (fun n st=>UB (st.2.2.2.1=YE (st.2.2.1.map yO) i (yU x (.inr st.1))/\idx st.2.2.1 i=some x) (Ri N d rr.1 n st.2.1 st.2.2.1 st.2.2.2.2.1 st.2.2.2.2.2)) (r:=q) (fun st=>by show UB _ none=none;unfold UB;split<;>rfl) ?_ (fun ih2=>?_)
  ·rintro n2 ih2 ⟨u,k,lx,ys,kn2,D⟩ hp;obtain⟨⟨hys,hlx⟩,hq⟩:=Zbj hp;replace hys:ys=YE (lx.map yO) i (yU x (.inr u)):=hys;replace hlx:idx lx i=some x:=hlx;replace hq:Ri N d rr.1 (n2+1) k lx kn2 D=some q:=hq;have hlen:ys.length=lx.length:=by rw[hys,Zrx,aN]
   have hyx:idx ys i=some (yU x (.inr u)):=by rw[hys];exact Zkc (Zbh hlx yO) _
   have hyg:ys[i.toNat]?=some (yU x (.inr u)):=(VD hyx).2.2;unfold Ri at hq;refine wn J ?_;rcases U6 hq with⟨hc1,hq⟩|⟨hc1,hq⟩
   ·cases hq;rw[<-hlen]at h;refine ek J hc1 ?_;rcases oc h with⟨hc2,h⟩|⟨hc2,h⟩
    ·cases h;exact ek J hc2 (Xi J func20 [(5,.nil)])
    ·refine ek J hc2 ?_;refine eZd (R:=r_flow_stateY) (Rb:=rI .i64) (fr:=true) (xs:=ys) (ys:=D) (x:=yU x (.inr u)) (u:=u) (yU x (.inl D)) i.toNat 5 9 hyg (fun F w vs hr hs=>Zu9 hr hs) rfl ?_;have e2:ys.set i.toNat (yU x (.inl D))=(YE lx i (DX x D)).map yO:=by rw[hys];unfold YE;rw[iH,List.map_set];rfl
     refine RO (R:=r_flow_stateY) (R':=lE) (fr:=true) (xs:=ys.set i.toNat (yU x (.inl D))) (YE lx i (DX x D)) 5 rfl (by rw[e2,aN]) (by rw[e2];intro j a c h1 h2 F w vs hr;rw[aK,h2]at h1;cases h1;exact Zvb hr) ?_
     exact Yi [] (ih (Yh (i+1),b,YE lx i (DX x D),kn2) h)
   have⟨t,ht,hq⟩:=ob hq;have⟨set,hset,hq⟩:=ob hq;have⟨ks,hks,hq⟩:=ob hq;refine ek J hc1 (YK J (Xj rA) ht (wm J ?_));refine Ym (Zhn N d t _ hset) [] [(0,.bp 0 0),(1,.sl 1),(2,.sl 2),(3,.sl 3),(4,.sl 4),(5,.sl 11)] (wm J ?_);refine Ym (Zho N set _ hks) [12] [(0,.sl 12)] (wm J ?_);refine eMo (nl:=false) (q:=ks) (lM:=kn2) oD Vk rfl (wn J ?_);rcases oc hq with⟨hc2,hq⟩|⟨hc2,hq⟩
   ·have⟨D2,hD2,hq⟩:=ob hq;refine ek (b:= !(YR kn2 ks).isSome) J (show (!(YR kn2 ks).isSome)=false by rw[hc2];rfl) ?_;refine XA J r_flow_stateY hyx (wm J ?_);refine PS (u:=u) J DG 9 hyx (wm J ?_);refine YW J [] oD ([(YR kn2 ks).getD 0]:List Int) (Xu J rA hD2 (wm J ?_));refine XA J r_flow_stateY hyx (wm J (QS 15 (fun u'=>?_)));refine RN J [] DG (yU x (.inr u')) hyx (wm J ?_);exact Yi [(9,.sl 15)] (ih2 (u',Yh (k+1),lx,YE ys i (yU x (.inr u')),kn2,D2) (QW ⟨by show YE ys i _=_;rw[hys,ZlX],hlx⟩ hq))
   ·have⟨l2,hl2,hq⟩:=ob hq;have⟨D2,hD2,hq⟩:=ob hq;rw[<-hlen]at hq hD2;obtain⟨rfl,hlim⟩:=Zn5 hl2;have hys2:Y8 ys [y0 set]=some (ys++[y0 set]):=Zn4 (by rw[hlen];exact hlim);have hyx2:idx (ys++[y0 set]) i=some (yU x (.inr u)):=Zka hyx _;refine ek (b:= !(YR kn2 ks).isSome) J (show (!(YR kn2 ks).isSome)=true by rw[hc2];rfl) ?_;refine Ym (Zho N set _ hks) [] [(0,.sl 12)] (wm J ?_);refine PQ (q:=ks) (lM:=kn2) [] oD (ys.length:Int) Vk (wm J ?_);refine YW J [] DG ([y0 set]:List LI) (Xu J r_flow_stateY hys2 (wm J ?_));refine XA J r_flow_stateY hyx2 (wm J ?_);refine PS (u:=u) J DG 9 hyx2 (wm J ?_);refine YW J [] oD ([(ys.length:Int)]:List Int) (Xu J rA hD2 (wm J ?_));refine XA J r_flow_stateY hyx2 (wm J (QS 17 (fun u'=>?_)));refine RN J [] DG (yU x (.inr u')) hyx2 (wm J ?_);exact Yi [(5,.sl 14),(9,.sl 17)] (ih2 (u',Yh (k+1),lx++[WB set],YE (ys++[y0 set]) i (yU x (.inr u')),Xf kn2 ks (ys.length:Int),D2) (QW ⟨by show YE (ys++[y0 set]) i _=_;rw[hys,ZlV (Zkc (Zbh hlx yO) _),ZlX,bn,ZlV (Zbh hlx yO)];rfl,Zka hlx _⟩ hq))
  ·refine Yi [] (ih2 N (Xn,0,rr.2.2,YE (rr.2.2.map yO) i (yU x (.inr Xn)),kn,[]) (QW ⟨rfl,hx⟩ hq))
 cases right with
 |true=>exact wa J 4 (Yi [] (j1 rr.2.1 rfl))
 |false=>exact wa J 4 (Yi [] (j1 false rfl))
theorem ZnP(d:X5)(g:Int)(r:(List YM)×Int)(h:Zar N d g=some r):Fn aB 20 ⟨5,[.B 0 0,.I g],(Td 1 2 3 4 d []),[(0,.box (Vt 1 2 3 4 d) 78)],6,.t [.inl (.sl 5),.inl (.I r.2)],[],[(5,.own lF r.1 true),(0,.box (Vt 1 2 3 4 d) 78)]⟩:=Zwk N d g r h
theorem Zw2(c:Int)(d:(List Bool))(r:Bool)(h:GJ N c d=some r) :
 Fn aB 68 ⟨2,[.I c,.B 0 0],[(1,.sl rB d)],[(0,.box [.sl 1] 37)],2,.O r,[],[(0,.box [.sl 1] 37)]⟩:=Yy func68 rfl fun E F w=>by
 unfold GJ at h;refine wO J 8 h fun e f h=>YK J oB f ?_;exact oi h▸wr J 3 func68 []
theorem ZvH(d:(List Int))(e:(List Bool))(r:Int)(h:Zcs N d e=some r) :
 Fn aB 131 ⟨3,[.S 0,.c (.cl 68 [] [1])],[(0,.sl rA d),(2,.sl rB e)],[(1,.box [.sl 2] 37)],3,.I r,[],[(1,.box [.sl 2] 37)]⟩:=Yy func131 rfl fun E F w=>by
 unfold Zcs at h;refine wa J 11 (YD (σ:=Unit) (fun st=>⟨[],[(1,.box [.sl 2] 37)],[(0,.sl rA d),(2,.sl rB e)],3⟩) (fun st=>Zct=some r) ?_ (fun j1=>?_))
 ·intro _ h;unfold Zct at h;exact oi h▸wr J 4 func131 []
 refine wa J 1 (YP (σ:=Int) (fun st=>⟨[(0,.S 0),(1,.c (.cl 68 [] [1])),(7,.I (d.length:Int)),(8,.I st)],[(1,.box [.sl 2] 37)],[(0,.sl rA d),(2,.sl rB e)],3⟩) (fun n st=>MH N d e n st) (r:=r) (fun _=>rfl) ?_ (fun ih=>?_))
 ·intro n2 ih3;intro f h;unfold MH at h;refine Yu J 5 h (fun h=>wa J 2 (Yi [] (j1 () h))) fun h=>?_;refine wO J 14 h fun g i h=>YK J oD i ?_;refine wO J 1 h fun j k h=>Ym (Zw2 N g e _ k) [] [(0,.bp 1 0),(1,.sl 2)] ?_;exact wB J 1 h (fun h=>oi h▸wr J 6 func131 []) fun h=>wa J 7 (Yi [] (ih3 (Yh (f+1)) h))
 exact Yi [] (ih N 0 h)
theorem Zw1(d:(List Int))(e:(List Bool))(r:Bool)(h:ZdK N d e=some r) :
 Fn aB 67 ⟨3,[.S 0,.c (.cl 68 [] [1])],[(0,.sl rA d),(2,.sl rB e)],[(1,.box [.sl 2] 37)],3,.O r,[],[(1,.box [.sl 2] 37)]⟩:=Yy func67 rfl fun E F w=>by
 unfold ZdK at h;refine wO J 8 h fun f g h=>Ym (ZvH N d e _ g) [] [(0,.sl 0),(1,.bp 1 0),(2,.sl 2)] ?_;exact oi h▸wr J 3 func67 []
theorem ZvI(c:(List Bool))(d:Bool)(r:Int)(h:Zcu N c d=some r) :
 Fn aB 132 ⟨1,[.S 0,.O d],[(0,.sl rB c)],[],1,.I r,[],[]⟩:=Yy func132 rfl fun E F w=>by
 unfold Zcu at h;refine wa J 11 (YD (σ:=Unit) (fun st=>⟨[],[],[(0,.sl rB c)],1⟩) (fun st=>Zcv=some r) ?_ (fun j1=>?_))
 ·intro _ h;unfold Zcv at h;exact oi h▸wr J 4 func132 []
 refine wa J 1 (YP (σ:=Int) (fun st=>⟨[(0,.S 0),(1,.O d),(7,.I (c.length:Int)),(8,.I st)],[],[(0,.sl rB c)],1⟩) (fun n st=>MI c d n st) (r:=r) (fun _=>rfl) ?_ (fun ih=>?_))
 ·intro n2 ih3;intro e h;unfold MI at h;refine Yu J 5 h (fun h=>wa J 2 (Yi [] (j1 () h))) fun h=>?_;refine wO J 14 h fun f g h=>YK J oB g ?_;exact wB J 3 h (fun h=>oi h▸wr J 6 func132 []) fun h=>wa J 7 (Yi [] (ih3 (Yh (e+1)) h))
 exact Yi [] (ih N 0 h)
theorem Zw3(c:(List Bool))(d:Bool)(r:Bool)(h:B7 N c d=some r) :
 Fn aB 69 ⟨1,[.S 0,.O d],[(0,.sl rB c)],[],1,.O r,[],[]⟩:=Yy func69 rfl fun E F w=>by
 unfold B7 at h;refine wO J 8 h fun e f h=>Ym (ZvI N c d _ f) [] [(0,.sl 0)] ?_;exact oi h▸wr J 3 func69 []
theorem Zot:ItB aB 130 9 (by decide) true:=by
 refine ItB.intro _ _ func130 rfl rfl (by decide) (fun cs l F0 Jj hlm stab rounds E w hg hJ=>?_);have hl:lim=4294967296:=rfl;have hz:0<9:=by decide
 refine Wc.h (c:=.co _ _) ?_;refine wa J 8 ?_;refine eIl (fun m=>⟨[(3,.I (bG.wrap ((m:Int)-1))),(0,.c (.v (.func (.yield l) #[] #[]))),(1,.P 0 0)],[],S5 9 hz cs,2⟩) ?_ ?_ (fun ih=>L9 ih) hg hJ
 ·intro E w hg hJ;exact wa J 6 (eK (b:=decide (bG.wrap (((0:Nat):Int)-1)>=0)) (t:=false) (by decide) (wa J 2 (eRi J func130 stab hJ)))
 ·intro m hm ih E w hg hJ;have e:bG.wrap (((m+1:Nat):Int)-1)=(m:Int):=by rw[show ((m+1:Nat):Int)-1=(m:Int) by omega];exact Tf (by omega) (by omega)
  refine wa J 6 (eK (b:=decide (bG.wrap (((m+1:Nat):Int)-1)>=0)) (t:=true) (lh (by omega)) ?_);refine wa J 5 (eYr J stab rounds hg hm hJ e fun cc E' w' hg' hJ'=>?_);have ih':=ih E' w' hg' hJ';rw[show bG.wrap ((m:Int)-1)=bG.wrap (bG.wrap (((m+1:Nat):Int)-1)-1) by rw[e]]at ih';exact wa J 10 (L9 ih')
theorem Zwn:Fn aB 66 ⟨1,[.S 0],[],[],2,.c (.cl 130 [] [1]),[],[(1,.box [.sl 0] 79)]⟩:=Yy func66 rfl fun E F w=>by
 exact wm J (Xi J func66 [(1,.bp 1 0)])
theorem ZpG(l:List YM)(r:Bool)(h:Za6 N l=some r):Fn aB 22 ⟨1,[.S 0],[(0,.sl lF l)],[],1,.O r,[],[]⟩:=Yy func22 rfl fun E F w=>by
 unfold Za6 at h;have⟨g0,hg0,h⟩:=ob h;refine wn J (QR J oB hg0 (wa J 10 (eFb ?_)));refine Zps (X:=(⟨1,[.S 0],[(0,.sl lF l)],[],1,.O r,[],[]⟩:Ct).ctx aB 22 Tryz.f22 E F w) (Ds0:=[]) (σ:=List Bool×Bool) (r:=r)
  (fun Ds st=>⟨[(1,.B 1 0),(3,.B 3 0),(4,.B 4 0)],[(1,.box [.sl 0] 79),(2,.own rB st.1 true),(3,.box [.sl 2] 37),(4,.box [.b st.2] 4),(5,.abs (U5 Ds))],[(0,.sl lF l)],6⟩) (fun n st=>Dk N l n st) (fun _=>rfl) ?_ (fun ih=>Yi [] (ih N [] (g0,true) h))
 rintro n ih Ds ⟨g,ch⟩ h;unfold Dk at h;cases ch with
 |false=>
  have⟨c,K,h⟩:=ob h;cases h;refine wn J (wa J 1 (wm J ?_));refine Wp (Zw3 N g false _ K) [] [(0,.sl 2)] [2] (.inr ⟨rfl,trivial⟩) (wm J ?_);exact Zpx J func22 5 []
 |true=>
  have⟨b',hb',h⟩:=ob h;refine wn J (wa J 1 (wm J ?_));refine Ym Zwn [] [(0,.sl 0)] (wm J ?_);refine eRs ⟨(12,.c (.cl 130 [] [6]))::[(1,.B 1 0),(3,.B 3 0),(4,.B 4 0)],(6,.box [.sl 0] 79)::[(1,.box [.sl 0] 79),(2,.own rB g true),(3,.box [.sl 2] 37),(4,.box [.b false] 4),(5,.abs (U5 Ds))],[(0,.sl lF l)],7⟩ [] ?_;refine eRf (bt:=79) DF Zot (fun i (_:YM) b=>PT N l i b) (fun (b:List Bool×Bool)=>⟨[(1,.B 1 0),(3,.B 3 0),(4,.B 4 0)],[(1,.box [.sl 0] 79),(2,.own rB b.1 true),(3,.box [.sl 2] 37),(4,.box [.b b.2] 4),(5,.abs (U5 Ds))],[(0,.sl lF l)],7⟩) 7 5 6 0 13 14 hb' (fun _=>⟨rfl,rfl⟩) ?_ ?_
  ·rintro i x ⟨b1,b2⟩ b3 hst E F w n0 Z ll D lr post kk;unfold PT at hst;have⟨s,hs,hst⟩:=ob hst;have⟨ok,hok,hst⟩:=ob hst;refine wm J (eBr (l:=ll) (D:=D) (r:=lr) 7 (wm J ?_));refine YK J DF hs (wa J 3 ?_);rcases oc hok with⟨K,hok⟩|⟨K,hok⟩
   ·cases hok;refine eK K (wm J ?_);have⟨g,hg,hst⟩:=ob hst;refine XA J rB hg (wm J (Wt J oB hg (wn J ?_)));cases g with
    |true=>
     cases hst;exact wa J 1 (wm J (Yi [] kk))
    |false=>
     cases hst;exact wa J 1 (wm J (XA J rB hg (wm J (Uc J [] oB true hg (wm J (Yi [] kk))))))
   ·refine eK K (wm J (YK J DF hs (wm J ?_)));refine Wp (Zw1 N s.to' b1 _ hok) [] [(0,.sl 18),(1,.bp 3 0),(2,.sl 2)] [2] (.inr ⟨rfl,trivial⟩) ?_;cases ok with
    |false=>
     cases hst;exact wm J (Yi [] kk)
    |true=>
     refine wm J ?_;have⟨g,hg,hst⟩:=ob hst;refine XA J rB hg (wm J (Wt J oB hg (wn J ?_)));cases g with
     |true=>
      cases hst;exact wa J 1 (wm J (Yi [] kk))
     |false=>
      cases hst;exact wa J 1 (wm J (XA J rB hg (wm J (Uc J [] oB true hg (wm J (Yi [] kk))))))
  ·intro D;refine eFa (D:=D) (Ds:=Ds) 5 7 rfl (wm J ?_);exact Yi [(4,.bp 8 0)] (ih (D::Ds) b' h)
theorem Zp6(d:List YM)(r:Bool)(h:Zbc N d=some r):Fn aB 22 ⟨1,[.S 0],[(0,.sl lF d)],[],1,.O r,[],[]⟩:=ZpG N d r h
theorem Zwp(c:(List be))(r:(List be))(h:Bw N c=some r) :
 Fn aB 23 ⟨1,[.S 0],[(0,.sl rS c)],[],2,.S 1,[],[(1,.own rS r true)]⟩:=Yy func23 rfl fun E F w=>by
 unfold Bw at h;refine wa J 8 (eNi rS c false ?_);intro nb hnb;cases nb
 ·refine wa J 5 (YW J [] oS ([]:List be) ?_);refine wO J 1 h fun d e h=>Xu J rS e ?_;exact oi h▸wr J 2 func23 [(1,.sl 2)]
 ·obtain rfl:=hnb rfl;replace h:(some ([]:List be):Option (List be))=some r:=h;exact oi h▸wr J 6 func23 [(1,.nil)]
theorem Zv7(c:(List Int))(d:be)(r:be)(h:Br N c d=some r) :
 Fn aB 168 ⟨2,[.S 0,.B 1 0],[(0,.sl rA c)],[(1,.box [.v (.pointer none),.nil] 195)],3,.t [],[],[(2,.buf r 5),(1,.box [.bp 1 0,.sl 2] 195)]⟩:=Yy func168 rfl fun E F w=>by
 unfold Br at h;refine wa J 7 (ePl ?_);refine Yu J 5 h (fun h=>?_) fun h=>?_
 ·cases h
 refine wO J 6 h fun e f h=>YK J oD f ?_;refine wO J 6 h fun g i h=>Ym (ZmT N (wk .i32 (e)) ao _ i) [] [(0,.bp 1 0)] (wa J 6 (Ze5 (σ:=be×Int) (fun st=>⟨[(1,.B 1 0),(5,.S 0),(6,.I (c.length:Int)),(7,.I st.2)],[(1,.box [.bp 1 0,.sl 4] 195),(4,.buf st.1 5)],[(0,.sl rA c)],5⟩) (fun n st=>MV N c n st.1 st.2) (r:=r) (fun _=>rfl) ?_ (fun ih=>?_)))
 ·intro n2 ih3;rintro⟨j,k⟩ h;unfold MV at h;refine Yu J 5 h (fun h=>oi h▸wr J 2 func168 [(2,.sl 4)]) fun h=>?_;refine wO J 6 h fun l m h=>YK J oD m ?_;exact wO J 6 h fun o p h=>Ym (ZgH N (wk .i32 (l)) j _ p) [] [(0,.bp 1 0),(1,.sl 4)] (wa J 6 (Yi [(4,.sl 6)] (ih3 (o.2.2,(Yh (k+1))) h)))
 exact Yi [(4,.sl 3)] (ih N (g.2.2,(Yh ((0:Int)+(1:Int)))) h)
theorem Zv8(c:(List Int))(d:be)(r:be)(h:Bs N c d=some r) :
 Fn aB 168 ⟨3,[.S 0,.B 1 0],[(0,.sl rA c)],[(1,.box [.bp 1 0,.sl 2] 195),(2,.buf d 5)],4,.t [],[],[(2,.gone),(3,.buf r 5),(1,.box [.bp 1 0,.sl 3] 195)]⟩:=Yy func168 rfl fun E F w=>by
 unfold Bs at h;refine wa J 6 (YD (σ:=be) (fun st=>⟨[],[(1,.box [.bp 1 0,.sl 3] 195),(3,.buf st 5)],[(0,.sl rA c)],4⟩) (fun st=>Zc1 st=some r) ?_ (fun j1=>?_))
 ·intro e h;unfold Zc1 at h;cases h;exact Xi J func168 [(3,.sl 3)]
 refine wa J 1 (YP (σ:=be×Int) (fun st=>⟨[(1,.B 1 0),(5,.S 0),(6,.I (c.length:Int)),(7,.I st.2)],[(1,.box [.bp 1 0,.sl 3] 195),(3,.buf st.1 5)],[(0,.sl rA c)],4⟩) (fun n st=>MW N c n st.1 st.2) (r:=r) (fun _=>rfl) ?_ (fun ih=>?_))
 ·intro n2 ih3;rintro⟨f,g⟩ h;unfold MW at h;refine Yu J 5 h (fun h=>wa J 2 (Yi [] (j1 f h))) fun h=>?_;refine wO J 6 h fun i j h=>YK J oD j ?_;exact wO J 6 h fun k l h=>Ym (ZgH N (wk .i32 (i)) f _ l) [] [(0,.bp 1 0),(1,.sl 3)] (wa J 6 (Yi [(3,.sl 5)] (ih3 (k.2.2,(Yh (g+1))) h)))
 exact Yi [(3,.sl 2)] (ih N (d,0) h)
theorem ZvJ(d:YM)(e:(List Int))(r:be)(h:Bj N d e=some r) :
 Fn aB 133 ⟨4,[.a [.sl 0,.b d.end',.b d.again',.I d.ticks',.I d.other'.ZB,.I d.other'.To,.I d.other'.ZP,.sl 1,.sl 2],.S 3],[(0,.sl rA d.set'),(1,.sl lG d.acts'),(2,.sl rA d.to'),(3,.sl rA e)],[],4,.c (.s r),[],[]⟩:=Yy func133 rfl fun E F w=>by
 unfold Bj at h;refine wa J 24 (YD (σ:=Int) (fun st=>(ZnJ d.end' d.again' d.ticks' d.other'.ZB d.other'.To d.other'.ZP none d.set' d.acts' d.to' e [(1,.S 3),(2,.B 4 0),(5,.B 5 0),(6,.c (.cl 168 [] [5])),(7,.I st)])) (fun st=>Bk N d e st=some r) ?_ (fun j1=>?_))
 ·intro f h;unfold Bk at h;refine wa J 6 (YD (σ:=Int) (fun st=>(ZnJ d.end' d.again' d.ticks' d.other'.ZB d.other'.To d.other'.ZP none d.set' d.acts' d.to' e [(1,.S 3),(2,.B 4 0),(5,.B 5 0),(6,.c (.cl 168 [] [5])),(7,.I st)])) (fun st=>H6 N d e st=some r) ?_ (fun j2=>?_))
  ·intro g h;unfold H6 at h;refine wa J 15 (YW J [] oD ([g,d.ticks',d.other'.ZB,d.other'.To,d.other'.ZP]:List Int) ?_);have⟨i,j,h⟩:=ob h;refine Ym (Zv7 N ([g,d.ticks',d.other'.ZB,d.other'.To,d.other'.ZP]:List Int) ao _ j) [6] [(0,.sl 6),(1,.bp 5 0)] (wa J 9 (YD (σ:=be) (fun st=>⟨[(5,.B 5 0)],[(5,.box [.bp 5 0,.sl 8] 195),(8,.buf st 5)],[(0,.sl rA d.set'),(1,.sl lG d.acts'),(2,.sl rA d.to'),(3,.sl rA e)],9⟩) (fun st=>Zcw N st=some r) ?_ (fun j3=>?_)))
   ·intro k h;unfold Zcw at h;refine wO J 2 h fun l m h=>Ym (Znj N k _ m) [] [(0,.bp 5 0),(1,.sl 8)] ?_;exact oi h▸wr J 2 func133 []
   refine wa J 1 (YP (σ:=be×Int) (fun st=>⟨[(1,.S 3),(2,.B 4 0),(5,.B 5 0),(6,.c (.cl 168 [] [5])),(33,.S 1),(34,.I (d.acts'.length:Int)),(35,.I st.2)],[(4,.box [.sl 0,.b d.end',.b d.again',.I d.ticks',.I d.other'.ZB,.I d.other'.To,.I d.other'.ZP,.sl 1,.sl 2] 161),(5,.box [.bp 5 0,.sl 8] 195),(8,.buf st.1 5)],[(0,.sl rA d.set'),(1,.sl lG d.acts'),(2,.sl rA d.to'),(3,.sl rA e)],9⟩) (fun n st=>MJ N d e n st.1 st.2) (r:=r) (fun _=>rfl) ?_ (fun ih=>?_))
   ·intro n2 ih5;rintro⟨o,p⟩ h;unfold MJ at h;refine Yu J 5 h (fun h=>wa J 2 (Yi [] (j3 o h))) fun h=>?_;refine wO J 7 h fun q t h=>YK J Wy t ?_;refine wO J 17 h fun u x h=>YK J oD x ?_;refine wO J 1 h fun y z h=>YK J oD z (wa J 1 (YW J [] oD ([q.ZB,q.To,q.ZP,y]:List Int) ?_));have⟨A,C,h⟩:=ob h;exact Ym (Zv8 N ([q.ZB,q.To,q.ZP,y]:List Int) o _ C) [13] [(0,.sl 13),(1,.bp 5 0),(2,.sl 8)] (YL (wa J 5 (Yi [(8,.sl 14)] (ih5 (A,(Yh (p+1))) h))))
   exact Yi [(8,.sl 7)] (ih N (i,0) h)
  exact eB h (fun h=>wa J 6 (Yi [] (j2 (Yh (f+2)) h))) fun h=>wa J 2 (Yi [] (j2 f h))
 exact eB h (fun h=>wa J 4 (Yi [] (j1 1 h))) fun h=>wa J 2 (Yi [] (j1 0 h))
end Gx
end
