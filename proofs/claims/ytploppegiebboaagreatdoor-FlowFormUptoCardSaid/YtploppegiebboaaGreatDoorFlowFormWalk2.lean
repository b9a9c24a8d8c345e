/- Each function of the statement computes what its plain definition says, part 2. -/
import Derived.Test.YtploppegiebboaaGreatDoorFlowFormWalk1
set_option linter.all false
open Go.Proofs.Tryz renaming prog→aB
open List renaming getElem?_eq_some_iff→aE,map_cons→aJ,getElem?_map→aK,length_take→aL,length_map→aM,replicate→aP,append_assoc→aU,length_append→ah,map_nil→ay,length_drop→bg,map→bm,append_nil→bn,map_append→bq,take_append_of_le_length→bw,take_append_drop→cC,take_length→dQ,take_take→fx,set_append_right→gD,set_set→hK,drop_length→jH
open Option.some renaming injEq→aR
open Nat renaming ble→aY,ble_eq_true_of_le→ai,sub_self→br,min_eq_left→cQ
open ByteArray renaming empty→ao
open Int renaming toNat_natCast→bD,natCast_nonneg→dU
open Go.IntKind renaming i64→bF
open Option renaming map_some→ba,getD_some→bc
open Iff renaming rfl→fj
section
set_option maxRecDepth 10000
set_option maxHeartbeats 4000000
open Go Go.Kx Go.Proofs Tryz
namespace Gx
variable (N:Nat)
theorem Zwn (c:Yp) (r:Yp) (h:BC N c=some r) :
 Fn aB 48 ⟨6,[.B 0 0],((1,.sl YM c.Z2)::Xe 2 3 4 c.p' []),[(0,.box (XO 1 2 3 4 5 c) 125),(5,.own rS c.Z3 false)],11,.t [],((6,.sl YM r.Z2)::Xe 7 8 9 r.p' []),[(5,.gone),(10,.own rS r.Z3 false),(0,.box (XO 6 7 8 9 10 r) 125)]⟩:=Yy func48 rfl fun E F w=>by
 unfold BC at h;refine wa J 10 (YE (σ:=(List Ym) × be × (List be) × (List Ys) × (List Yj) × (List be) × be × be × Int) (fun st=>(zz9 st.2.1 st.2.2.2.2.2.2.1 st.2.2.2.2.2.2.2.1 st.2.2.2.2.2.2.2.2 st.2.2.2.2.2.1 c.Z2 c.p' st.1 st.2.2.1 st.2.2.2.1 st.2.2.2.2.1 [])) (fun st=>BD st.1 st.2.1 st.2.2.1 st.2.2.2.1 st.2.2.2.2.1 st.2.2.2.2.2.1 st.2.2.2.2.2.2.1 st.2.2.2.2.2.2.2.1 st.2.2.2.2.2.2.2.2=some r) ?_ (fun j1=>?_))
 ·rintro ⟨d,e,f,g,i,j,k,l,m⟩ h;unfold BD at h;cases h;exact Xh J func48 [(6,.sl 6),(7,.sl 7),(8,.sl 8),(9,.sl 9),(10,.sl 10)]
 refine wa J 1 (YO (σ:=(List Ym) × be × (List be) × (List Ys) × (List Yj) × (List be) × be × be × Int × Int) (fun st=>(zz9 st.2.1 st.2.2.2.2.2.2.1 st.2.2.2.2.2.2.2.1 st.2.2.2.2.2.2.2.2.1 st.2.2.2.2.2.1 c.Z2 c.p' st.1 st.2.2.1 st.2.2.2.1 st.2.2.2.2.1 [(0,.B 0 0),(12,.S 3),(13,.I (c.p'.ZF.length:Int)),(14,.I st.2.2.2.2.2.2.2.2.2)])) (fun n st=>UL N c n st.1 st.2.1 st.2.2.1 st.2.2.2.1 st.2.2.2.2.1 st.2.2.2.2.2.1 st.2.2.2.2.2.2.1 st.2.2.2.2.2.2.2.1 st.2.2.2.2.2.2.2.2.1 st.2.2.2.2.2.2.2.2.2) (r:=r) (fun _=>rfl) ?_ (fun ih=>?_))
 ·intro n12 ih51;rintro ⟨o,p,q,u,v,x,y,z,A,C⟩ h;unfold UL at h;refine Yv J 5 h (fun h=>wa J 2 (Yi [] (j1 (o,p,q,u,v,x,y,z,A) h))) fun h=>?_;refine wO J 7 h fun D G h=>YK J UB G ?_;refine wO J 14 h fun H R h=>G6 J Y9 R ?_;refine wO J 1 h fun T U h=>Yl (Zw3 N H D _ U) [] [(0,.sl 15),(1,.bp 14 0),(2,.sl 12),(3,.sl 13)] (wa J 1 (YE (σ:=(List Ym) × be × (List be) × (List Ys) × (List Yj) × (List be) × be × be × Int) (fun st=>⟨[(0,.B 0 0),(3,.B 14 0),(12,.S 3),(13,.I (c.p'.ZF.length:Int)),(14,.I C)],[(0,.box [.sl 16,.s st.2.1,.sl 17,.sl 18,.sl 19,.sl 20,.s st.2.2.2.2.2.2.1,.s st.2.2.2.2.2.2.2.1,.I st.2.2.2.2.2.2.2.2] 125),(14,.box [.s D.Zu,.sl 12,.sl 13] 97),(20,.own rS st.2.2.2.2.2.1 false)],((1,.sl YM c.Z2)::Xe 2 3 4 c.p' (XU 12 13 D [(16,.sl YM st.1),(17,.sl rS st.2.2.1),(18,.sl Y9 st.2.2.2.1),(19,.sl Yz st.2.2.2.2.1)])),21⟩) (fun st=>Gh N C (UL N c n12) D st.1 st.2.1 st.2.2.1 st.2.2.2.1 st.2.2.2.2.1 st.2.2.2.2.2.1 st.2.2.2.2.2.2.1 st.2.2.2.2.2.2.2.1 st.2.2.2.2.2.2.2.2=some r) ?_ (fun j84=>?_)))
  ·rintro ⟨X,Y,Z,a0,b0,c0,e0,g0,i0⟩ h;unfold Gh at h;refine wa J 7 (YE (σ:=(List Ym) × be × (List be) × (List Ys) × (List Yj) × (List be) × be × be × Int) (fun st=>⟨[(0,.B 0 0),(12,.S 3),(13,.I (c.p'.ZF.length:Int)),(14,.I C)],[(0,.box [.sl 21,.s st.2.1,.sl 22,.sl 23,.sl 24,.sl 25,.s st.2.2.2.2.2.2.1,.s st.2.2.2.2.2.2.2.1,.I st.2.2.2.2.2.2.2.2] 125),(25,.own rS st.2.2.2.2.2.1 false)],((1,.sl YM c.Z2)::Xe 2 3 4 c.p' [(21,.sl YM st.1),(22,.sl rS st.2.2.1),(23,.sl Y9 st.2.2.2.1),(24,.sl Yz st.2.2.2.2.1)]),26⟩) (fun st=>BE C (UL N c n12) st.1 st.2.1 st.2.2.1 st.2.2.2.1 st.2.2.2.2.1 st.2.2.2.2.2.1 st.2.2.2.2.2.2.1 st.2.2.2.2.2.2.2.1 st.2.2.2.2.2.2.2.2=some r) ?_ (fun j85=>?_))
   ·rintro ⟨j0,k0,l0,m0,o0,p0,q0,s0,t0⟩ h;unfold BE at h;exact wa J 5 (Yi [(6,.sl 21),(7,.sl 22),(8,.sl 23),(9,.sl 24),(10,.sl 25)] (ih51 (j0,k0,l0,m0,o0,p0,q0,s0,t0,(Yh (C+1))) h))
   refine wa J 1 (YO (σ:=(List Ym) × be × (List be) × (List Ys) × (List Yj) × (List be) × be × be × Int × Int) (fun st=>⟨[(0,.B 0 0),(3,.B 14 0),(12,.S 3),(13,.I (c.p'.ZF.length:Int)),(14,.I C),(33,.S 12),(34,.I (D.Zz.length:Int)),(35,.I st.2.2.2.2.2.2.2.2.2)],[(0,.box [.sl 21,.s st.2.1,.sl 22,.sl 23,.sl 24,.sl 25,.s st.2.2.2.2.2.2.1,.s st.2.2.2.2.2.2.2.1,.I st.2.2.2.2.2.2.2.2.1] 125),(14,.box [.s D.Zu,.sl 12,.sl 13] 97),(25,.own rS st.2.2.2.2.2.1 false)],((1,.sl YM c.Z2)::Xe 2 3 4 c.p' (XU 12 13 D [(21,.sl YM st.1),(22,.sl rS st.2.2.1),(23,.sl Y9 st.2.2.2.1),(24,.sl Yz st.2.2.2.2.1)])),26⟩) (fun n st=>Su N C (UL N c n12) D n st.1 st.2.1 st.2.2.1 st.2.2.2.1 st.2.2.2.2.1 st.2.2.2.2.2.1 st.2.2.2.2.2.2.1 st.2.2.2.2.2.2.2.1 st.2.2.2.2.2.2.2.2.1 st.2.2.2.2.2.2.2.2.2) (r:=r) (fun _=>rfl) ?_ (fun ih=>?_))
   ·intro n14 ih93;rintro ⟨u0,v0,x0,y0,z0,A0,B0,C0,D0,G0⟩ h;unfold Su at h;refine Yv J 5 h (fun h=>wa J 2 (Yi [] (j85 (u0,v0,x0,y0,z0,A0,B0,C0,D0) h))) fun h=>?_;refine wO J 7 h fun H0 I0 h=>YK J Sh I0 ?_;refine wO J 11 h fun L0 M0 h=>G6 J XJ M0 ?_;refine wO J 1 h fun O0 R0 h=>Yl (ZuP N L0 H0 _ R0) [] [(0,.sl 28),(1,.bp 27 0)] (wa J 1 (YE (σ:=(List Ym) × be × (List be) × (List Ys) × (List Yj) × (List be) × be × be × Int) (fun st=>(Znc st.2.1 st.2.2.2.2.2.2.1 st.2.2.2.2.2.2.2.1 st.2.2.2.2.2.2.2.2 D.Zu H0 st.2.2.2.2.2.1 c.Z2 c.p' D st.1 st.2.2.1 st.2.2.2.1 st.2.2.2.2.1 [(0,.B 0 0),(3,.B 14 0),(5,.B 27 0),(12,.S 3),(13,.I (c.p'.ZF.length:Int)),(14,.I C),(33,.S 12),(34,.I (D.Zz.length:Int)),(35,.I G0)])) (fun st=>Gg N G0 (Su N C (UL N c n12) D n14) H0 st.1 st.2.1 st.2.2.1 st.2.2.2.1 st.2.2.2.2.1 st.2.2.2.2.2.1 st.2.2.2.2.2.2.1 st.2.2.2.2.2.2.2.1 st.2.2.2.2.2.2.2.2=some r) ?_ (fun j98=>?_)))
    ·rintro ⟨S0,U0,V0,X0,Y0,Z0,a1,b1,c1⟩ h;unfold Gg at h;refine wa J 13 (YE (σ:=Int × Int) (fun st=>(Znc U0 a1 b1 c1 D.Zu H0 Z0 c.Z2 c.p' D S0 V0 X0 Y0 [(0,.B 0 0),(3,.B 14 0),(5,.B 27 0),(6,.I st.1),(7,.I st.2),(12,.S 3),(13,.I (c.p'.ZF.length:Int)),(14,.I C),(33,.S 12),(34,.I (D.Zz.length:Int)),(35,.I G0)])) (fun st=>Gf N G0 (Su N C (UL N c n12) D n14) H0 S0 U0 V0 X0 Y0 Z0 a1 b1 c1 st.1 st.2=some r) ?_ (fun j99=>?_))
     ·rintro ⟨e1,g1⟩ h;unfold Gf at h;refine wB J 10 h (fun h=>?_) fun h=>?_
      ·exact wO J 19 h fun i1 k1 h=>Yl (Wu N (⟨S0,(⟨U0,V0,X0,Y0⟩:Ym),Z0,(⟨a1,b1,c1⟩:Y6)⟩:Yp) H0.Zu 2 _ k1) [] [(0,.bp 0 0),(1,.sl 29),(2,.sl 30),(3,.sl 31),(4,.sl 32),(5,.sl 33)] (wa J 6 (Yi [(21,.sl 34),(22,.sl 35),(23,.sl 36),(24,.sl 37),(25,.sl 38)] (ih93 (i1.Z2,i1.p'.Zu,i1.p'.ZE,i1.p'.ZF,i1.p'.ZG,i1.Z3,i1.Z4.ZY,i1.Z4.Zu,i1.Z4.ZZ,(Yh (G0+1))) h)))
      refine wB J 7 h (fun h=>?_) fun h=>?_
      ·exact wO J 12 h fun l1 m1 h=>Yl (Wu N (⟨S0,(⟨U0,V0,X0,Y0⟩:Ym),Z0,(⟨a1,b1,c1⟩:Y6)⟩:Yp) H0.Zu 2 _ m1) [] [(0,.bp 0 0),(1,.sl 29),(2,.sl 30),(3,.sl 31),(4,.sl 32),(5,.sl 33)] (wa J 6 (Yi [(21,.sl 34),(22,.sl 35),(23,.sl 36),(24,.sl 37),(25,.sl 38)] (ih93 (l1.Z2,l1.p'.Zu,l1.p'.ZE,l1.p'.ZF,l1.p'.ZG,l1.Z3,l1.Z4.ZY,l1.Z4.Zu,l1.Z4.ZZ,(Yh (G0+1))) h)))
      refine Yv J 7 h (fun h=>wa J 7 (Yi [(21,.sl 29),(22,.sl 30),(23,.sl 31),(24,.sl 32),(25,.sl 33)] (ih93 (S0,U0,V0,X0,Y0,Z0,a1,b1,c1,(Yh (G0+1))) h))) fun h=>?_;exact wO J 5 h fun o1 p1 h=>Yl (Wu N (⟨S0,(⟨U0,V0,X0,Y0⟩:Ym),Z0,(⟨a1,b1,c1⟩:Y6)⟩:Yp) H0.Zu 2 _ p1) [] [(0,.bp 0 0),(1,.sl 29),(2,.sl 30),(3,.sl 31),(4,.sl 32),(5,.sl 33)] (wa J 6 (Yi [(21,.sl 34),(22,.sl 35),(23,.sl 36),(24,.sl 37),(25,.sl 38)] (ih93 (o1.Z2,o1.p'.Zu,o1.p'.ZE,o1.p'.ZF,o1.p'.ZG,o1.Z3,o1.Z4.ZY,o1.Z4.Zu,o1.Z4.ZZ,(Yh (G0+1))) h)))
     exact eB h (fun h=>wa J 5 (Yi [] (j99 (0,40) h))) fun h=>wa J 2 (Yi [] (j99 ((-1000),1000) h))
    refine Wj h (fun h=>wa J 2 (Yi [(29,.sl 21),(30,.sl 22),(31,.sl 23),(32,.sl 24),(33,.sl 25)] (j98 (u0,v0,x0,y0,z0,A0,B0,C0,D0) h))) fun h=>?_;exact wO J 5 h fun q1 s1 h=>Yl (Wu N (⟨u0,(⟨v0,x0,y0,z0⟩:Ym),A0,(⟨B0,C0,D0⟩:Y6)⟩:Yp) H0.Zu 9 _ s1) [] [(0,.bp 0 0),(1,.sl 21),(2,.sl 22),(3,.sl 23),(4,.sl 24),(5,.sl 25)] (wa J 1 (Yi [] (j98 (q1.Z2,q1.p'.Zu,q1.p'.ZE,q1.p'.ZF,q1.p'.ZG,q1.Z3,q1.Z4.ZY,q1.Z4.Zu,q1.Z4.ZZ) h)))
   exact Yi [(21,.sl 16),(22,.sl 17),(23,.sl 18),(24,.sl 19),(25,.sl 20)] (ih N (X,Y,Z,a0,b0,c0,e0,g0,i0,0) h)
  refine Wj h (fun h=>wa J 2 (Yi [(16,.sl 6),(17,.sl 7),(18,.sl 8),(19,.sl 9),(20,.sl 10)] (j84 (o,p,q,u,v,x,y,z,A) h))) fun h=>?_;exact wO J 5 h fun t1 u1 h=>Yl (Wu N (⟨o,(⟨p,q,u,v⟩:Ym),x,(⟨y,z,A⟩:Y6)⟩:Yp) D.Zu 9 _ u1) [] [(0,.bp 0 0),(1,.sl 6),(2,.sl 7),(3,.sl 8),(4,.sl 9),(5,.sl 10)] (wa J 1 (Yi [] (j84 (t1.Z2,t1.p'.Zu,t1.p'.ZE,t1.p'.ZF,t1.p'.ZG,t1.Z3,t1.Z4.ZY,t1.Z4.Zu,t1.Z4.ZZ) h)))
 exact Yi [(6,.sl 1),(7,.sl 2),(8,.sl 3),(9,.sl 4),(10,.sl 5)] (ih N (c.Z2,c.p'.Zu,c.p'.ZE,c.p'.ZF,c.p'.ZG,c.Z3,c.Z4.ZY,c.Z4.Zu,c.Z4.ZZ,0) h)
theorem Zwo (c:Yp) (r:Yp) (h:BF N c=some r) :
 Fn aB 49 ⟨6,[.B 0 0],((1,.sl YM c.Z2)::Xe 2 3 4 c.p' []),[(0,.box (XO 1 2 3 4 5 c) 125),(5,.own rS c.Z3 false)],11,.t [],((6,.sl YM r.Z2)::Xe 7 8 9 r.p' []),[(5,.gone),(10,.own rS r.Z3 false),(0,.box (XO 6 7 8 9 10 r) 125)]⟩:=Yy func49 rfl fun E F w=>by
 unfold BF at h;refine wa J 10 (YE (σ:=(List Ym) × be × (List be) × (List Ys) × (List Yj) × (List be) × be × be × Int) (fun st=>(zz9 st.2.1 st.2.2.2.2.2.2.1 st.2.2.2.2.2.2.2.1 st.2.2.2.2.2.2.2.2 st.2.2.2.2.2.1 c.Z2 c.p' st.1 st.2.2.1 st.2.2.2.1 st.2.2.2.2.1 [])) (fun st=>BG st.1 st.2.1 st.2.2.1 st.2.2.2.1 st.2.2.2.2.1 st.2.2.2.2.2.1 st.2.2.2.2.2.2.1 st.2.2.2.2.2.2.2.1 st.2.2.2.2.2.2.2.2=some r) ?_ (fun j1=>?_))
 ·rintro ⟨d,e,f,g,i,j,k,l,m⟩ h;unfold BG at h;cases h;exact Xh J func49 [(6,.sl 6),(7,.sl 7),(8,.sl 8),(9,.sl 9),(10,.sl 10)]
 refine wa J 1 (YO (σ:=(List Ym) × be × (List be) × (List Ys) × (List Yj) × (List be) × be × be × Int × Int) (fun st=>(zz9 st.2.1 st.2.2.2.2.2.2.1 st.2.2.2.2.2.2.2.1 st.2.2.2.2.2.2.2.2.1 st.2.2.2.2.2.1 c.Z2 c.p' st.1 st.2.2.1 st.2.2.2.1 st.2.2.2.2.1 [(0,.B 0 0),(17,.S 3),(18,.I (c.p'.ZF.length:Int)),(19,.I st.2.2.2.2.2.2.2.2.2)])) (fun n st=>Vk N c n st.1 st.2.1 st.2.2.1 st.2.2.2.1 st.2.2.2.2.1 st.2.2.2.2.2.1 st.2.2.2.2.2.2.1 st.2.2.2.2.2.2.2.1 st.2.2.2.2.2.2.2.2.1 st.2.2.2.2.2.2.2.2.2) (r:=r) (fun _=>rfl) ?_ (fun ih=>?_))
 ·intro n132 ih516;rintro ⟨o,p,q,u,v,x,y,z,A,C⟩ h;unfold Vk at h;refine Yv J 5 h (fun h=>wa J 2 (Yi [] (j1 (o,p,q,u,v,x,y,z,A) h))) fun h=>?_;refine wO J 6 h fun D G h=>YK J UB G (wa J 11 (YE (σ:=(List Ym) × be × (List be) × (List Ys) × (List Yj) × (List be) × be × be × Int) (fun st=>⟨[(0,.B 0 0),(17,.S 3),(18,.I (c.p'.ZF.length:Int)),(19,.I C)],[(0,.box [.sl 15,.s st.2.1,.sl 16,.sl 17,.sl 18,.sl 19,.s st.2.2.2.2.2.2.1,.s st.2.2.2.2.2.2.2.1,.I st.2.2.2.2.2.2.2.2] 125),(19,.own rS st.2.2.2.2.2.1 false)],((1,.sl YM c.Z2)::Xe 2 3 4 c.p' [(15,.sl YM st.1),(16,.sl rS st.2.2.1),(17,.sl Y9 st.2.2.2.1),(18,.sl Yz st.2.2.2.2.1)]),20⟩) (fun st=>BH C (Vk N c n132) st.1 st.2.1 st.2.2.1 st.2.2.2.1 st.2.2.2.2.1 st.2.2.2.2.2.1 st.2.2.2.2.2.2.1 st.2.2.2.2.2.2.2.1 st.2.2.2.2.2.2.2.2=some r) ?_ (fun j859=>?_)))
  ·rintro ⟨H,R,T,U,X,Y,Z,a0,b0⟩ h;unfold BH at h;exact wa J 5 (Yi [(6,.sl 15),(7,.sl 16),(8,.sl 17),(9,.sl 18),(10,.sl 19)] (ih516 (H,R,T,U,X,Y,Z,a0,b0,(Yh (C+1))) h))
  refine wa J 1 (YO (σ:=(List Ym) × be × (List be) × (List Ys) × (List Yj) × (List be) × be × be × Int × Int) (fun st=>⟨[(0,.B 0 0),(3,.B 14 0),(17,.S 3),(18,.I (c.p'.ZF.length:Int)),(19,.I C),(24,.S 13),(25,.I (D.ZA.length:Int)),(26,.I st.2.2.2.2.2.2.2.2.2)],[(0,.box [.sl 15,.s st.2.1,.sl 16,.sl 17,.sl 18,.sl 19,.s st.2.2.2.2.2.2.1,.s st.2.2.2.2.2.2.2.1,.I st.2.2.2.2.2.2.2.2.1] 125),(14,.box [.s D.Zu,.sl 12,.sl 13] 97),(19,.own rS st.2.2.2.2.2.1 false)],((1,.sl YM c.Z2)::Xe 2 3 4 c.p' (XU 12 13 D [(15,.sl YM st.1),(16,.sl rS st.2.2.1),(17,.sl Y9 st.2.2.2.1),(18,.sl Yz st.2.2.2.2.1)])),20⟩) (fun n st=>Uf N C (Vk N c n132) D n st.1 st.2.1 st.2.2.1 st.2.2.2.1 st.2.2.2.2.1 st.2.2.2.2.2.1 st.2.2.2.2.2.2.1 st.2.2.2.2.2.2.2.1 st.2.2.2.2.2.2.2.2.1 st.2.2.2.2.2.2.2.2.2) (r:=r) (fun _=>rfl) ?_ (fun ih=>?_))
  ·intro n154 ih945;rintro ⟨c0,e0,g0,i0,j0,k0,l0,m0,o0,p0⟩ h;unfold Uf at h;refine Yv J 5 h (fun h=>wa J 2 (Yi [] (j859 (c0,e0,g0,i0,j0,k0,l0,m0,o0) h))) fun h=>?_;refine wO J 6 h fun q0 s0 h=>YK J PZ s0 (wa J 24 (YE (σ:=(List Ym) × be × (List be) × (List Ys) × (List Yj) × (List be) × be × be × Int × Int × Int) (fun st=>(Znd st.2.1 st.2.2.2.2.2.2.1 st.2.2.2.2.2.2.2.1 st.2.2.2.2.2.2.2.2.1 D.Zu q0.Zx.Zt q0.Zx.Zw q0.Zx.Field q0.Zx.N q0.Op q0.Zy.Zt q0.Zy.Zw q0.Zy.Field q0.Zy.N st.2.2.2.2.2.2.2.2.2.1 st.2.2.2.2.2.2.2.2.2.2 st.2.2.2.2.2.1 c.Z2 c.p' D st.1 st.2.2.1 st.2.2.2.1 st.2.2.2.2.1 [(0,.B 0 0),(3,.B 14 0),(5,.B 21 0),(6,.B 22 0),(7,.B 23 0),(17,.S 3),(18,.I (c.p'.ZF.length:Int)),(19,.I C),(24,.S 13),(25,.I (D.ZA.length:Int)),(26,.I p0)])) (fun st=>Zdf N D p0 (Uf N C (Vk N c n132) D n154) q0 st.1 st.2.1 st.2.2.1 st.2.2.2.1 st.2.2.2.2.1 st.2.2.2.2.2.1 st.2.2.2.2.2.2.1 st.2.2.2.2.2.2.2.1 st.2.2.2.2.2.2.2.2.1 st.2.2.2.2.2.2.2.2.2.1 st.2.2.2.2.2.2.2.2.2.2=some r) ?_ (fun j1002=>?_)))
   ·rintro ⟨t0,u0,v0,x0,y0,z0,A0,B0,C0,D0,G0⟩ h;unfold Zdf at h;refine wa J 10 (YE (σ:=(List Ym) × be × (List be) × (List Ys) × (List Yj) × (List be) × be × be × Int × Int) (fun st=>⟨[(0,.B 0 0),(3,.B 14 0),(5,.B 21 0),(10,.I st.2.2.2.2.2.2.2.2.2),(17,.S 3),(18,.I (c.p'.ZF.length:Int)),(19,.I C),(24,.S 13),(25,.I (D.ZA.length:Int)),(26,.I p0)],[(0,.box [.sl 29,.s st.2.1,.sl 30,.sl 31,.sl 32,.sl 33,.s st.2.2.2.2.2.2.1,.s st.2.2.2.2.2.2.2.1,.I st.2.2.2.2.2.2.2.2.1] 125),(14,.box [.s D.Zu,.sl 12,.sl 13] 97),(21,.box [.I q0.Zx.Zt,.s q0.Zx.Zw,.s q0.Zx.Field,.I q0.Zx.N,.s q0.Op,.I q0.Zy.Zt,.s q0.Zy.Zw,.s q0.Zy.Field,.I q0.Zy.N] 104),(33,.own rS st.2.2.2.2.2.1 false)],((1,.sl YM c.Z2)::Xe 2 3 4 c.p' (XU 12 13 D [(29,.sl YM st.1),(30,.sl rS st.2.2.1),(31,.sl Y9 st.2.2.2.1),(32,.sl Yz st.2.2.2.2.1)])),34⟩) (fun st=>BI N D p0 (Uf N C (Vk N c n132) D n154) q0 st.1 st.2.1 st.2.2.1 st.2.2.2.1 st.2.2.2.2.1 st.2.2.2.2.2.1 st.2.2.2.2.2.2.1 st.2.2.2.2.2.2.2.1 st.2.2.2.2.2.2.2.2.1 st.2.2.2.2.2.2.2.2.2=some r) ?_ (fun j1007=>?_))
    ·rintro ⟨H0,I0,L0,M0,O0,R0,S0,U0,V0,X0⟩ h;unfold BI at h;refine wB J 5 h (fun h=>?_) fun h=>?_
     ·exact wO J 26 h fun Y0 Z0 h=>Yl (Wu N (⟨H0,(⟨I0,L0,M0,O0⟩:Ym),R0,(⟨S0,U0,V0⟩:Y6)⟩:Yp) D.Zu 11 _ Z0) [] [(0,.bp 0 0),(1,.sl 29),(2,.sl 30),(3,.sl 31),(4,.sl 32),(5,.sl 33)] (wa J 6 (Yi [(15,.sl 34),(16,.sl 35),(17,.sl 36),(18,.sl 37),(19,.sl 38)] (ih945 (Y0.Z2,Y0.p'.Zu,Y0.p'.ZE,Y0.p'.ZF,Y0.p'.ZG,Y0.Z3,Y0.Z4.ZY,Y0.Z4.Zu,Y0.Z4.ZZ,(Yh (p0+1))) h)))
     refine Yv J 3 h (fun h=>wa J 25 (Yi [(15,.sl 29),(16,.sl 30),(17,.sl 31),(18,.sl 32),(19,.sl 33)] (ih945 (H0,I0,L0,M0,O0,R0,S0,U0,V0,(Yh (p0+1))) h))) fun h=>?_;refine wB J 4 h (fun h=>?_) fun h=>?_
     ·exact wO J 19 h fun a1 b1 h=>Yl (Wu N (⟨H0,(⟨I0,L0,M0,O0⟩:Ym),R0,(⟨S0,U0,V0⟩:Y6)⟩:Yp) D.Zu 11 _ b1) [] [(0,.bp 0 0),(1,.sl 29),(2,.sl 30),(3,.sl 31),(4,.sl 32),(5,.sl 33)] (wa J 6 (Yi [(15,.sl 34),(16,.sl 35),(17,.sl 36),(18,.sl 37),(19,.sl 38)] (ih945 (a1.Z2,a1.p'.Zu,a1.p'.ZE,a1.p'.ZF,a1.p'.ZG,a1.Z3,a1.Z4.ZY,a1.Z4.Zu,a1.Z4.ZZ,(Yh (p0+1))) h)))
     refine wB J 6 h (fun h=>?_) fun h=>?_
     ·exact wO J 13 h fun c1 e1 h=>Yl (Wu N (⟨H0,(⟨I0,L0,M0,O0⟩:Ym),R0,(⟨S0,U0,V0⟩:Y6)⟩:Yp) D.Zu 11 _ e1) [] [(0,.bp 0 0),(1,.sl 29),(2,.sl 30),(3,.sl 31),(4,.sl 32),(5,.sl 33)] (wa J 6 (Yi [(15,.sl 34),(16,.sl 35),(17,.sl 36),(18,.sl 37),(19,.sl 38)] (ih945 (c1.Z2,c1.p'.Zu,c1.p'.ZE,c1.p'.ZF,c1.p'.ZG,c1.Z3,c1.Z4.ZY,c1.Z4.Zu,c1.Z4.ZZ,(Yh (p0+1))) h)))
     refine Yv J 8 h (fun h=>wa J 7 (Yi [(15,.sl 29),(16,.sl 30),(17,.sl 31),(18,.sl 32),(19,.sl 33)] (ih945 (H0,I0,L0,M0,O0,R0,S0,U0,V0,(Yh (p0+1))) h))) fun h=>?_;exact wO J 5 h fun g1 i1 h=>Yl (Wu N (⟨H0,(⟨I0,L0,M0,O0⟩:Ym),R0,(⟨S0,U0,V0⟩:Y6)⟩:Yp) D.Zu 11 _ i1) [] [(0,.bp 0 0),(1,.sl 29),(2,.sl 30),(3,.sl 31),(4,.sl 32),(5,.sl 33)] (wa J 6 (Yi [(15,.sl 34),(16,.sl 35),(17,.sl 36),(18,.sl 37),(19,.sl 38)] (ih945 (g1.Z2,g1.p'.Zu,g1.p'.ZE,g1.p'.ZF,g1.p'.ZG,g1.Z3,g1.Z4.ZY,g1.Z4.Zu,g1.Z4.ZZ,(Yh (p0+1))) h)))
    refine wa J 1 (YO (σ:=(List Ym) × be × (List be) × (List Ys) × (List Yj) × (List be) × be × be × Int × Int × Int) (fun st=>⟨[(0,.B 0 0),(3,.B 14 0),(5,.B 21 0),(7,.B 23 0),(10,.I st.2.2.2.2.2.2.2.2.2.1),(17,.S 3),(18,.I (c.p'.ZF.length:Int)),(19,.I C),(24,.S 13),(25,.I (D.ZA.length:Int)),(26,.I p0),(58,.a [.I q0.Zx.Zt,.s q0.Zx.Zw,.s q0.Zx.Field,.I q0.Zx.N,.I q0.Zy.Zt,.s q0.Zy.Zw,.s q0.Zy.Field,.I q0.Zy.N]),(59,.I st.2.2.2.2.2.2.2.2.2.2)],[(0,.box [.sl 29,.s st.2.1,.sl 30,.sl 31,.sl 32,.sl 33,.s st.2.2.2.2.2.2.1,.s st.2.2.2.2.2.2.2.1,.I st.2.2.2.2.2.2.2.2.1] 125),(14,.box [.s D.Zu,.sl 12,.sl 13] 97),(21,.box [.I q0.Zx.Zt,.s q0.Zx.Zw,.s q0.Zx.Field,.I q0.Zx.N,.s q0.Op,.I q0.Zy.Zt,.s q0.Zy.Zw,.s q0.Zy.Field,.I q0.Zy.N] 104),(23,.box [.I D0,.I G0] 154),(33,.own rS st.2.2.2.2.2.1 false)],((1,.sl YM c.Z2)::Xe 2 3 4 c.p' (XU 12 13 D [(29,.sl YM st.1),(30,.sl rS st.2.2.1),(31,.sl Y9 st.2.2.2.1),(32,.sl Yz st.2.2.2.2.1)])),34⟩) (fun n st=>Sv N D p0 (Uf N C (Vk N c n132) D n154) q0 D0 G0 n st.1 st.2.1 st.2.2.1 st.2.2.2.1 st.2.2.2.2.1 st.2.2.2.2.2.1 st.2.2.2.2.2.2.1 st.2.2.2.2.2.2.2.1 st.2.2.2.2.2.2.2.2.1 st.2.2.2.2.2.2.2.2.2.1 st.2.2.2.2.2.2.2.2.2.2) (r:=r) (fun _=>rfl) ?_ (fun ih=>?_))
    ·intro n157 ih1017;rintro ⟨k1,l1,m1,o1,p1,q1,s1,t1,u1,v1,x1⟩ h;unfold Sv at h;refine Yv J 5 h (fun h=>wa J 2 (Yi [] (j1007 (k1,l1,m1,o1,p1,q1,s1,t1,u1,v1) h))) fun h=>?_;refine wa J 7 (YE (σ:=Int × be × be × Int) (fun st=>(Zne l1 s1 t1 u1 D.Zu q0.Zx.Zt q0.Zx.Zw q0.Zx.Field q0.Zx.N q0.Op q0.Zy.Zt q0.Zy.Zw q0.Zy.Field q0.Zy.N D0 G0 q1 st.1 st.2.1 st.2.2.1 st.2.2.2 c.Z2 c.p' D k1 m1 o1 p1 [(0,.B 0 0),(3,.B 14 0),(5,.B 21 0),(7,.B 23 0),(10,.I v1),(11,.I x1),(12,.B 34 0),(17,.S 3),(18,.I (c.p'.ZF.length:Int)),(19,.I C),(24,.S 13),(25,.I (D.ZA.length:Int)),(26,.I p0),(58,.a [.I q0.Zx.Zt,.s q0.Zx.Zw,.s q0.Zx.Field,.I q0.Zx.N,.I q0.Zy.Zt,.s q0.Zy.Zw,.s q0.Zy.Field,.I q0.Zy.N]),(59,.I x1)])) (fun st=>Gl N D D0 G0 k1 l1 m1 o1 p1 q1 s1 t1 u1 v1 x1 (Sv N D p0 (Uf N C (Vk N c n132) D n154) q0 D0 G0 n157) st.1 st.2.1 st.2.2.1 st.2.2.2=some r) ?_ (fun j1023=>?_))
     ·rintro ⟨y1,z1,A1,B1⟩ h;unfold Gl at h;refine wa J 7 (YE (σ:=Bool) (fun st=>(Zne l1 s1 t1 u1 D.Zu q0.Zx.Zt q0.Zx.Zw q0.Zx.Field q0.Zx.N q0.Op q0.Zy.Zt q0.Zy.Zw q0.Zy.Field q0.Zy.N D0 G0 q1 y1 z1 A1 B1 c.Z2 c.p' D k1 m1 o1 p1 [(0,.B 0 0),(3,.B 14 0),(5,.B 21 0),(7,.B 23 0),(10,.I v1),(11,.I x1),(12,.B 34 0),(17,.S 3),(18,.I (c.p'.ZF.length:Int)),(19,.I C),(24,.S 13),(25,.I (D.ZA.length:Int)),(26,.I p0),(58,.a [.I q0.Zx.Zt,.s q0.Zx.Zw,.s q0.Zx.Field,.I q0.Zx.N,.I q0.Zy.Zt,.s q0.Zy.Zw,.s q0.Zy.Field,.I q0.Zy.N]),(59,.I x1),(71,.O st)])) (fun st=>Gk N D D0 G0 k1 l1 m1 o1 p1 q1 s1 t1 u1 v1 x1 (Sv N D p0 (Uf N C (Vk N c n132) D n154) q0 D0 G0 n157) y1 st=some r) ?_ (fun j1024=>?_))
      ·intro C1 h;unfold Gk at h;refine YE (σ:=(List Ym) × be × (List be) × (List Ys) × (List Yj) × (List be) × be × be × Int) (fun st=>⟨[(0,.B 0 0),(3,.B 14 0),(5,.B 21 0),(7,.B 23 0),(10,.I v1),(11,.I x1),(12,.B 34 0),(17,.S 3),(18,.I (c.p'.ZF.length:Int)),(19,.I C),(24,.S 13),(25,.I (D.ZA.length:Int)),(26,.I p0),(58,.a [.I q0.Zx.Zt,.s q0.Zx.Zw,.s q0.Zx.Field,.I q0.Zx.N,.I q0.Zy.Zt,.s q0.Zy.Zw,.s q0.Zy.Field,.I q0.Zy.N]),(59,.I x1)],[(0,.box [.sl 35,.s st.2.1,.sl 36,.sl 37,.sl 38,.sl 39,.s st.2.2.2.2.2.2.1,.s st.2.2.2.2.2.2.2.1,.I st.2.2.2.2.2.2.2.2] 125),(14,.box [.s D.Zu,.sl 12,.sl 13] 97),(21,.box [.I q0.Zx.Zt,.s q0.Zx.Zw,.s q0.Zx.Field,.I q0.Zx.N,.s q0.Op,.I q0.Zy.Zt,.s q0.Zy.Zw,.s q0.Zy.Field,.I q0.Zy.N] 104),(23,.box [.I D0,.I G0] 154),(34,.box [.I y1,.s z1,.s A1,.I B1] 102),(39,.own rS st.2.2.2.2.2.1 false)],((1,.sl YM c.Z2)::Xe 2 3 4 c.p' (XU 12 13 D [(35,.sl YM st.1),(36,.sl rS st.2.2.1),(37,.sl Y9 st.2.2.2.1),(38,.sl Yz st.2.2.2.2.1)])),40⟩) (fun st=>Gj D0 G0 v1 x1 (Sv N D p0 (Uf N C (Vk N c n132) D n154) q0 D0 G0 n157) y1 st.1 st.2.1 st.2.2.1 st.2.2.2.1 st.2.2.2.2.1 st.2.2.2.2.2.1 st.2.2.2.2.2.2.1 st.2.2.2.2.2.2.2.1 st.2.2.2.2.2.2.2.2=some r) ?_ (fun j1025=>?_)
       ·rintro ⟨D1,G1,H1,I1,L1,M1,O1,R1,S1⟩ h;unfold Gj at h;refine Yv J 6 h (fun h=>wa J 13 (Yi [(29,.sl 35),(30,.sl 36),(31,.sl 37),(32,.sl 38),(33,.sl 39)] (ih1017 (D1,G1,H1,I1,L1,M1,O1,R1,S1,v1,(Yh (x1+1))) h))) fun h=>?_;obtain ⟨K,h⟩|⟨K,h⟩:=oc h
        ·refine wa J 1 (SO 0 (by exact l8 K) ?_);exact wB J 4 h (fun h=>wa J 11 (Yi [(29,.sl 35),(30,.sl 36),(31,.sl 37),(32,.sl 38),(33,.sl 39)] (ih1017 (D1,G1,H1,I1,L1,M1,O1,R1,S1,(Yh (v1+1)),(Yh (x1+1))) h))) fun h=>wa J 7 (Yi [(29,.sl 35),(30,.sl 36),(31,.sl 37),(32,.sl 38),(33,.sl 39)] (ih1017 (D1,G1,H1,I1,L1,M1,O1,R1,S1,v1,(Yh (x1+1))) h))
        obtain ⟨K,h⟩|⟨K,h⟩:=UY h
        ·cases h
        refine wa J 1 (SO 1 (by exact l8 K) ?_);exact wB J 4 h (fun h=>wa J 11 (Yi [(29,.sl 35),(30,.sl 36),(31,.sl 37),(32,.sl 38),(33,.sl 39)] (ih1017 (D1,G1,H1,I1,L1,M1,O1,R1,S1,(Yh (v1+1)),(Yh (x1+1))) h))) fun h=>wa J 7 (Yi [(29,.sl 35),(30,.sl 36),(31,.sl 37),(32,.sl 38),(33,.sl 39)] (ih1017 (D1,G1,H1,I1,L1,M1,O1,R1,S1,v1,(Yh (x1+1))) h))
       refine Wj h (fun h=>wa J 2 (Yi [(35,.sl 29),(36,.sl 30),(37,.sl 31),(38,.sl 32),(39,.sl 33)] (j1025 (k1,l1,m1,o1,p1,q1,s1,t1,u1) h))) fun h=>?_;exact wO J 5 h fun U1 V1 h=>Yl (Wu N (⟨k1,(⟨l1,m1,o1,p1⟩:Ym),q1,(⟨s1,t1,u1⟩:Y6)⟩:Yp) D.Zu 11 _ V1) [] [(0,.bp 0 0),(1,.sl 29),(2,.sl 30),(3,.sl 31),(4,.sl 32),(5,.sl 33)] (wa J 1 (Yi [] (j1025 (U1.Z2,U1.p'.Zu,U1.p'.ZE,U1.p'.ZF,U1.p'.ZG,U1.Z3,U1.Z4.ZY,U1.Z4.Zu,U1.Z4.ZZ) h)))
      refine Wj h (fun h=>wa J 6 (Yi [] (j1024 false h))) fun h=>?_;obtain ⟨K,h⟩|⟨K,h⟩:=oc h
      ·exact wa J 1 (SO 0 (by exact l8 K) (wa J 4 (Yi [] (j1024 (D0 != 2) h))))
      obtain ⟨K,h⟩|⟨K,h⟩:=oc h
      ·exact wa J 1 (SO 1 (by exact l8 K) (wa J 4 (Yi [] (j1024 (G0 != 2) h))))
      cases h
     obtain ⟨K,h⟩|⟨K,h⟩:=oc h
     ·exact eAa 0 (by exact l8 K) (wa J 4 (Yi [] (j1023 (q0.Zx.Zt,q0.Zx.Zw,q0.Zx.Field,q0.Zx.N) h)))
     obtain ⟨K,h⟩|⟨K,h⟩:=oc h
     ·exact eAa 1 (by exact l8 K) (wa J 4 (Yi [] (j1023 (q0.Zy.Zt,q0.Zy.Zw,q0.Zy.Field,q0.Zy.N) h)))
     cases h
    exact Yi [(29,.sl 24),(30,.sl 25),(31,.sl 26),(32,.sl 27),(33,.sl 28)] (ih N (t0,u0,v0,x0,y0,z0,A0,B0,C0,0,0) h)
   refine wa J 1 (YO (σ:=(List Ym) × be × (List be) × (List Ys) × (List Yj) × (List be) × be × be × Int × Int × Int × Int) (fun st=>(Znd st.2.1 st.2.2.2.2.2.2.1 st.2.2.2.2.2.2.2.1 st.2.2.2.2.2.2.2.2.1 D.Zu q0.Zx.Zt q0.Zx.Zw q0.Zx.Field q0.Zx.N q0.Op q0.Zy.Zt q0.Zy.Zw q0.Zy.Field q0.Zy.N st.2.2.2.2.2.2.2.2.2.1 st.2.2.2.2.2.2.2.2.2.2.1 st.2.2.2.2.2.1 c.Z2 c.p' D st.1 st.2.2.1 st.2.2.2.1 st.2.2.2.2.1 [(0,.B 0 0),(3,.B 14 0),(5,.B 21 0),(6,.B 22 0),(7,.B 23 0),(17,.S 3),(18,.I (c.p'.ZF.length:Int)),(19,.I C),(24,.S 13),(25,.I (D.ZA.length:Int)),(26,.I p0),(35,.a [.I q0.Zx.Zt,.s q0.Zx.Zw,.s q0.Zx.Field,.I q0.Zx.N,.I q0.Zy.Zt,.s q0.Zy.Zw,.s q0.Zy.Field,.I q0.Zy.N]),(36,.I st.2.2.2.2.2.2.2.2.2.2.2)])) (fun n st=>Ri N D p0 (Uf N C (Vk N c n132) D n154) q0 n st.1 st.2.1 st.2.2.1 st.2.2.2.1 st.2.2.2.2.1 st.2.2.2.2.2.1 st.2.2.2.2.2.2.1 st.2.2.2.2.2.2.2.1 st.2.2.2.2.2.2.2.2.1 st.2.2.2.2.2.2.2.2.2.1 st.2.2.2.2.2.2.2.2.2.2.1 st.2.2.2.2.2.2.2.2.2.2.2) (r:=r) (fun _=>rfl) ?_ (fun ih=>?_))
   ·intro n158 ih1026;rintro ⟨X1,Y1,Z1,a2,b2,c2,e2,g2,i2,j2,k2,l2⟩ h;unfold Ri at h;refine Yv J 5 h (fun h=>wa J 2 (Yi [] (j1002 (X1,Y1,Z1,a2,b2,c2,e2,g2,i2,j2,k2) h))) fun h=>?_;refine wa J 7 (YE (σ:=Int × be × be × Int) (fun st=>⟨[(0,.B 0 0),(3,.B 14 0),(5,.B 21 0),(6,.B 22 0),(7,.B 23 0),(8,.I l2),(9,.B 29 0),(17,.S 3),(18,.I (c.p'.ZF.length:Int)),(19,.I C),(24,.S 13),(25,.I (D.ZA.length:Int)),(26,.I p0),(35,.a [.I q0.Zx.Zt,.s q0.Zx.Zw,.s q0.Zx.Field,.I q0.Zx.N,.I q0.Zy.Zt,.s q0.Zy.Zw,.s q0.Zy.Field,.I q0.Zy.N]),(36,.I l2)],[(0,.box [.sl 24,.s Y1,.sl 25,.sl 26,.sl 27,.sl 28,.s e2,.s g2,.I i2] 125),(14,.box [.s D.Zu,.sl 12,.sl 13] 97),(21,.box [.I q0.Zx.Zt,.s q0.Zx.Zw,.s q0.Zx.Field,.I q0.Zx.N,.s q0.Op,.I q0.Zy.Zt,.s q0.Zy.Zw,.s q0.Zy.Field,.I q0.Zy.N] 104),(22,.box [.I q0.Zx.Zt,.s q0.Zx.Zw,.s q0.Zx.Field,.I q0.Zx.N,.I q0.Zy.Zt,.s q0.Zy.Zw,.s q0.Zy.Field,.I q0.Zy.N] 206),(23,.box [.I j2,.I k2] 154),(28,.own rS c2 false),(29,.box [.I st.1,.s st.2.1,.s st.2.2.1,.I st.2.2.2] 102)],((1,.sl YM c.Z2)::Xe 2 3 4 c.p' (XU 12 13 D [(24,.sl YM X1),(25,.sl rS Z1),(26,.sl Y9 a2),(27,.sl Yz b2)])),30⟩) (fun st=>Gi N D X1 Y1 Z1 a2 b2 c2 e2 g2 i2 j2 k2 l2 (Ri N D p0 (Uf N C (Vk N c n132) D n154) q0 n158) st.1 st.2.1 st.2.2.1 st.2.2.2=some r) ?_ (fun j1029=>?_))
    ·rintro ⟨m2,o2,p2,q2⟩ h;unfold Gi at h;refine wB J 7 h (fun h=>wa J 6 (Yi [] (ih1026 (X1,Y1,Z1,a2,b2,c2,e2,g2,i2,j2,k2,(Yh (l2+1))) h))) fun h=>?_;refine wO J 8 h fun s2 t2 h=>Ws (ZuR N (⟨X1,(⟨Y1,Z1,a2,b2⟩:Ym),c2,(⟨e2,g2,i2⟩:Y6)⟩:Yp) D (⟨m2,o2,p2,q2⟩:Y5) _ t2) [] [(0,.bp 0 0),(1,.sl 24),(2,.sl 25),(3,.sl 26),(4,.sl 27),(5,.sl 28),(6,.sl 12),(7,.sl 13)] [28] (.inr ⟨rfl,trivial⟩) ?_;obtain ⟨K,h⟩|⟨K,h⟩:=oc h
     ·refine SO 0 (by exact l8 K) ?_;obtain ⟨K,h⟩|⟨K,h⟩:=oc h
      ·refine wa J 5 (SO 0 (by exact l8 K) ?_);refine Yv J 3 h (fun h=>wa J 7 (Yi [] (ih1026 (X1,Y1,Z1,a2,b2,c2,e2,g2,i2,s2,k2,(Yh (l2+1))) h))) fun h=>?_;exact wO J 5 h fun u2 v2 h=>Yl (Wu N (⟨X1,(⟨Y1,Z1,a2,b2⟩:Ym),c2,(⟨e2,g2,i2⟩:Y6)⟩:Yp) D.Zu 10 _ v2) [] [(0,.bp 0 0),(1,.sl 24),(2,.sl 25),(3,.sl 26),(4,.sl 27),(5,.sl 28)] (wa J 6 (Yi [(24,.sl 30),(25,.sl 31),(26,.sl 32),(27,.sl 33),(28,.sl 34)] (ih1026 (u2.Z2,u2.p'.Zu,u2.p'.ZE,u2.p'.ZF,u2.p'.ZG,u2.Z3,u2.Z4.ZY,u2.Z4.Zu,u2.Z4.ZZ,s2,k2,(Yh (l2+1))) h)))
      obtain ⟨K,h⟩|⟨K,h⟩:=UY h
      ·cases h
      refine wa J 5 (SO 1 (by exact l8 K) ?_);refine Yv J 3 h (fun h=>wa J 7 (Yi [] (ih1026 (X1,Y1,Z1,a2,b2,c2,e2,g2,i2,s2,k2,(Yh (l2+1))) h))) fun h=>?_;exact wO J 5 h fun x2 y2 h=>Yl (Wu N (⟨X1,(⟨Y1,Z1,a2,b2⟩:Ym),c2,(⟨e2,g2,i2⟩:Y6)⟩:Yp) D.Zu 10 _ y2) [] [(0,.bp 0 0),(1,.sl 24),(2,.sl 25),(3,.sl 26),(4,.sl 27),(5,.sl 28)] (wa J 6 (Yi [(24,.sl 30),(25,.sl 31),(26,.sl 32),(27,.sl 33),(28,.sl 34)] (ih1026 (x2.Z2,x2.p'.Zu,x2.p'.ZE,x2.p'.ZF,x2.p'.ZG,x2.Z3,x2.Z4.ZY,x2.Z4.Zu,x2.Z4.ZZ,s2,k2,(Yh (l2+1))) h)))
     obtain ⟨K,h⟩|⟨K,h⟩:=UY h
     ·cases h
     refine SO 1 (by exact l8 K) ?_;obtain ⟨K,h⟩|⟨K,h⟩:=oc h
     ·refine wa J 5 (SO 0 (by exact l8 K) ?_);refine Yv J 3 h (fun h=>wa J 7 (Yi [] (ih1026 (X1,Y1,Z1,a2,b2,c2,e2,g2,i2,j2,s2,(Yh (l2+1))) h))) fun h=>?_;exact wO J 5 h fun z2 A2 h=>Yl (Wu N (⟨X1,(⟨Y1,Z1,a2,b2⟩:Ym),c2,(⟨e2,g2,i2⟩:Y6)⟩:Yp) D.Zu 10 _ A2) [] [(0,.bp 0 0),(1,.sl 24),(2,.sl 25),(3,.sl 26),(4,.sl 27),(5,.sl 28)] (wa J 6 (Yi [(24,.sl 30),(25,.sl 31),(26,.sl 32),(27,.sl 33),(28,.sl 34)] (ih1026 (z2.Z2,z2.p'.Zu,z2.p'.ZE,z2.p'.ZF,z2.p'.ZG,z2.Z3,z2.Z4.ZY,z2.Z4.Zu,z2.Z4.ZZ,j2,s2,(Yh (l2+1))) h)))
     obtain ⟨K,h⟩|⟨K,h⟩:=UY h
     ·cases h
     refine wa J 5 (SO 1 (by exact l8 K) ?_);refine Yv J 3 h (fun h=>wa J 7 (Yi [] (ih1026 (X1,Y1,Z1,a2,b2,c2,e2,g2,i2,j2,s2,(Yh (l2+1))) h))) fun h=>?_;exact wO J 5 h fun B2 C2 h=>Yl (Wu N (⟨X1,(⟨Y1,Z1,a2,b2⟩:Ym),c2,(⟨e2,g2,i2⟩:Y6)⟩:Yp) D.Zu 10 _ C2) [] [(0,.bp 0 0),(1,.sl 24),(2,.sl 25),(3,.sl 26),(4,.sl 27),(5,.sl 28)] (wa J 6 (Yi [(24,.sl 30),(25,.sl 31),(26,.sl 32),(27,.sl 33),(28,.sl 34)] (ih1026 (B2.Z2,B2.p'.Zu,B2.p'.ZE,B2.p'.ZF,B2.p'.ZG,B2.Z3,B2.Z4.ZY,B2.Z4.Zu,B2.Z4.ZZ,j2,s2,(Yh (l2+1))) h)))
    obtain ⟨K,h⟩|⟨K,h⟩:=oc h
    ·exact eAa 0 (by exact l8 K) (wa J 4 (Yi [] (j1029 (q0.Zx.Zt,q0.Zx.Zw,q0.Zx.Field,q0.Zx.N) h)))
    obtain ⟨K,h⟩|⟨K,h⟩:=oc h
    ·exact eAa 1 (by exact l8 K) (wa J 4 (Yi [] (j1029 (q0.Zy.Zt,q0.Zy.Zw,q0.Zy.Field,q0.Zy.N) h)))
    cases h
   exact Yi [(24,.sl 15),(25,.sl 16),(26,.sl 17),(27,.sl 18),(28,.sl 19)] (ih N (c0,e0,g0,i0,j0,k0,l0,m0,o0,0,0,0) h)
  exact Yi [(15,.sl 6),(16,.sl 7),(17,.sl 8),(18,.sl 9),(19,.sl 10)] (ih N (o,p,q,u,v,x,y,z,A,0) h)
 exact Yi [(6,.sl 1),(7,.sl 2),(8,.sl 3),(9,.sl 4),(10,.sl 5)] (ih N (c.Z2,c.p'.Zu,c.p'.ZE,c.p'.ZF,c.p'.ZG,c.Z3,c.Z4.ZY,c.Z4.Zu,c.Z4.ZZ,0) h)
theorem Zu0 (c:Ym) (d:Ym) (r:Bool) (h:ZbN N c d=some r) :
 Fn aB 111 ⟨7,[.a [.s c.Zu,.sl 0,.sl 1,.sl 2],.B 3 0],(Xe 0 1 2 c (Xe 4 5 6 d [])),[(3,.box [.s d.Zu,.sl 4,.sl 5,.sl 6] 56)],7,.O r,[],[(3,.box [.s d.Zu,.sl 4,.sl 5,.sl 6] 56)]⟩:=Yy func111 rfl fun E F w=>by
 unfold ZbN at h;exact oi h▸wr J 14 func111 []
theorem Zw1 (d:(List Ym)) (e:Ym) (r:Int) (h:B5 N d e=some r) :
 Fn aB 97 ⟨5,[.S 0,.c (.cl 111 [] [1])],((0,.sl YM d)::Xe 2 3 4 e []),[(1,.box [.s e.Zu,.sl 2,.sl 3,.sl 4] 56)],5,.I r,[],[(1,.box [.s e.Zu,.sl 2,.sl 3,.sl 4] 56)]⟩:=Yy func97 rfl fun E F w=>by
 unfold B5 at h;refine wa J 11 (YE (σ:=Unit) (fun st=>(zz5 e.Zu d e [])) (fun st=>ZdM=some r) ?_ (fun j1=>?_))
 ·intro _ h;unfold ZdM at h;exact oi h▸wr J 4 func97 []
 refine wa J 1 (YO (σ:=Int) (fun st=>(zz5 e.Zu d e [(0,.S 0),(1,.c (.cl 111 [] [1])),(7,.I (d.length:Int)),(8,.I st)])) (fun n st=>Lg N d e n st) (r:=r) (fun _=>rfl) ?_ (fun ih=>?_))
 ·intro n2 ih3;intro f h;unfold Lg at h;refine Yv J 5 h (fun h=>wa J 2 (Yi [] (j1 () h))) fun h=>?_;refine wO J 14 h fun g i h=>YK J Vr i ?_;refine wO J 1 h fun j k h=>Yl (Zu0 N g e _ k) [] [(0,.sl 6),(1,.sl 7),(2,.sl 8),(3,.bp 1 0),(4,.sl 2),(5,.sl 3),(6,.sl 4)] ?_;exact wB J 1 h (fun h=>oi h▸wr J 6 func97 []) fun h=>wa J 7 (Yi [] (ih3 (Yh (f+1)) h))
 exact Yi [] (ih N 0 h)
theorem Zu1 (rc:(List Yj)->Option (List be)) (rcT:(∀ (c:(List Yj)) (r:(List be)),rc c=some r->Fn aB 112 ⟨1,[.S 0],[(0,.sl Yz c)],[],2,.S 1,[],[(1,.own rS r true)]⟩)) (c:(List Yj)) (r:(List be)) (h:DY N rc c=some r) :
 Fn aB 112 ⟨1,[.S 0],[(0,.sl Yz c)],[],2,.S 1,[],[(1,.own rS r true)]⟩:=Yy func112 rfl fun E F w=>by
 unfold DY at h;refine wa J 15 (YE (σ:=(List be)) (fun st=>⟨[(3,.S 1)],[(1,.own rS st true)],[(0,.sl Yz c)],2⟩) (fun st=>ZbO st=some r) ?_ (fun j1=>?_))
 ·intro d h;unfold ZbO at h;exact oi h▸wr J 5 func112 [(1,.sl 1)]
 refine wa J 1 (YO (σ:=(List be) × Int) (fun st=>⟨[(3,.S 1),(8,.S 0),(9,.I (c.length:Int)),(10,.I st.2)],[(1,.own rS st.1 true)],[(0,.sl Yz c)],2⟩) (fun n st=>So N rc c n st.1 st.2) (r:=r) (fun _=>rfl) ?_ (fun ih=>?_))
 ·intro n12 ih15;rintro ⟨e,f⟩ h;unfold So at h;refine Yv J 5 h (fun h=>wa J 2 (Yi [] (j1 e h))) fun h=>?_;refine wO J 6 h fun g i h=>YK J RX i (wa J 11 (YE (σ:=(List be)) (fun st=>⟨[(3,.S 6),(5,.B 5 0),(8,.S 0),(9,.I (c.length:Int)),(10,.I f)],[(5,.box [.I g.Zt,.s g.ZB,.sl 3,.s g.Zu,.s g.As,.I g.ZC,.sl 4] 132),(6,.own rS st true)],[(0,.sl Yz c),(3,.sl rS g.To),(4,.sl (YH Yz) g.ZD)],7⟩) (fun st=>HM N rc f (So N rc c n12) g st=some r) ?_ (fun j24=>?_)))
  ·intro j h;unfold HM at h;refine wa J 7 (YE (σ:=(List be)) (fun st=>⟨[(3,.S 7),(8,.S 0),(9,.I (c.length:Int)),(10,.I f)],[(7,.own rS st true)],[(0,.sl Yz c)],8⟩) (fun st=>ZbP f (So N rc c n12) st=some r) ?_ (fun j25=>?_))
   ·intro k h;unfold ZbP at h;exact wa J 5 (Yi [(1,.sl 7)] (ih15 (k,(Yh (f+1))) h))
   refine wa J 1 (YO (σ:=(List be) × Int) (fun st=>⟨[(3,.S 7),(8,.S 0),(9,.I (c.length:Int)),(10,.I f),(23,.S 4),(24,.I (g.ZD.length:Int)),(25,.I st.2)],[(7,.own rS st.1 true)],[(0,.sl Yz c),(4,.sl (YH Yz) g.ZD)],8⟩) (fun n st=>Ml rc f (So N rc c n12) g n st.1 st.2) (r:=r) (fun _=>rfl) ?_ (fun ih=>?_))
   ·intro n14 ih27;rintro ⟨l,m⟩ h;unfold Ml at h;refine Yv J 5 h (fun h=>wa J 2 (Yi [] (j25 l h))) fun h=>?_;refine wO J 6 h fun o p h=>YK J (Xi Yz) p ?_;refine wO J 6 h fun q t h=>Yl (rcT o _ t) [] [(0,.sl 9)] ?_;have ⟨u,v,h⟩:=ob h;exact Xv J rS v (wa J 7 (Yi [(7,.sl 11)] (ih27 (u,(Yh (m+1))) h)))
   exact Yi [(7,.sl 6)] (ih N (j,0) h)
  refine Wj h (fun h=>wa J 2 (Yi [(6,.sl 1)] (j24 e h))) fun h=>wa J 5 (YX J [] oS ([g.Zu]:List be) ?_);have ⟨x,y,h⟩:=ob h;exact Xv J rS y (wa J 2 (Yi [(6,.sl 7)] (j24 x h)))
 exact Yi [(1,.nil)] (ih N (([]:List be),0) h)
theorem Zu3:∀ (N:Nat) (c:(List Yj)) (r:(List be)) (h:ZbQ N c=some r),Fn aB 112 ⟨1,[.S 0],[(0,.sl Yz c)],[],2,.S 1,[],[(1,.own rS r true)]⟩:=by
 intro N;induction N with
 | zero=>intros;rename_i h;cases h
 | succ N ih=>intro c r h;exact Zu1 N (ZbQ N) ih c r h
theorem Zu2 (c:(List Yj)) (r:(List be)) (h:Mk N c=some r):Fn aB 112 ⟨1,[.S 0],[(0,.sl Yz c)],[],2,.S 1,[],[(1,.own rS r true)]⟩:=Zu3 N c r h
theorem Zu4 (c:List be) (r:List be) (h:ZbR N c=some r):Fn aB 113 ⟨1,[.S 0],[],[(0,.own rS c false)],1,.t [],[],[(0,.own rS r false)]⟩:=by
 unfold ZbR at h;cases hb:(decide ((c.length:Int)<=4611686018427387903)) with
 | false=>rw [hb] at h;cases h
 | true =>
  rw [hb] at h;simp only [lV,aR] at h;subst h;simp only [lU] at hb;exact Zt6 c (by omega)
theorem Zu5 (c:List be) (r:List be) (h:ZbS N c=some r):Fn aB 114 ⟨1,[.S 0],[],[(0,.own rS c false)],2,.S 1,[],[(1,.own rS r false),(0,.gone)]⟩:=by
 unfold ZbS at h;cases hb:(decide ((c.length:Int)<=4611686018427387903)) with
 | false=>rw [hb] at h;cases h
 | true =>
  rw [hb] at h;simp only [lV,aR] at h;subst h;simp only [lU] at hb;exact ZoB c (by omega)
theorem Zu7 (c:Ym) (d:be) (r:Bool) (h:ZbU N c d=some r) :
 Fn aB 117 ⟨4,[.a [.s c.Zu,.sl 0,.sl 1,.sl 2],.B 3 0],(Xe 0 1 2 c []),[(3,.box [.s d] 9)],4,.O r,[],[(3,.box [.s d] 9)]⟩:=Yy func117 rfl fun E F w=>by
 unfold ZbU at h;exact oi h▸wr J 13 func117 []
theorem Zw2 (d:(List Ym)) (e:be) (r:Int) (h:B6 N d e=some r) :
 Fn aB 97 ⟨2,[.S 0,.c (.cl 117 [] [1])],[(0,.sl YM d)],[(1,.box [.s e] 9)],2,.I r,[],[(1,.box [.s e] 9)]⟩:=Yy func97 rfl fun E F w=>by
 unfold B6 at h;refine wa J 11 (YE (σ:=Unit) (fun st=>⟨[],[(1,.box [.s e] 9)],[(0,.sl YM d)],2⟩) (fun st=>ZdN=some r) ?_ (fun j1=>?_))
 ·intro _ h;unfold ZdN at h;exact oi h▸wr J 4 func97 []
 refine wa J 1 (YO (σ:=Int) (fun st=>⟨[(0,.S 0),(1,.c (.cl 117 [] [1])),(7,.I (d.length:Int)),(8,.I st)],[(1,.box [.s e] 9)],[(0,.sl YM d)],2⟩) (fun n st=>Lh N d e n st) (r:=r) (fun _=>rfl) ?_ (fun ih=>?_))
 ·intro n2 ih3;intro f h;unfold Lh at h;refine Yv J 5 h (fun h=>wa J 2 (Yi [] (j1 () h))) fun h=>?_;refine wO J 14 h fun g i h=>YK J Vr i ?_;refine wO J 1 h fun j k h=>Yl (Zu7 N g e _ k) [] [(0,.sl 3),(1,.sl 4),(2,.sl 5),(3,.bp 1 0)] ?_;exact wB J 1 h (fun h=>oi h▸wr J 6 func97 []) fun h=>wa J 7 (Yi [] (ih3 (Yh (f+1)) h))
 exact Yi [] (ih N 0 h)
theorem Zwl (d:(List Ym)) (e:be) (r:Bool) (h:BB N d e=some r) :
 Fn aB 44 ⟨2,[.S 0,.c (.cl 117 [] [1])],[(0,.sl YM d)],[(1,.box [.s e] 9)],2,.O r,[],[(1,.box [.s e] 9)]⟩:=Yy func44 rfl fun E F w=>by
 unfold BB at h;refine wO J 8 h fun f g h=>Yl (Zw2 N d e _ g) [] [(0,.sl 0),(1,.bp 1 0)] ?_;exact oi h▸wr J 3 func44 []
theorem Zmu (d:be) (e:Yp) (r:Bool) (h:Mm N d e=some r) :
 Fn aB 116 ⟨7,[.c (.s d),.B 6 0],(Ma 1 2 3 4 5 e []),[(0,.box (XO 1 2 3 4 5 e) 125),(6,.box [.bp 0 0] 123)],7,.O r,[],[(0,.box (XO 1 2 3 4 5 e) 125),(6,.box [.bp 0 0] 123)]⟩:=Yy func116 rfl fun E F w=>by
 unfold Mm at h;refine wO J 12 h fun f g h=>Yl (Zwl N e.Z2 d _ g) [] [(0,.sl 1),(1,.bp 7 0)] ?_;exact oi h▸wr J 3 func116 []
theorem Zvs (d:(List be)) (e:Yp) (r:Int) (h:Bd N d e=some r) :
 Fn aB 144 ⟨8,[.S 0,.c (.cl 116 [] [7])],((0,.sl rS d)::Ma 2 3 4 5 6 e []),[(1,.box (XO 2 3 4 5 6 e) 125),(7,.box [.bp 1 0] 123)],8,.I r,[],[(1,.box (XO 2 3 4 5 6 e) 125),(7,.box [.bp 1 0] 123)]⟩:=Yy func144 rfl fun E F w=>by
 unfold Bd at h;refine wa J 11 (YE (σ:=Unit) (fun st=>(Znf e d [])) (fun st=>Zcs=some r) ?_ (fun j1=>?_))
 ·intro _ h;unfold Zcs at h;exact oi h▸wr J 4 func144 []
 refine wa J 1 (YO (σ:=Int) (fun st=>(Znf e d [(0,.S 0),(1,.c (.cl 116 [] [7])),(7,.I (d.length:Int)),(8,.I st)])) (fun n st=>MB N d e n st) (r:=r) (fun _=>rfl) ?_ (fun ih=>?_))
 ·intro n2 ih3;intro f h;unfold MB at h;refine Yv J 5 h (fun h=>wa J 2 (Yi [] (j1 () h))) fun h=>?_;refine wO J 14 h fun g i h=>YK J oS i ?_;refine wO J 1 h fun j k h=>Yl (Zmu N g e _ k) [] [(0,.bp 1 0),(1,.sl 2),(2,.sl 3),(3,.sl 4),(4,.sl 5),(5,.sl 6),(6,.bp 7 0)] ?_;exact wB J 1 h (fun h=>oi h▸wr J 6 func144 []) fun h=>wa J 7 (Yi [] (ih3 (Yh (f+1)) h))
 exact Yi [] (ih N 0 h)
theorem Zu6 (d:(List be)) (e:Yp) (r:(List be)) (h:DZ N d e=some r) :
 Fn aB 115 ⟨8,[.S 0,.c (.cl 116 [] [7])],(Ma 2 3 4 5 6 e []),[(0,.own rS d false),(1,.box (XO 2 3 4 5 6 e) 125),(7,.box [.bp 1 0] 123)],9,.S 8,[],[(8,.own rS r false),(0,.gone),(1,.box (XO 2 3 4 5 6 e) 125),(7,.box [.bp 1 0] 123)]⟩:=Yy func115 rfl fun E F w=>by
 unfold DZ at h;refine wO J 8 h fun f g h=>Ws (Zvs N d e _ g) [] [(0,.sl 0),(1,.bp 1 0),(2,.sl 2),(3,.sl 3),(4,.sl 4),(5,.sl 5),(6,.sl 6),(7,.bp 7 0)] [0] (.inr ⟨rfl,trivial⟩) ?_;refine wB J 8 h (fun h=>oi h▸wr J 6 func115 [(8,.sl 0)]) fun h=>wa J 9 (YE (σ:=(List be) × Int) (fun st=>(Zng st.1 e [(0,.S 0),(5,.I st.2)])) (fun st=>ZbT st.1 st.2=some r) ?_ (fun j1=>?_))
 ·rintro ⟨i,j⟩ h;unfold ZbT at h;refine wO J 4 h fun k l h=>VM J rS l ?_;have ⟨m,o,h⟩:=ob h;refine eCe J o ?_;refine wO J 5 h fun p q h=>VM J rS q (wa J 2 (eSl rS 9 q ?_));cases h;exact Xh J func115 [(8,.sl 9)]
 refine wa J 1 (YO (σ:=(List be) × Int × Int) (fun st=>(Zng st.1 e [(0,.S 0),(1,.c (.cl 116 [] [7])),(5,.I st.2.1),(6,.I st.2.2)])) (fun n st=>Q6 N e n st.1 st.2.1 st.2.2) (r:=r) (fun _=>rfl) ?_ (fun ih=>?_))
 ·intro n2 ih3;rintro ⟨s,t,u⟩ h;unfold Q6 at h;refine Yv J 8 h (fun h=>wa J 2 (Yi [] (j1 (s,t) h))) fun h=>?_;refine wO J 8 h fun v x h=>Xg J rS x (XS J oS x ?_);refine wO J 6 h fun y z h=>Yl (Zmu N v e _ z) [] [(0,.bp 1 0),(1,.sl 2),(2,.sl 3),(3,.sl 4),(4,.sl 5),(5,.sl 6),(6,.bp 7 0)] ?_;refine Yv J 2 h (fun h=>wa J 8 (Yi [] (ih3 (s,t,(Yh (u+1))) h))) fun h=>?_;exact wO J 6 h fun A C h=>Xg J rS C (WR J [] oS v C (wa J 12 (Yi [] (ih3 ((YA s t v),(Yh (t+1)),(Yh (u+1))) h))))
 exact Yi [] (ih N (d,f,(Yh (f+1))) h)
theorem Zws (c:Yp) (r:Yp) (h:z51 N c=some r) :
 Fn aB 51 ⟨6,[.B 0 0],((1,.sl YM c.Z2)::Xe 2 3 4 c.p' []),[(0,.box (XO 1 2 3 4 5 c) 125),(5,.own rS c.Z3 false)],11,.t [],((6,.sl YM r.Z2)::Xe 7 8 9 r.p' []),[(5,.gone),(10,.own rS r.Z3 false),(0,.box (XO 6 7 8 9 10 r) 125)]⟩:=Yy func51 rfl fun E F w=>by
 unfold z51 at h;refine wa J 11 (YX J [] oS ([c.p'.Zu]:List be) (wa J 7 (YE (σ:=(List be)) (fun st=>(Znh c c.Z3 st c.Z2 c.p' [(1,.B 6 0),(2,.S 8)])) (fun st=>Zdh N c st=some r) ?_ (fun j1=>?_))))
 ·intro d h;unfold Zdh at h;refine Yv J 6 h (fun h=>oi h▸wr J 2 func51 [(6,.sl 1),(7,.sl 2),(8,.sl 3),(9,.sl 4),(10,.sl 5)]) fun h=>?_;refine wO J 8 h fun e f h=>Yl (Wu N c c.p'.Zu 6 _ f) [] [(0,.bp 0 0),(1,.sl 1),(2,.sl 2),(3,.sl 3),(4,.sl 4),(5,.sl 5)] (YJ ?_);cases h;exact Xh J func51 [(6,.sl 9),(7,.sl 10),(8,.sl 11),(9,.sl 12),(10,.sl 13)]
 refine wa J 1 (YO (σ:=(List be) × Int) (fun st=>(Znh c c.Z3 st.1 c.Z2 c.p' [(1,.B 6 0),(2,.S 8),(13,.I st.2)])) (fun n st=>Rj N c n st.1 st.2) (r:=r) (fun _=>rfl) ?_ (fun ih=>?_))
 ·intro n12 ih12;rintro ⟨g,i⟩ h;unfold Rj at h;refine Yv J 5 h (fun h=>wa J 2 (Yi [] (j1 g h))) fun h=>wa J 18 (YE (σ:=(List be)) (fun st=>⟨[(1,.B 6 0),(3,.S 9),(13,.I i)],[(0,.box (XO 1 2 3 4 5 c) 125),(5,.own rS c.Z3 false),(6,.box [.bp 0 0] 123),(9,.own rS st true)],((1,.sl YM c.Z2)::Xe 2 3 4 c.p' []),10⟩) (fun st=>Gn N c i (Rj N c n12) st=some r) ?_ (fun j19=>?_))
  ·intro j h;unfold Gn at h;refine wO J 3 h fun k l h=>Yl (Zu4 N j _ l) [] [(0,.sl 9)] ?_;refine wO J 4 h fun m o h=>Yl (Zu5 N k _ o) [] [(0,.sl 9)] ?_;exact wO J 5 h fun p q h=>Ws (Zu6 N m c _ q) [] [(0,.sl 10),(1,.bp 0 0),(2,.sl 1),(3,.sl 2),(4,.sl 3),(5,.sl 4),(6,.sl 5),(7,.bp 6 0)] [5] (.inr ⟨rfl,⟨Zs4,trivial⟩⟩) (wa J 7 (Yi [(8,.sl 11)] (ih12 (p,(Yh (i+1))) h)))
  refine wa J 1 (YO (σ:=(List be) × Int) (fun st=>⟨[(1,.B 6 0),(2,.S 8),(3,.S 9),(13,.I i),(18,.S 1),(19,.I (c.Z2.length:Int)),(20,.I st.2)],[(0,.box (XO 1 2 3 4 5 c) 125),(5,.own rS c.Z3 false),(6,.box [.bp 0 0] 123),(8,.own rS g true),(9,.own rS st.1 true)],((1,.sl YM c.Z2)::Xe 2 3 4 c.p' []),10⟩) (fun n st=>Sw N c g i (Rj N c n12) n st.1 st.2) (r:=r) (fun _=>rfl) ?_ (fun ih=>?_))
  ·intro n14 ih21;rintro ⟨s,u⟩ h;unfold Sw at h;refine Yv J 5 h (fun h=>wa J 2 (Yi [] (j19 s h))) fun h=>?_;refine wO J 7 h fun v x h=>YK J Vr x ?_;refine wO J 12 h fun y z h=>Yl (Zw1 N c.Z2 v _ z) [] [(0,.sl 1),(1,.bp 14 0),(2,.sl 11),(3,.sl 12),(4,.sl 13)] ?_;refine Yv J 8 h (fun h=>wa J 13 (Yi [] (ih21 (s,(Yh (u+1))) h))) fun h=>?_;refine wO J 3 h fun A C h=>Ws (Po N g v.Zu _ C) [] [(0,.sl 8)] [8] (.inr ⟨rfl,trivial⟩) ?_;refine Yv J 2 h (fun h=>wa J 7 (Yi [] (ih21 (s,(Yh (u+1))) h))) fun h=>?_;refine wO J 5 h fun D G h=>Yl (Zu2 N v.ZG _ G) [] [(0,.sl 13)] ?_;have ⟨H,R,h⟩:=ob h;exact Xv J rS R (wa J 7 (Yi [(9,.sl 16)] (ih21 (H,(Yh (u+1))) h)))
  exact Yi [(9,.nil)] (ih N (([]:List be),0) h)
 exact Yi [(8,.sl 7)] (ih N (([c.p'.Zu]:List be),0) h)
theorem ZmE (c:(List Ym)) (r:Y6) (h:Pb N c=some r) :
 Fn aB 17 ⟨2,[.S 0],[(0,.sl YM c)],[(1,.abs kh)],2,.a (Zoa r),[],[(1,.abs kh)]⟩:=Yy func17 rfl fun E F w=>by
 unfold Pb at h;refine wO J 8 h fun d e h=>Yl (ZmD N c _ e) [] [(0,.sl 0),(1,.sl 1)] ?_;refine wB J 2 h (fun h=>oi h▸wr J 6 func17 []) fun h=>wa J 9 (YE (σ:=Unit) (fun st=>(Zni kh c [(2,.B 2 0)])) (fun st=>ZgD=some r) ?_ (fun j1=>?_))
 ·intro _ h;unfold ZgD at h;exact oi h▸wr J 5 func17 []
 refine wa J 1 (YO (σ:=Int) (fun st=>(Zni kh c [(0,.S 0),(2,.B 2 0),(11,.S 0),(12,.I (c.length:Int)),(13,.I st)])) (fun n st=>UJ N c n st) (r:=r) (fun _=>rfl) ?_ (fun ih=>?_))
 ·intro n12 ih15;intro f h;unfold UJ at h;refine Yv J 5 h (fun h=>wa J 2 (Yi [] (j1 () h))) fun h=>?_;refine wO J 7 h fun g i h=>YK J Vr i ?_;refine wO J 18 h fun j k h=>G6 J YM k ?_;refine wO J 1 h fun l m h=>Yl (Zwk N j g _ m) [] [(0,.sl 9),(1,.bp 7 0),(2,.sl 4),(3,.sl 5),(4,.sl 6)] (wa J 1 (YE (σ:=(List Ym) × be × (List be) × (List Ys) × (List Yj) × (List be) × be × be × Int) (fun st=>⟨[(0,.S 0),(2,.B 2 0),(4,.B 7 0),(5,.B 8 0),(11,.S 0),(12,.I (c.length:Int)),(13,.I f)],[(1,.abs kh),(2,.box [.s (str []),.s (str []),.I 0] 70),(7,.box [.s g.Zu,.sl 4,.sl 5,.sl 6] 56),(8,.box [.sl 10,.s st.2.1,.sl 11,.sl 12,.sl 13,.sl 14,.s st.2.2.2.2.2.2.1,.s st.2.2.2.2.2.2.2.1,.I st.2.2.2.2.2.2.2.2] 125),(14,.own rS st.2.2.2.2.2.1 true)],((0,.sl YM c)::Xe 4 5 6 g [(10,.sl YM st.1),(11,.sl rS st.2.2.1),(12,.sl Y9 st.2.2.2.1),(13,.sl Yz st.2.2.2.2.1)]),15⟩) (fun st=>Pd N f (UJ N c n12) g st.1 st.2.1 st.2.2.1 st.2.2.2.1 st.2.2.2.2.1 st.2.2.2.2.2.1 st.2.2.2.2.2.2.1 st.2.2.2.2.2.2.2.1 st.2.2.2.2.2.2.2.2=some r) ?_ (fun j24=>?_)))
  ·rintro ⟨o,p,q,t,u,v,x,y,z⟩ h;unfold Pd at h;refine wa J 8 (YE (σ:=(List Ym) × be × (List be) × (List Ys) × (List Yj) × (List be) × be × be × Int) (fun st=>(Znj kh g.Zu st.2.1 st.2.2.2.2.2.2.1 st.2.2.2.2.2.2.2.1 st.2.2.2.2.2.2.2.2 st.2.2.2.2.2.1 c g st.1 st.2.2.1 st.2.2.2.1 st.2.2.2.2.1 [(0,.S 0),(2,.B 2 0),(4,.B 7 0),(5,.B 8 0),(11,.S 0),(12,.I (c.length:Int)),(13,.I f)])) (fun st=>HZ N f (UJ N c n12) g st.1 st.2.1 st.2.2.1 st.2.2.2.1 st.2.2.2.2.1 st.2.2.2.2.2.1 st.2.2.2.2.2.2.1 st.2.2.2.2.2.2.2.1 st.2.2.2.2.2.2.2.2=some r) ?_ (fun j25=>?_))
   ·rintro ⟨A,C,D,G,H,R,T,U,X⟩ h;unfold HZ at h;refine wO J 3 h fun Y Z h=>Yl (Zwn N (⟨A,(⟨C,D,G,H⟩:Ym),R,(⟨T,U,X⟩:Y6)⟩:Yp) _ Z) [] [(0,.bp 8 0),(1,.sl 15),(2,.sl 16),(3,.sl 17),(4,.sl 18),(5,.sl 19)] ?_;refine wO J 4 h fun a0 b0 h=>Yl (Zwo N Y _ b0) [] [(0,.bp 8 0),(1,.sl 20),(2,.sl 21),(3,.sl 22),(4,.sl 23),(5,.sl 24)] ?_;refine wO J 6 h fun c0 e0 h=>Yl (Zwq N a0 g.ZG ([]:List YS) _ e0) [] [(0,.bp 8 0),(1,.sl 25),(2,.sl 26),(3,.sl 27),(4,.sl 28),(5,.sl 29),(6,.sl 6),(7,.nil)] ?_;refine wO J 4 h fun g0 i0 h=>Yl (Zws N c0 _ i0) [] [(0,.bp 8 0),(1,.sl 30),(2,.sl 31),(3,.sl 32),(4,.sl 33),(5,.sl 34)] ?_;exact wB J 10 h (fun h=>oi h▸wr J 9 func17 []) fun h=>wa J 7 (Yi [] (ih15 (Yh (f+1)) h))
   refine wa J 1 (YO (σ:=(List Ym) × be × (List be) × (List Ys) × (List Yj) × (List be) × be × be × Int × Int) (fun st=>(Znj kh g.Zu st.2.1 st.2.2.2.2.2.2.1 st.2.2.2.2.2.2.2.1 st.2.2.2.2.2.2.2.2.1 st.2.2.2.2.2.1 c g st.1 st.2.2.1 st.2.2.2.1 st.2.2.2.2.1 [(0,.S 0),(2,.B 2 0),(4,.B 7 0),(5,.B 8 0),(11,.S 0),(12,.I (c.length:Int)),(13,.I f),(33,.I (g.ZE.length:Int)),(34,.I st.2.2.2.2.2.2.2.2.2)])) (fun n st=>Pe N f (UJ N c n12) g n st.1 st.2.1 st.2.2.1 st.2.2.2.1 st.2.2.2.2.1 st.2.2.2.2.2.1 st.2.2.2.2.2.2.1 st.2.2.2.2.2.2.2.1 st.2.2.2.2.2.2.2.2.1 st.2.2.2.2.2.2.2.2.2) (r:=r) (fun _=>rfl) ?_ (fun ih=>?_))
   ·intro n14 ih27;rintro ⟨j0,k0,l0,m0,o0,p0,q0,s0,t0,u0⟩ h;unfold Pe at h;refine Yv J 5 h (fun h=>wa J 2 (Yi [] (j25 (j0,k0,l0,m0,o0,p0,q0,s0,t0) h))) fun h=>?_;refine wO J 14 h fun v0 x0 h=>Yl (ZmK N g.ZE u0 _ x0) [] [(0,.sl 4)] ?_;refine Yv J 1 h (fun h=>wa J 7 (Yi [] (ih27 (j0,k0,l0,m0,o0,p0,q0,s0,t0,(Yh (u0+1))) h))) fun h=>?_;refine wO J 6 h fun y0 z0 h=>YK J oS z0 ?_;exact wO J 1 h fun A0 B0 h=>Yl (Wu N (⟨j0,(⟨k0,l0,m0,o0⟩:Ym),p0,(⟨q0,s0,t0⟩:Y6)⟩:Yp) y0 9 _ B0) [] [(0,.bp 8 0),(1,.sl 15),(2,.sl 16),(3,.sl 17),(4,.sl 18),(5,.sl 19)] (wa J 6 (Yi [(15,.sl 21),(16,.sl 22),(17,.sl 23),(18,.sl 24),(19,.sl 25)] (ih27 (A0.Z2,A0.p'.Zu,A0.p'.ZE,A0.p'.ZF,A0.p'.ZG,A0.Z3,A0.Z4.ZY,A0.Z4.Zu,A0.Z4.ZZ,(Yh (u0+1))) h)))
   exact Yi [(15,.sl 10),(16,.sl 11),(17,.sl 12),(18,.sl 13),(19,.sl 14)] (ih N (o,p,q,t,u,v,x,y,z,0) h)
  refine Wj h (fun h=>wa J 2 (Yi [(10,.sl 0),(11,.sl 4),(12,.sl 5),(13,.sl 6),(14,.nil)] (j24 (c,g.Zu,g.ZE,g.ZF,g.ZG,([]:List be),(str []),(str []),0) h))) fun h=>?_;exact wO J 5 h fun C0 D0 h=>Yl (Wu N (⟨c,g,([]:List be),(⟨(str []),(str []),0⟩:Y6)⟩:Yp) g.Zu 9 _ D0) [] [(0,.bp 8 0),(1,.sl 0),(2,.sl 4),(3,.sl 5),(4,.sl 6),(5,.nil)] (wa J 1 (Yi [] (j24 (C0.Z2,C0.p'.Zu,C0.p'.ZE,C0.p'.ZF,C0.p'.ZG,C0.Z3,C0.Z4.ZY,C0.Z4.Zu,C0.Z4.ZZ) h)))
 exact Yi [] (ih N 0 h)
theorem Zwu (rc:(List Yj)->Option Bool) (rcT:(∀ (c:(List Yj)) (r:Bool),rc c=some r->Fn aB 18 ⟨1,[.S 0],[(0,.sl Yz c)],[],1,.O r,[],[]⟩)) (d:(List Yj)) (r:Bool) (h:z53 N rc d=some r) :
 Fn aB 53 ⟨1,[.S 0],[(0,.sl Yz d)],[],1,.O r,[],[]⟩:=Yy func53 rfl fun E F w=>by
 unfold z53 at h;refine wO J 7 h fun e f h=>Yl (rcT d _ f) [] [(0,.sl 0)] ?_;exact oi h▸wr J 3 func53 []
theorem Zu8 (rc:(List Yj)->Option Bool) (rcT:(∀ (d:(List Yj)) (r:Bool),rc d=some r->Fn aB 18 ⟨1,[.S 0],[(0,.sl Yz d)],[],1,.O r,[],[]⟩)) (e:(List (List Yj))) (r:Int) (h:ZbV N rc e=some r) :
 Fn aB 118 ⟨1,[.S 0,.c (.cl 53 [] [])],[(0,.sl (YH Yz) e)],[],1,.I r,[],[]⟩:=Yy func118 rfl fun E F w=>by
 unfold ZbV at h;refine wa J 11 (YE (σ:=Unit) (fun st=>⟨[],[],[(0,.sl (YH Yz) e)],1⟩) (fun st=>ZbW=some r) ?_ (fun j1=>?_))
 ·intro _ h;unfold ZbW at h;exact oi h▸wr J 4 func118 []
 refine wa J 1 (YO (σ:=Int) (fun st=>⟨[(0,.S 0),(1,.c (.cl 53 [] [])),(7,.I (e.length:Int)),(8,.I st)],[],[(0,.sl (YH Yz) e)],1⟩) (fun n st=>Mn N rc e n st) (r:=r) (fun _=>rfl) ?_ (fun ih=>?_))
 ·intro n2 ih3;intro f h;unfold Mn at h;refine Yv J 5 h (fun h=>wa J 2 (Yi [] (j1 () h))) fun h=>?_;refine wO J 14 h fun g i h=>YK J (Xi Yz) i ?_;refine wO J 1 h fun j k h=>Yl (Zwu N rc rcT g _ k) [] [(0,.sl 2)] ?_;exact wB J 1 h (fun h=>oi h▸wr J 6 func118 []) fun h=>wa J 7 (Yi [] (ih3 (Yh (f+1)) h))
 exact Yi [] (ih N 0 h)
theorem Zwt (rc:(List Yj)->Option Bool) (rcT:(∀ (d:(List Yj)) (r:Bool),rc d=some r->Fn aB 18 ⟨1,[.S 0],[(0,.sl Yz d)],[],1,.O r,[],[]⟩)) (e:(List (List Yj))) (r:Bool) (h:Zdi N rc e=some r) :
 Fn aB 52 ⟨1,[.S 0,.c (.cl 53 [] [])],[(0,.sl (YH Yz) e)],[],1,.O r,[],[]⟩:=Yy func52 rfl fun E F w=>by
 unfold Zdi at h;refine wO J 8 h fun f g h=>Yl (Zu8 N rc rcT e _ g) [] [(0,.sl 0)] ?_;exact oi h▸wr J 3 func52 []
theorem ZvQ (rc:(List Yj)->Option Bool) (rcT:(∀ (c:(List Yj)) (r:Bool),rc c=some r->Fn aB 18 ⟨1,[.S 0],[(0,.sl Yz c)],[],1,.O r,[],[]⟩)) (c:(List Yj)) (r:Bool) (h:ZgF N rc c=some r) :
 Fn aB 18 ⟨1,[.S 0],[(0,.sl Yz c)],[],1,.O r,[],[]⟩:=Yy func18 rfl fun E F w=>by
 unfold ZgF at h;refine wa J 11 (YE (σ:=Unit) (fun st=>⟨[],[],[(0,.sl Yz c)],1⟩) (fun st=>ZcN=some r) ?_ (fun j1=>?_))
 ·intro _ h;unfold ZcN at h;exact oi h▸wr J 4 func18 []
 refine wa J 1 (YO (σ:=Int) (fun st=>⟨[(5,.S 0),(6,.I (c.length:Int)),(7,.I st)],[],[(0,.sl Yz c)],1⟩) (fun n st=>MJ N rc c n st) (r:=r) (fun _=>rfl) ?_ (fun ih=>?_))
 ·intro n2 ih3;intro d h;unfold MJ at h;refine Yv J 5 h (fun h=>wa J 2 (Yi [] (j1 () h))) fun h=>?_;refine wO J 6 h fun e f h=>YK J RX f ?_;refine wB J 10 h (fun h=>oi h▸wr J 15 func18 []) fun h=>?_;refine wB J 5 h (fun h=>oi h▸wr J 10 func18 []) fun h=>?_;refine wO J 2 h fun g i h=>Yl (Zwt N rc rcT e.ZD _ i) [] [(0,.sl 3)] ?_;exact wB J 2 h (fun h=>oi h▸wr J 5 func18 []) fun h=>wa J 7 (Yi [] (ih3 (Yh (d+1)) h))
 exact Yi [] (ih N 0 h)
theorem ZvS:∀ (N:Nat) (c:(List Yj)) (r:Bool) (h:Pf N c=some r),Fn aB 18 ⟨1,[.S 0],[(0,.sl Yz c)],[],1,.O r,[],[]⟩:=by
 intro N;induction N with
 | zero=>intros;rename_i h;cases h
 | succ N ih=>intro c r h;exact ZvQ N (Pf N) ih c r h
theorem ZvR (c:(List Yj)) (r:Bool) (h:z18 N c=some r):Fn aB 18 ⟨1,[.S 0],[(0,.sl Yz c)],[],1,.O r,[],[]⟩:=ZvS N c r h
theorem Zwv (c:(List T3)) (r:(List T3)) (h:BN N c=some r) :
 Fn aB 54 ⟨1,[.S 0],[(0,.sl XJ c)],[],2,.S 1,[],[(1,.own XJ r true)]⟩:=Yy func54 rfl fun E F w=>by
 unfold BN at h;refine wa J 8 (eNi XJ c false ?_);intro nb hnb;cases nb
 ·refine wa J 5 (YX J [] Sh ([]:List T3) ?_);refine wO J 1 h fun d e h=>Xv J XJ e ?_;exact oi h▸wr J 2 func54 [(1,.sl 2)]
 ·obtain rfl:=hnb rfl;replace h:(some ([]:List T3):Option (List T3))=some r:=h;exact oi h▸wr J 6 func54 [(1,.nil)]
theorem Zwx (c:T0) (d:Y5) (r:Bool) (h:Zdk N c d=some r) :
 Fn aB 57 ⟨4,[.a (cC0 0 1 2 c),.B 3 0],[(0,.sl XJ c.Zz)],[(3,.box (X2 d) 102)],4,.O r,[],[(3,.box (X2 d) 102)]⟩:=Yy func57 rfl fun E F w=>by
 unfold Zdk at h;exact oi h▸wr J 14 func57 []
theorem Zww (d:(List T0)) (e:Y5) (r:Int) (h:BO N d e=some r) :
 Fn aB 56 ⟨2,[.S 0,.c (.cl 57 [] [1])],[(0,.sl kx d)],[(1,.box (X2 e) 102)],2,.I r,[],[(1,.box (X2 e) 102)]⟩:=Yy func56 rfl fun E F w=>by
 unfold BO at h;refine wa J 11 (YE (σ:=Unit) (fun st=>⟨[],[(1,.box (X2 e) 102)],[(0,.sl kx d)],2⟩) (fun st=>Zdj=some r) ?_ (fun j1=>?_))
 ·intro _ h;unfold Zdj at h;exact oi h▸wr J 4 func56 []
 refine wa J 1 (YO (σ:=Int) (fun st=>⟨[(0,.S 0),(1,.c (.cl 57 [] [1])),(7,.I (d.length:Int)),(8,.I st)],[(1,.box (X2 e) 102)],[(0,.sl kx d)],2⟩) (fun n st=>MV N d e n st) (r:=r) (fun _=>rfl) ?_ (fun ih=>?_))
 ·intro n2 ih3;intro f h;unfold MV at h;refine Yv J 5 h (fun h=>wa J 2 (Yi [] (j1 () h))) fun h=>?_;refine wO J 14 h fun g i h=>YK J ZfG i ?_;refine wO J 1 h fun j k h=>Yl (Zwx N g e _ k) [] [(0,.sl 3),(1,.sl 4),(2,.sl 5),(3,.bp 1 0)] ?_;exact wB J 1 h (fun h=>oi h▸wr J 6 func56 []) fun h=>wa J 7 (Yi [] (ih3 (Yh (f+1)) h))
 exact Yi [] (ih N 0 h)
theorem ZwB (c:T3) (d:Y5) (r:Bool) (h:Zdo N c d=some r) :
 Fn aB 59 ⟨1,[.a (VZ c),.B 0 0],[],[(0,.box (X2 d) 102)],1,.O r,[],[(0,.box (X2 d) 102)]⟩:=Yy func59 rfl fun E F w=>by
 unfold Zdo at h;exact oi h▸wr J 14 func59 []
theorem ZwA (d:(List T3)) (e:Y5) (r:Int) (h:BR N d e=some r) :
 Fn aB 58 ⟨2,[.S 0,.c (.cl 59 [] [1])],[(0,.sl XJ d)],[(1,.box (X2 e) 102)],2,.I r,[],[(1,.box (X2 e) 102)]⟩:=Yy func58 rfl fun E F w=>by
 unfold BR at h;refine wa J 11 (YE (σ:=Unit) (fun st=>(zz6 e d [])) (fun st=>Zdn=some r) ?_ (fun j1=>?_))
 ·intro _ h;unfold Zdn at h;exact oi h▸wr J 4 func58 []
 refine wa J 1 (YO (σ:=Int) (fun st=>(zz6 e d [(0,.S 0),(1,.c (.cl 59 [] [1])),(7,.I (d.length:Int)),(8,.I st)])) (fun n st=>MY N d e n st) (r:=r) (fun _=>rfl) ?_ (fun ih=>?_))
 ·intro n2 ih3;intro f h;unfold MY at h;refine Yv J 5 h (fun h=>wa J 2 (Yi [] (j1 () h))) fun h=>?_;refine wO J 14 h fun g i h=>YK J Sh i ?_;refine wO J 1 h fun j k h=>Yl (ZwB N g e _ k) [] [(0,.bp 1 0)] ?_;exact wB J 1 h (fun h=>oi h▸wr J 6 func58 []) fun h=>wa J 7 (Yi [] (ih3 (Yh (f+1)) h))
 exact Yi [] (ih N 0 h)
theorem ZmL (c:Y5) (d:(List T0)) (e:Int) (r:Vl × Bool) (h:Pl N c d e=some r) :
 Fn aB 55 ⟨3,[.a (X2 c),.B 0 0,.B 2 0],[(1,.sl kx d)],[(0,.box [.sl 1] 29),(2,.box [.I e] 3)],3,.t [.inr (GU r.1),.inl (.b r.2)],[],[(0,.box [.sl 1] 29),(2,.box [.I e] 3)]⟩:=Yy func55 rfl fun E F w=>by
 unfold Pl at h;refine wB J 13 h (fun h=>oi h▸wr J 9 func55 []) fun h=>?_;refine wO J 6 h fun f g h=>YK J ZfG g (wa J 11 (YE (σ:=be × (List T3) × Int × (List T1) × (List (Int × Int))) (fun st=>⟨[(3,.B 3 0),(4,.B 4 0),(6,.B 9 0)],[(0,.box [.sl 1] 29),(2,.box [.I e] 3),(3,.box (X2 c) 102),(4,.box [.I 0,.I 0] 146),(9,.box [.s st.1,.sl 10,.I st.2.2.1,.sl 11,.sl 12] 144)],[(1,.sl kx d),(10,.sl XJ st.2.1)],13⟩) (fun st=>Gq N c st.1 st.2.1 st.2.2.1 st.2.2.2.1 st.2.2.2.2=some r) ?_ (fun j1=>?_)))
 ·rintro ⟨i,j,k,l,m⟩ h;unfold Gq at h;refine wO J 5 h fun o p h=>Yl (ZwA N j c _ p) [] [(0,.sl 10),(1,.bp 3 0)] ?_;refine Yv J 15 h (fun h=>wa J 11 (YJ ?_)) fun h=>?_
  ·cases h;exact Xh J func55 []
  refine wO J 3 h fun q u h=>YK J Sh u (wa J 7 (YJ ?_));cases h;exact Xh J func55 []
 refine Wj h (fun h=>wa J 2 (Yi [(10,.sl 6),(11,.sl 7),(12,.sl 8)] (j1 (f.Zu,f.Zz,f.ZN,f.ZO.ZL,f.ZO.ZM) h))) fun h=>?_;refine wO J 5 h fun v x h=>Yl (Zww N d c _ x) [] [(0,.sl 1),(1,.bp 3 0)] ?_;have ⟨y,z,h⟩:=ob h;exact YK J ZfG z (wa J 2 (YJ (Yi [(10,.sl 11),(11,.sl 12),(12,.sl 13)] (j1 (y.Zu,y.Zz,y.ZN,y.ZO.ZL,y.ZO.ZM) h))))
theorem HN (c:Vl) (d:Vl) (e:Int) (r:T1) (h:Qd N c d e=some r) :
 Fn aB 119 ⟨0,[.a (GU c),.a (GU d),.I e],[],[],0,.a (cC1 r),[],[]⟩:=Yy func119 rfl fun E F w=>by
 unfold Qd at h;exact oi h▸wr J 22 func119 []
theorem ZwC (d:be) (e:Vl) (f:Vl) (r:(List T1)) (h:BS N d e f=some r) :
 Fn aB 60 ⟨0,[.c (.s d),.a (GU e),.a (GU f)],[],[],1,.S 0,[],[(0,.own UD r true)]⟩:=Yy func60 rfl fun E F w=>by
 unfold BS at h;refine wB J 21 h (fun h=>?_) fun h=>?_
 ·refine wO J 6 h fun g i h=>Yl (HN N e f 1 _ i) [] [] (YX J [] He ([g]:List T1) ?_);exact oi h▸wr J 2 func60 [(0,.sl 2)]
 refine wB J 6 h (fun h=>?_) fun h=>?_
 ·refine wO J 6 h fun j k h=>Yl (HN N e f 0 _ k) [] [] (YX J [] He ([j]:List T1) ?_);exact oi h▸wr J 2 func60 [(0,.sl 2)]
 refine wB J 6 h (fun h=>?_) fun h=>?_
 ·refine wO J 6 h fun l m h=>Yl (HN N f e 1 _ m) [] [] (YX J [] He ([l]:List T1) ?_);exact oi h▸wr J 2 func60 [(0,.sl 2)]
 refine wB J 6 h (fun h=>?_) fun h=>?_
 ·refine wO J 6 h fun o p h=>Yl (HN N f e 0 _ p) [] [] (YX J [] He ([o]:List T1) ?_);exact oi h▸wr J 2 func60 [(0,.sl 2)]
 refine wO J 8 h fun q t h=>Yl (HN N e f 0 _ t) [] [] ?_;refine wO J 3 h fun u v h=>Yl (HN N f e 0 _ v) [] [] (YX J [] He ([q,u]:List T1) (wa J 1 (YJ ?_)));cases h;exact Xh J func60 [(0,.sl 2)]
theorem ZvT (e:(List Ys)) (r:(List T0) × be × Int) (h:H2 N e=some r) :
 Fn aB 19 ⟨2,[.S 0],[(0,.sl Y9 e)],[(1,.abs kh)],3,.t [.inl (.sl 2),.inl (.s r.2.1),.inl (.I r.2.2)],[],[(2,.own rR0 r.1 true),(1,.abs kh)]⟩:=Yy func19 rfl fun E F w=>by
 unfold H2 at h;refine wa J 9 (YX J [] oS ([(str [65])]:List be) (wa J 2 (YX J [3] Vr ([(⟨(str [80]),([(str [65])]:List be),e,([]:List Yj)⟩:Ym)]:List Ym) ?_)));have ⟨f,g,h⟩:=ob h;refine Yl (ZmE N ([(⟨(str [80]),([(str [65])]:List be),e,([]:List Yj)⟩:Ym)]:List Ym) _ g) [4] [(0,.sl 4),(1,.sl 1)] ?_;refine wB J 3 h (fun h=>oi h▸wr J 7 func19 [(2,.nil)]) fun h=>wa J 13 (YE (σ:=(List T0) × Int) (fun st=>(Znk kh st.1 e [(0,.S 0),(2,.B 2 0),(5,.I st.2)])) (fun st=>Bj N e st.1 st.2=some r) ?_ (fun j1=>?_))
 ·rintro ⟨ds,c⟩ h;unfold Bj at h;refine wB J 6 h (fun h=>oi h▸wr J 7 func19 [(2,.nil)]) fun h=>RG (R:=ky) (R':=kv) (xs:=ds) (fr:=true) (ds.map Db) 5 rfl (by rw [aM]) ZpT (wa J 9 (YE (σ:=List GG × List T5) (fun st=>⟨[(2,.B 2 0)],[(1,.abs kh),(2,.box [.sl 5] 29),(5,.own kv st.1 true)],[(0,.sl Y9 e)],6⟩) (fun st=>Ut (SD (ds.map WK) st.2 st.1) (bif Nat.beq st.2.length (ds.map WK).length then some (Tr (ds.map WK) st.2,str [],0) else none)=some r) ?_ (fun j3=>?_)))
  ·rintro ⟨gs,G⟩ h;have ⟨hI,h⟩:=ZaZ h;replace hI:SD (ds.map WK) G gs:=hI;have ⟨hb,h⟩:=og h;cases h;have ⟨e1,e2⟩:=Zql hI (Zd hb);exact RG (R:=kv) (R':=rR0) (xs:=gs) (fr:=true) (Tr (ds.map WK) G) 5 rfl e1 e2 (wr J 7 func19 [(2,.sl 5)])
  refine wa J 1 (YO (σ:=List GG × List T5 × Int) (fun st=>⟨[(2,.B 2 0),(51,.S 0),(52,.I (e.length:Int)),(53,.I st.2.2)],[(1,.abs kh),(2,.box [.sl 5] 29),(5,.own kv st.1 true)],[(0,.sl Y9 e)],6⟩) (fun n st=>Ut (SD (ds.map WK) st.2.1 st.1) (TM N e (ds.map WK) n st.2.2 st.2.1)) (r:=r) (fun _=>Zqd _) ?_ (fun ih=>?_))
  ·intro n9 ih11;rintro ⟨gs,G,i⟩ h;have ⟨hI,h⟩:=ZaZ h;replace hI:SD (ds.map WK) G gs:=hI;unfold TM at h;obtain ⟨K,h⟩|⟨K,h⟩:=UY h
   ·exact wH J 5 K (wa J 2 (Yi [] (j3 (gs,G) (QK hI h))))
   refine wH J 5 K ?_;refine wO J 7 h fun m hm h=>YK J UB hm ?_;have ⟨hi,h⟩:=og h;replace hi:i=(G.length:Int):=lZ hi;have ⟨d,hd,h⟩:=ob h;have ⟨x,hx,j,hn⟩:=Zqm hI hd hi;refine wO J 15 h fun p hp h=>RG (R:=kv) (R':=kv) (xs:=gs) (fr:=true) (gs.set i.toNat (XE x Xn none Xn none)) 5 rfl (by rw [List.length_set]) (ZpZ j hn) (Xg J kv (Ht (y:=XE x Xn none Xn none) hx) (QH 5 (fun L=>?_)));refine eZn UD (eZn R3 (wa J 11 (WY (L:=L) 11 5 (i.toNat * kv.sz) (YE (σ:=G1 × G1 × List T1 × List (Int × Int)) (fun st=>⟨[(2,.B 2 0),(9,.B 10 0),(11,.P 11 3),(51,.S 0),(52,.I (e.length:Int)),(53,.I i)],[(1,.abs kh),(2,.box [.sl 5] 29),(5,.own kv (gs.set i.toNat (XE x st.1 none st.2.1 none)) true),(10,.box [.s m.Zu,.sl 7,.sl 8] 97),(12,.own UD st.2.2.1 true),(13,.own R3 st.2.2.2 true)],((0,.sl Y9 e)::(5,.fn (Xy L))::XU 7 8 m [(11,.fn (Sb L (i.toNat * kv.sz))),(12,.fn (Xy st.1)),(13,.fn (Xy st.2.1))]),14⟩) (fun st=>((TN st.2.2.1 N (0:Int)).bind fun ok=>bif ok then TM N e (ds.map WK) n9 (Yh (i+1)) (G++[⟨st.2.2.1,st.2.2.2⟩]) else some ([],m.Zu,2))=some r) ?_ (fun j4=>?_)))))
   ·rintro ⟨u,v,D,E⟩ h;refine LV (L:=L) 11 5 (i.toNat * kv.sz) (wm J (LQ 11 (wm J (PE (u:=u) J Dx 12 (Ht (y:=XE x u none v none) hx) (wm J (YO (σ:=Int) (fun st=>⟨[(2,.B 2 0),(9,.B 10 0),(51,.S 0),(52,.I (e.length:Int)),(53,.I i),(116,.S 12),(117,.I (D.length:Int)),(118,.I st)],[(1,.abs kh),(2,.box [.sl 5] 29),(5,.own kv (gs.set i.toNat (XE x u none v none)) true),(10,.box [.s m.Zu,.sl 7,.sl 8] 97),(12,.own UD D true),(13,.own R3 E true)],((0,.sl Y9 e)::XU 7 8 m [(12,.fn (Xy u)),(13,.fn (Xy v))]),14⟩) (fun n st=>(TN D n st).bind fun ok=>bif ok then TM N e (ds.map WK) n9 (Yh (i+1)) (G++[⟨D,E⟩]) else some ([],m.Zu,2)) (r:=r) (fun _=>rfl) ?_ (fun ih=>?_)))))))
    ·intro n6 ih6;intro k h;have ⟨ok,hok,h⟩:=ob h;replace hok:TN D (n6+1) k=some ok:=hok;unfold TN at hok;rcases UY hok with ⟨K,hok⟩ | ⟨K,hok⟩
     ·cases hok;replace h:TM N e (ds.map WK) n9 (Yh (i+1)) (G++[⟨D,E⟩])=some r:=h;have hs:SD (ds.map WK) (G++[⟨D,E⟩]) (gs.set i.toNat (XE x u (some D) v (some E))):=Zqn hI j hi;refine wH J 5 K (eZd (R:=kv) (Rb:=UD) (fr:=true) (xs:=gs.set i.toNat (XE x u none v none)) (ys:=D) (x:=XE x u none v none) (u:=u) (XE x u (some D) v none) i.toNat 5 12 (Ze7 j) (fun F w vs hr hs=>ZpU hr hs) rfl ?_);refine eZd (R:=kv) (Rb:=R3) (fr:=true) (xs:=(gs.set i.toNat (XE x u none v none)).set i.toNat (XE x u (some D) v none)) (ys:=E) (x:=XE x u (some D) v none) (u:=v) (XE x u (some D) v (some E)) i.toNat 5 13 (Ze7 (Ze7 j)) (fun F w vs hr hs=>ZpV hr hs) rfl ?_;exact WS (R:=kv) (fr:=true) (xs:=((gs.set i.toNat (XE x u none v none)).set i.toNat (XE x u (some D) v none)).set i.toNat (XE x u (some D) v (some E))) (gs.set i.toNat (XE x u (some D) v (some E))) 5 (by rw [hK,hK]) (wm J (Yi [] (ih11 (gs.set i.toNat (XE x u (some D) v (some E)),G++[⟨D,E⟩],Yh (i+1)) (QK hs h))))
     refine wH J 5 K ?_;have ⟨dd,hdd,hok⟩:=ob hok;refine wm J (Xg J UD hdd (wm J (XS J He hdd ?_)));rcases oc hok with ⟨hc1,hok⟩ | ⟨hc1,hok⟩
     ·cases hok;replace h:some ([],m.Zu,2)=some r:=h;cases h;exact wa J 9 (eK hc1 (wm J (YJ (Xh J func19 [(2,.nil)]))))
     refine wa J 9 (eK hc1 ?_);rcases oc hok with ⟨hc2,hok⟩ | ⟨hc2,hok⟩
     ·cases hok;replace h:some ([],m.Zu,2)=some r:=h;cases h;exact wa J 5 (eK hc2 (wm J (YJ (Xh J func19 [(2,.nil)]))))
     refine wa J 5 (eK hc2 (wm J (Yi [] (ih6 (Yh (k+1)) ?_))));show (TN D n6 (Yh (k+(1:Int)))).bind _=some r;rw [hok];exact h
    exact Yi [] (ih N 0 h)
   refine wa J 1 (YO (σ:=G1 × G1 × List T1 × List (Int × Int) × Int) (fun st=>⟨[(2,.B 2 0),(9,.B 10 0),(10,.c (.cl 55 [] [2,9])),(11,.P 11 3),(51,.S 0),(52,.I (e.length:Int)),(53,.I i),(64,.S 8),(65,.I (m.ZA.length:Int)),(66,.I st.2.2.2.2)],[(1,.abs kh),(2,.box [.sl 5] 29),(5,.own kv (gs.set i.toNat (XE x st.1 none st.2.1 none)) true),(9,.box [.I i] 3),(10,.box [.s m.Zu,.sl 7,.sl 8] 97),(12,.own UD st.2.2.1 true),(13,.own R3 st.2.2.2.1 true)],((0,.sl Y9 e)::(5,.fn (Xy L))::XU 7 8 m [(11,.fn (Sb L (i.toNat * kv.sz))),(12,.fn (Xy st.1)),(13,.fn (Xy st.2.1))]),14⟩)
    (fun n st=>(UK N (ds.map WK) i m.ZA n st.2.2.2.2 st.2.2.1 st.2.2.2.1).bind fun p=>(TN p.1 N (0:Int)).bind fun ok=>bif ok then TM N e (ds.map WK) n9 (Yh (i+1)) (G++[⟨p.1,p.2⟩]) else some ([],m.Zu,2)) (r:=r) (fun _=>rfl) ?_ (fun ih=>?_))
   ·intro n4 ih4;rintro ⟨u,v,D,E,k⟩ h;have ⟨p',hp',h⟩:=ob h;replace hp':UK N (ds.map WK) i m.ZA (n4+1) k D E=some p':=hp';unfold UK at hp';rcases UY hp' with ⟨K,hp'⟩ | ⟨K,hp'⟩
    ·cases hp';exact wH J 5 K (wa J 2 (Yi [] (j4 (u,v,D,E) h)))
    refine wH J 5 K ?_;have hv:(gs.set i.toNat (XE x u none v none)).map Si=ds.map WK:=Zp0 hI.1 j rfl;have ⟨a,ha,hp'⟩:=ob hp';refine wa J 6 (YK J PZ ha ?_);have ⟨y1,hy1,hp'⟩:=ob hp';rw [<- hv] at hy1;refine wa J 9 (Ws (Fn.see (R:=kv) (R':=kx) (φ:=Si) (xs:=gs.set i.toNat (XE x u none v none)) rfl ZjH (ZmL N a.Zx _ i _ hy1)) [] [(0,.bp 2 0),(1,.sl 5),(2,.bp 9 0)] [5] (.inr ⟨rfl,trivial⟩) ?_);have ⟨y2,hy2,hp'⟩:=ob hp';rw [<- hv] at hy2;refine wa J 12 (Ws (Fn.see (R:=kv) (R':=kx) (φ:=Si) (xs:=gs.set i.toNat (XE x u none v none)) rfl ZjH (ZmL N a.Zy _ i _ hy2)) [] [(0,.bp 2 0),(1,.sl 5),(2,.bp 9 0)] [5] (.inr ⟨rfl,trivial⟩) ?_);rcases oc hp' with ⟨hc2,hp'⟩ | ⟨hc2,hp'⟩
    ·have ⟨E',hE',hp'⟩:=ob hp';refine wa J 12 (eK hc2 (LV (L:=L) 11 5 (i.toNat * kv.sz) (wm J (LQ 11 (wm J (PE (u:=v) J Dx 13 (Ht (y:=XE x u none v none) hx) (wm J (YX J [] (oP oD oD) ([(y1.1.x',y2.1.x')]:List (Int × Int)) (Xv J R3 hE' (wm J (LQ 11 (wm J (LR (QH 19 (fun v'=>?_)))))))))))))));refine RF J [] Dx (XE x u none v' none) (Ht (y:=XE x u none v none) hx) (WY (L:=L) 11 5 (i.toNat * kv.sz) (WS (R:=kv) (fr:=true) (xs:=YA (gs.set i.toNat (XE x u none v none)) i (XE x u none v' none)) (gs.set i.toNat (XE x u none v' none)) 5 (by rw [YA,hK]) (wm J (Yi [(13,.sl 19)] (ih4 (u,v',D,E',Yh (k+1)) ?_)))));show (UK N (ds.map WK) i m.ZA n4 (Yh (k+1)) D E').bind _=some r;rw [hp'];exact h
    ·have ⟨dd,hdd,hp'⟩:=ob hp';have ⟨D',hD',hp'⟩:=ob hp';refine wa J 12 (eK hc2 (LV (L:=L) 11 5 (i.toNat * kv.sz) (wm J (LQ 11 (wm J (PE (u:=u) J Dx 12 (Ht (y:=XE x u none v none) hx) (wm J (Yl (ZwC N a.Op y1.1 y2.1 _ hdd) [] [] (Xv J UD hD' (wm J (LQ 11 (wm J (LR (QH 19 (fun u'=>?_)))))))))))))));refine RF J [] Dx (XE x u' none v none) (Ht (y:=XE x u none v none) hx) (WY (L:=L) 11 5 (i.toNat * kv.sz) (WS (R:=kv) (fr:=true) (xs:=YA (gs.set i.toNat (XE x u none v none)) i (XE x u' none v none)) (gs.set i.toNat (XE x u' none v none)) 5 (by rw [YA,hK]) (wm J (Yi [(12,.sl 19)] (ih4 (u',v,D',E,Yh (k+1)) ?_)))));show (UK N (ds.map WK) i m.ZA n4 (Yh (k+1)) D' E).bind _=some r;rw [hp'];exact h
   refine Yi [] (ih N (Xn,Xn,[],[],0) ?_);show (UK N (ds.map WK) i m.ZA N 0 [] []).bind _=some r;rw [hp];exact h
  exact Yi [] (ih N (ds.map Db,[],0) (QK (Zqk ds) h))
 refine wa J 1 (YO (σ:=(List T0) × Int × Int) (fun st=>(Znk kh st.1 e [(0,.S 0),(2,.B 2 0),(5,.I st.2.1),(27,.S 0),(28,.I (e.length:Int)),(29,.I st.2.2)])) (fun n st=>Pg N e n st.1 st.2.1 st.2.2) (r:=r) (fun _=>rfl) ?_ (fun ih=>?_))
 ·intro n12 ih18;rintro ⟨ds,c,i⟩ h;unfold Pg at h;refine Yv J 5 h (fun h=>wa J 2 (Yi [] (j1 (ds,c) h))) fun h=>?_;refine wO J 6 h fun m hm h=>YK J UB hm ?_;refine wO J 11 h fun fs hfs h=>Yl (Zwv N m.Zz _ hfs) [] [(0,.sl 7)] (wa J 2 (YX J [10] ZsG ([(⟨m.Zu,fs,c,(⟨([]:List T1),([]:List (Int × Int))⟩:T5)⟩:T0)]:List T0) ?_));have ⟨ds',hds',h⟩:=ob h;exact Xv J ky hds' (wa J 1 (YJ (wa J 13 (Yi [(5,.sl 12)] (ih18 (ds',(Yh (c+(m.Zz.length:Int))),(Yh (i+1))) h)))))
 exact Yi [(5,.nil)] (ih N (([]:List T0),0,0) h)
theorem Zvh (c:Ys) (d:Yj) (r:Bool) (h:Zb6 N c d=some r) :
 Fn aB 126 ⟨5,[.a [.s c.Zu,.sl 0,.sl 1],.B 2 0],(XU 0 1 c [(3,.sl rS d.To),(4,.sl (YH Yz) d.ZD)]),[(2,.box [.I d.Zt,.s d.ZB,.sl 3,.s d.Zu,.s d.As,.I d.ZC,.sl 4] 132)],5,.O r,[],[(2,.box [.I d.Zt,.s d.ZB,.sl 3,.s d.Zu,.s d.As,.I d.ZC,.sl 4] 132)]⟩:=Yy func126 rfl fun E F w=>by
 unfold Zb6 at h;exact oi h▸wr J 14 func126 []
theorem Zvg (d:(List Ys)) (e:Yj) (r:Int) (h:Zb4 N d e=some r) :
 Fn aB 125 ⟨4,[.S 0,.c (.cl 126 [] [1])],[(0,.sl Y9 d),(2,.sl rS e.To),(3,.sl (YH Yz) e.ZD)],[(1,.box [.I e.Zt,.s e.ZB,.sl 2,.s e.Zu,.s e.As,.I e.ZC,.sl 3] 132)],4,.I r,[],[(1,.box [.I e.Zt,.s e.ZB,.sl 2,.s e.Zu,.s e.As,.I e.ZC,.sl 3] 132)]⟩:=Yy func125 rfl fun E F w=>by
 unfold Zb4 at h;refine wa J 11 (YE (σ:=Unit) (fun st=>(zz7 e.Zt e.ZB e.Zu e.As e.ZC d e.To e.ZD [])) (fun st=>Zb5=some r) ?_ (fun j1=>?_))
 ·intro _ h;unfold Zb5 at h;exact oi h▸wr J 4 func125 []
 refine wa J 1 (YO (σ:=Int) (fun st=>(zz7 e.Zt e.ZB e.Zu e.As e.ZC d e.To e.ZD [(0,.S 0),(1,.c (.cl 126 [] [1])),(7,.I (d.length:Int)),(8,.I st)])) (fun n st=>Mt N d e n st) (r:=r) (fun _=>rfl) ?_ (fun ih=>?_))
 ·intro n2 ih3;intro f h;unfold Mt at h;refine Yv J 5 h (fun h=>wa J 2 (Yi [] (j1 () h))) fun h=>?_;refine wO J 14 h fun g i h=>YK J UB i ?_;refine wO J 1 h fun j k h=>Yl (Zvh N g e _ k) [] [(0,.sl 5),(1,.sl 6),(2,.bp 1 0),(3,.sl 2),(4,.sl 3)] ?_;exact wB J 1 h (fun h=>oi h▸wr J 6 func125 []) fun h=>wa J 7 (Yi [] (ih3 (Yh (f+1)) h))
 exact Yi [] (ih N 0 h)
abbrev NX:=(List Int ⊕ G1) × List T9 × List VY
abbrev ko:kS NX:=rP (XX rA) (rP (YH P0) (YH Hj))
abbrev PX:kX ko:=oP (Hc rA) (oP (Xi P0) (Xi Hj))
abbrev XG:NX:=(.inl [],[],[])
abbrev QU:NX:=(.inr Xn,[],[])
abbrev Xo (n:YU):NX:=(.inl n.Yb,n.Yc,n.Yd)
theorem ZjQ {α:Type} {xs:List α} {x:α} {n:Nat} (h:xs.length=n):idx (xs++[x]) (n:Int)=some x:=by unfold idx;rw [lY (dU n),lV,bD,Zp (by omega),h,br];rfl
theorem ZtN {α:Type} {xs:List α} {x y:α} {n:Nat} (h:xs.length=n):YA (xs++[x]) (n:Int) y=xs++[y]:=by unfold YA;rw [bD,gD _ _ (by omega),h,br];rfl
theorem QI {α:Type} {xs ys:List α} {x:α} {n:Nat} (h:xs.length=n):idx (xs++[x]++ys) (n:Int)=some x:=by unfold idx;rw [lY (dU n),lV,bD,aU,Zp (by omega),h,br];rfl
theorem Hu {α:Type} {xs ys:List α} {x y:α} {n:Nat} (h:xs.length=n):YA (xs++[x]++ys) (n:Int) y=xs++[y]++ys:=by unfold YA;rw [bD,aU,gD _ _ (by omega),h,br,aU];rfl
theorem ZaY {α:Type} {xs ys zs:List α} {x:α} {n:Nat} (h:xs.length=n):idx (xs++[x]++ys++zs) (n:Int)=some x:=by rw [aU (xs++[x])];exact QI h
theorem ZtP {α:Type} {xs ys zs:List α} {x y:α} {n:Nat} (h:xs.length=n):YA (xs++[x]++ys++zs) (n:Int) y=xs++[y]++(ys++zs):=by rw [aU (xs++[x])];exact Hu h
theorem ZaV {α:Type} {xs ys:List α} {x:α}:(xs++[x]++ys)[xs.length]? = some x:=by rw [aU,Zp (Zq _),br];rfl
theorem sett_mid {α:Type} {xs ys:List α} {x y:α}:(xs++[x]++ys).set xs.length y=xs++[y]++ys:=by rw [aU,gD _ _ (Zq _),br,aU];rfl
theorem ZmF (nm:be) (xs:List NX) (n:Nat) (hn:xs.length=n) (hb:n+1<=lim) :
 Fn aB 128 ⟨5,[.B 0 0],[],[(0,.box [.s nm,.sl 1,.sl 2,.sl 3,.sl 4] 78),(4,.own ko xs false)],6,.I (n:Int),[],[(4,.gone),(5,.own ko (xs++[XG]) false),(0,.box [.s nm,.sl 1,.sl 2,.sl 3,.sl 5] 78)]⟩:=by
 have hl:lim=4294967296:=rfl;have h:Y7 xs [XG]=some (xs++[XG]):=by unfold Y7;rw [show aY (xs.length+[XG].length) lim=true from ai (by rw [hn];exact hb)];rfl
 have e:Yh (((xs++[XG]).length:Int)-1)=(n:Int):=by rw [ah,hn,show ((n+[XG].length:Nat):Int)-1=(n:Int) by simp];exact U9 (by omega) (by omega)
 rw [<- e];refine Yy func128 rfl (fun E F w=>?_);exact wa J 12 (YX J [] PX ([XG]:List NX) (Xv J ko h (wr J 14 func128 [(5,.sl 6)])))
theorem Zsj (nm:be) (xs:List NX) (n:Nat) (hn:xs.length=n) (hb:n+1<=lim) :
 Fn aB 128 ⟨5,[.B 0 0],[],[(0,.box [.s nm,.sl 1,.sl 2,.sl 3,.sl 4] 78),(4,.own ko xs false)],6,.I (n:Int),[],[(4,.gone),(5,.own ko (xs++[QU]) false),(0,.box [.s nm,.sl 1,.sl 2,.sl 3,.sl 5] 78)]⟩:=by
 have hl:lim=4294967296:=rfl;have h:Y7 xs [QU]=some (xs++[QU]):=by unfold Y7;rw [show aY (xs.length+[QU].length) lim=true from ai (by rw [hn];exact hb)];rfl
 have e:Yh (((xs++[QU]).length:Int)-1)=(n:Int):=by rw [ah,hn,show ((n+[QU].length:Nat):Int)-1=(n:Int) by simp];exact U9 (by omega) (by omega)
 rw [<- e];refine Yy func128 rfl (fun E F w=>?_);exact wa J 12 (YX J [] PX ([QU]:List NX) (Xv J ko h (wr J 14 func128 [(5,.sl 6)])))
theorem ZfT (nm:be) (roles:List be) (d:be) (r:Int) (h:TK N roles d=some r) :
 Fn aB 129 ⟨5,[.B 0 0,.c (.s d)],[(1,.sl rS roles)],[(0,.box [.s nm,.sl 1,.sl 2,.sl 3,.sl 4] 78)],5,.I r,[],[(0,.box [.s nm,.sl 1,.sl 2,.sl 3,.sl 4] 78)]⟩:=Yy func129 rfl fun E F w=>by
 exact wa J 12 (Yl (Zmy N roles d _ h) [] [(0,.sl 1)] (wr J 2 func129 []))
theorem Zn5:ItB aB 167 1 (by decide) false:=by
 refine ItB.intro _ _ func167 rfl rfl (by decide) (fun cs l F0 Jj hlm stab rounds E w hg hJ=>?_);have hl:lim=4294967296:=rfl;have hz:0 < 1:=by decide
 refine Wc.h (c:=.co _ _) ?_;refine wa J 8 ?_;refine eIl (fun m=>⟨[(3,.I (bF.wrap ((m:Int)-1))),(0,.c (.v (.func (.yield l) #[] #[]))),(1,.P 0 0)],[],SS 1 hz cs,2⟩) ?_ ?_ (fun ih=>LU ih) hg hJ
 ·intro E w hg hJ;exact wa J 6 (eK (b:=decide (bF.wrap (((0:Nat):Int)-1)>=0)) (t:=false) (by decide) (wa J 2 (eRi J func167 stab hJ)))
 ·intro m hm ih E w hg hJ;have e:bF.wrap (((m+1:Nat):Int)-1)=(m:Int):=by rw [show ((m+1:Nat):Int)-1=(m:Int) by omega];exact U9 (by omega) (by omega)
  refine wa J 6 (eK (b:=decide (bF.wrap (((m+1:Nat):Int)-1)>=0)) (t:=true) (lY (by omega)) ?_);refine wa J 5 (eYr J stab rounds hg hm hJ e fun cc E' w' hg' hJ'=>?_);have ih':=ih E' w' hg' hJ';rw [show bF.wrap ((m:Int)-1)=bF.wrap (bF.wrap (((m+1:Nat):Int)-1)-1) by rw [e]] at ih';exact wa J 10 (LU ih')
theorem Zn3:ItB aB 124 7 (by decide) true:=by
 refine ItB.intro _ _ func124 rfl rfl (by decide) (fun cs l F0 Jj hlm stab rounds E w hg hJ=>?_);have hl:lim=4294967296:=rfl;have hz:0 < 7:=by decide
 refine Wc.h (c:=.co _ _) ?_;refine wa J 8 ?_;refine eIl (fun m=>⟨[(3,.I (bF.wrap ((m:Int)-1))),(0,.c (.v (.func (.yield l) #[] #[]))),(1,.P 0 0)],[],SS 7 hz cs,2⟩) ?_ ?_ (fun ih=>LU ih) hg hJ
 ·intro E w hg hJ;exact wa J 6 (eK (b:=decide (bF.wrap (((0:Nat):Int)-1)>=0)) (t:=false) (by decide) (wa J 2 (eRi J func124 stab hJ)))
 ·intro m hm ih E w hg hJ;have e:bF.wrap (((m+1:Nat):Int)-1)=(m:Int):=by rw [show ((m+1:Nat):Int)-1=(m:Int) by omega];exact U9 (by omega) (by omega)
  refine wa J 6 (eK (b:=decide (bF.wrap (((m+1:Nat):Int)-1)>=0)) (t:=true) (lY (by omega)) ?_);refine wa J 5 (eYr J stab rounds hg hm hJ e fun cc E' w' hg' hJ'=>?_);have ih':=ih E' w' hg' hJ';rw [show bF.wrap ((m:Int)-1)=bF.wrap (bF.wrap (((m+1:Nat):Int)-1)-1) by rw [e]] at ih';exact wa J 10 (LU ih')
abbrev gB (nm:be) (k:Nat):MO:=.box [.s nm,.sl 1,.sl 2,.sl 3,.sl k] 78
abbrev xB (x:Yj):MO:=.box [.I x.Zt,.s x.ZB,.sl 5,.s x.Zu,.s x.As,.I x.ZC,.sl 6] 132
abbrev mB (lC:X4):MO:=.av (Xr rA false true lC)
def Zhm (nm:be) (roles:List be) (msgs:List Ys) (f:Yj->Int->X4->Nat->Option WI):Prop :=
  ∀ (gs:List NX) (x:Yj) (lF:Int) (kvs0 lC:X4) (r:WI),(lC.map (·.1)).Nodup->(∀ a,YT lC a=YT kvs0 a)->f x lF kvs0 gs.length=some r ->
    Fn aB 65 ⟨8,[.B 0 0,.a [.I x.Zt,.s x.ZB,.sl 5,.s x.Zu,.s x.As,.I x.ZC,.sl 6],.I lF,.S 7],[(1,.sl rS roles),(2,.sl Y9 msgs),(5,.sl rS x.To),(6,.sl (YH Yz) x.ZD)],
      [(0,gB nm 4),(4,.own ko gs false),(7,mB lC)],9,.I r.1,[],[(4,.gone),(8,.own ko (gs++r.2.map Xo) false),(0,gB nm 8),(7,mB lC)]⟩
def Zd6 (nm:be) (roles:List be) (msgs:List Ys) (f:List Yj->Int->X4->Nat->Option WI):Prop :=
  ∀ (gs:List NX) (l:List Yj) (lF:Int) (kvs0 lC:X4) (r:WI),(lC.map (·.1)).Nodup->(∀ a,YT lC a=YT kvs0 a)->f l lF kvs0 gs.length=some r ->
    Fn aB 21 ⟨8,[.B 0 0,.S 5,.I lF,.S 7],[(1,.sl rS roles),(2,.sl Y9 msgs),(5,.sl Yz l)],
      [(0,gB nm 4),(4,.own ko gs false),(7,mB lC)],9,.I r.1,[],[(4,.gone),(8,.own ko (gs++r.2.map Xo) false),(0,gB nm 8),(7,mB lC)]⟩
theorem Zqc {α:Type} {p:Prop} {x:Option α} (h:¬ p):Ut p x=none:=by unfold Ut;rw [lh h]
theorem Zss {F:YI} {w:World} {u:G1} {D:List Int} {vs:List Value} (h:ko.rep F w ((.inr u,[],[]):NX) vs) (hs:SlR rA F w D u.1):ko.rep F w ((.inl D,[],[]):NX) vs:=by have ⟨u1,w1,e1,h1,h2⟩:=h;exact ⟨u1,w1,e1,⟨u.1,h1,hs⟩,h2⟩
theorem ZnS:Fn aB 127 ⟨1,[.S 0],[],[],2,.c (.cl 167 [] [1]),[],[(1,.box [.sl 0] 22)]⟩:=Yy func127 rfl fun E F w=>by
 exact wm J (Xh J func127 [(1,.bp 1 0)])
theorem Zqx {nm:be} {roles:List be} {msgs:List Ys} {lst:List Yj->Int->X4->Nat->Option WI} (hlst:Zd6 nm roles msgs lst):Zhm nm roles msgs (PM N roles msgs lst):=by
  intro gs x lF kvs0 lC r hnd hkv h;refine Yy func65 rfl (fun E F w=>?_);unfold PM at h;refine wn J ?_;obtain ⟨K,h⟩|⟨K,h⟩:=oc h
  · refine ek J K ?_;cases h;refine G7 (nl:=true) (q:=x.Zu) (lC:=lC) oD UA (show (YT lC x.Zu).getD 0=(YT kvs0 x.Zu).getD 0 by rw [hkv]) (wm J ?_);exact WS (R:=ko) (fr:=false) (xs:=gs) (gs++([]:List YU).map Xo) 4 (by simp) (Xh J func65 [(8,.sl 4)])
  refine ek J K ?_;rcases oc h with ⟨hc2,h⟩ | ⟨hc2,h⟩
  · refine ek J hc2 ?_;have ⟨label,hlab,h⟩:=ob h;refine Yl (Zvg N msgs x _ hlab) [] [(0,.sl 2),(1,.bp 9 0),(2,.sl 5),(3,.sl 6)] (wn J ?_);refine Yl ZnS [] [(0,.sl 5)] (wn J ?_);refine WS (R:=ko) (fr:=false) (xs:=gs) (gs++([]:List YU).map Xo) 4 (by simp) ?_;refine eRs ⟨(42,.c (.cl 167 [] [12]))::[(4,.B 8 0),(5,.B 9 0),(6,.B 10 0),(9,.B 11 0)],(12,.box [.sl 5] 22)::[(0,gB nm 13),(7,mB lC),(8,.box [.bp 0 0] 75),(9,xB x),(10,.box [.I lF] 3),(11,.box [.I label] 3),(13,.own ko (gs++([]:List YU).map Xo) false)],
      [(1,.sl rS roles),(2,.sl Y9 msgs),(5,.sl rS x.To),(6,.sl (YH Yz) x.ZD)],14⟩ [(13,.sl 4)] ?_
    refine eRf (bt:=22) oS Zn5 (P6 N roles x label gs.length) (fun (b:WI)=>⟨[(4,.B 8 0),(5,.B 9 0),(6,.B 10 0),(9,.B 11 0)],[(0,gB nm 13),(7,mB lC),(8,.box [.bp 0 0] 75),(9,xB x),(10,.box [.I b.1] 3),(11,.box [.I label] 3),(13,.own ko (gs++b.2.map Xo) false)],
      [(1,.sl rS roles),(2,.sl Y9 msgs),(5,.sl rS x.To),(6,.sl (YH Yz) x.ZD)],14⟩) 14 13 12 5 43 44 h (fun _=>⟨rfl,rfl⟩) ?_ ?_
    · intro i t b b' hst E F w n0 Z l D rr post kk;unfold P6 at hst;have ⟨f,hf,hst⟩:=ob hst;have ⟨q,hq,hst⟩:=ob hst;have ⟨hb,hst⟩:=og hst;replace hb:gs.length+b.2.length+1<=lim:=Ze hb;cases hst;refine wm J (eBr (l:=l) (D:=D) (r:=rr) 14 (wm J ?_));refine Yl (ZmF nm (gs++b.2.map Xo) (gs.length+b.2.length) (by simp) hb) [] [(0,.bp 0 0),(1,.sl 1),(2,.sl 2),(3,.sl 3),(4,.sl 13)] (wm J ?_);refine Yl (ZfT N nm roles x.ZB _ hf) [] [(0,.bp 0 0),(1,.sl 1),(2,.sl 2),(3,.sl 3),(4,.sl 15)] (wm J ?_);refine Yl (ZfT N nm roles t _ hq) [] [(0,.bp 0 0),(1,.sl 1),(2,.sl 2),(3,.sl 3),(4,.sl 15)] (wm J ?_);refine YJ (wm J (YX J [] oO9 ([⟨⟨f,q,label⟩,b.1,decide ((i:Int) > 0)⟩]:List T9) (wm J ?_)));refine Xg J ko (ZjQ (x:=XG) (by simp:(gs++b.2.map Xo).length=gs.length+b.2.length)) (wm J (LR ?_));refine RF J [17] PX ((.inl [],[⟨⟨f,q,label⟩,b.1,decide ((i:Int) > 0)⟩],[]):NX) (ZjQ (x:=XG) (by simp:(gs++b.2.map Xo).length=gs.length+b.2.length)) ?_;refine WS (R:=ko) (fr:=false) (xs:=YA (gs++b.2.map Xo++[XG]) ((gs.length+b.2.length:Nat):Int) (.inl [],[⟨⟨f,q,label⟩,b.1,decide ((i:Int) > 0)⟩],[])) (gs++(b.2++[(⟨[],[⟨⟨f,q,label⟩,b.1,decide ((i:Int) > 0)⟩],[]⟩:YU)]).map Xo) 15 (by rw [ZtN (by simp),bq,aU];rfl) ?_;exact wm J (Yi [(13,.sl 15)] kk)
    · intro D;exact wm J (Zjp J func65 14 [(8,.sl 13)])
  refine ek J hc2 ?_;have ⟨hb,h⟩:=og h;replace hb:gs.length+1<=lim:=Ze hb;rcases oc h with ⟨hc3,h⟩ | ⟨hc3,h⟩
  · refine ek J hc3 ?_;have ⟨bl,hbl,h⟩:=ob h;have ⟨rr,hrr,h⟩:=ob h;cases h;refine Yl (ZmF nm gs gs.length rfl hb) [] [(0,.bp 0 0),(1,.sl 1),(2,.sl 2),(3,.sl 3),(4,.sl 4)] (wm J ?_);refine eMm rA false (wm J ?_);refine eRm (nl:=true) (lC:=lC) UA (fun bo rg hro=>?_);refine wa J 1 (YE (σ:=X4) (fun m=>⟨[(4,.B 8 0),(5,.B 9 0),(6,.B 10 0),(3,.S 7),(14,.I (gs.length:Int)),(15,.S 12)],[(0,gB nm 11),(7,.av (V8 rA false bo lC)),(8,.box [.bp 0 0] 75),(9,xB x),(10,.box [.I lF] 3),(11,.own ko (gs++[XG]) false),(12,.av (Xr rA false false m))],
      [(1,.sl rS roles),(2,.sl Y9 msgs),(5,.sl rS x.To),(6,.sl (YH Yz) x.ZD)],13⟩) (fun m=>(m.map (·.1)).Nodup/\∀ a,YT m a=YT lC a) ?_ (fun j1=>?_))
    · rintro m ⟨hm1,hm2⟩;refine wm J (LP (q:=x.Zu) (lC:=m) [] oD (gs.length:Int) UA (eMx (bo:=bo) (lC:=lC) (R:=rI .i64) (ag:=false) 7 (eMw (R:=rI .i64) (ag:=false) (lC:=Xd m x.Zu (gs.length:Int)) 12 (wm J ?_))));refine YK J (Xi Yz) hbl (wm J ?_);refine Yl (hlst (gs++[XG]) bl lF (Xd kvs0 x.Zu (gs.length:Int)) (Xd m x.Zu (gs.length:Int)) rr (Zfk hm1).1 (fun a=>by rw [L9,L9,hm2,hkv]) (by rw [ah];exact hrr)) [] [(0,.bp 0 0),(1,.sl 1),(2,.sl 2),(3,.sl 3),(4,.sl 11),(5,.sl 14),(6,.nil),(7,.sl 12)] (wm J ?_);refine YJ (wm J (YX J [] oD ([rr.1]:List Int) (wm J ?_)));refine Xg J ko (QI (xs:=gs) (ys:=rr.2.map Xo) (x:=XG) rfl) (wm J ?_);refine RF J [16] PX ((.inl [rr.1],[],[]):NX) (QI (xs:=gs) (ys:=rr.2.map Xo) (x:=XG) rfl) ?_;refine WS (R:=ko) (fr:=false) (xs:=YA (gs++[XG]++rr.2.map Xo) (gs.length:Int) (.inl [rr.1],[],[])) (gs++((⟨[rr.1],[],[]⟩:YU)::rr.2).map Xo) 15 (by rw [Hu rfl,aU];rfl) ?_;exact wm J (Xh J func65 [(8,.sl 15)])
    refine wa J 1 (YO (σ:=Array Nat × X4) (fun st=>⟨[(4,.B 8 0),(5,.B 9 0),(6,.B 10 0),(3,.S 7),(14,.I (gs.length:Int)),(15,.S 12),(77,.c (.v (.pointer (some ⟨rg,0,none⟩))))],[(0,gB nm 11),(7,.av (V8 rA false bo lC)),(8,.box [.bp 0 0] 75),(9,xB x),(10,.box [.I lF] 3),(11,.own ko (gs++[XG]) false),(12,.av (Xr rA false false st.2)),(13,.abs (Uv rg bo st.1))],
      [(1,.sl rS roles),(2,.sl Y9 msgs),(5,.sl rS x.To),(6,.sl (YH Yz) x.ZD)],14⟩) (fun n st=>Ut (CpI bo lC st.1 st.2/\PR bo st.1 < n) (some ())) (r:=()) (fun st=>Zqc (fun h=>Nat.not_lt_zero _ h.2)) ?_ (fun ih=>?_))
    · rintro n ih ⟨sn,m⟩ hst;obtain ⟨⟨hI,hn⟩,_⟩:=ZaZ hst;replace hI:CpI bo lC sn m:=hI;replace hn:PR bo sn < n+1:=hn;refine wm J (eNx (bo:=bo) (sn:=sn) (lC:=lC) (r:=rg) 13 7 (fun hall=>?_) (fun j q v β hq hb _ hlt=>?_))
      · exact wa J 5 (Yi [] (j1 m ⟨hI.nd,hI.end_ hro hall⟩))
      · refine wm J (eNy (bo:=bo) (sn:=sn) (lC:=lC) (r:=rg) 13 7 hq hb (wm J ?_));exact LP (q:=q) (lC:=m) [] oD v UA (wm J (Yi [] (ih (sn.push β,Xd m q v) (QK ⟨hI.step hro hnd hq hb,Zh hlt (Nat.le_of_lt_succ hn)⟩ rfl))))
    exact Yi [] (ih (PR bo #[]+1) (#[],[]) (QK ⟨CpI.nil,Nat.lt_succ_self _⟩ rfl))
  refine ek J hc3 ?_;have ⟨ro,hro,h⟩:=ob h;obtain ⟨⟨o',D',ns'⟩,hch,h⟩:=ob h;cases h;refine Yl (Zsj nm gs gs.length rfl hb) [] [(0,.bp 0 0),(1,.sl 1),(2,.sl 2),(3,.sl 3),(4,.sl 4)] (wm J ?_);refine Yl (ZfT N nm roles x.ZB _ hro) [] [(0,.bp 0 0),(1,.sl 1),(2,.sl 2),(3,.sl 3),(4,.sl 11)] (wm J (YJ ?_));refine WS (R:=ko) (fr:=false) (xs:=gs++[QU]) (gs++[((.inr Xn,[],[]):NX)]++([]:List YU).map Xo) 11 (by simp) (eZn rA ?_);refine wa J 8 (YE (σ:=G1) (fun u=>⟨[(4,.B 8 0),(5,.B 9 0),(6,.B 10 0),(3,.S 7),(19,.I (gs.length:Int)),(20,.B 12 0)],[(0,gB nm 11),(7,mB lC),(8,.box [.bp 0 0] 75),(9,xB x),(10,.box [.I lF] 3),(11,.own ko (gs++[((.inr u,[],[]):NX)]++bm Xo ns') false),(12,.box [.I ro,.I x.ZC,.I o'] 235),(13,.own rA D' true)],[(1,.sl rS roles),(2,.sl Y9 msgs),(5,.sl rS x.To),(6,.sl (YH Yz) x.ZD),(13,.fn (Xy u))],14⟩) (fun _=>True) ?_ (fun j1=>?_))
  · intro u _;refine eZd (R:=ko) (Rb:=rI .i64) (fr:=false) (xs:=gs++[((.inr u,[],[]):NX)]++bm Xo ns') (ys:=D') (x:=((.inr u,[],[]):NX)) (u:=u) ((.inl D',[],[]):NX) gs.length 11 13 ZaV (fun F w vs hr hs=>Zss hr hs) rfl ?_;refine WS (R:=ko) (fr:=false) (xs:=(gs++[((.inr u,[],[]):NX)]++bm Xo ns').set gs.length (.inl D',[],[])) (gs++[((.inl D',[],[]):NX)]++bm Xo ns') 11 sett_mid.symm (wm J ?_);refine YX J [] ZkL ([⟨ro,x.ZC,o'⟩]:List VY) (wm J ?_);refine Xg J ko (QI (xs:=gs) (ys:=bm Xo ns') (x:=((.inl D',[],[]):NX)) rfl) (wm J (LR ?_));refine RF J [14] PX ((.inl D',[],[⟨ro,x.ZC,o'⟩]):NX) (QI (xs:=gs) (ys:=bm Xo ns') (x:=((.inl D',[],[]):NX)) rfl) ?_;refine WS (R:=ko) (fr:=false) (xs:=YA (gs++[((.inl D',[],[]):NX)]++bm Xo ns') (gs.length:Int) (.inl D',[],[⟨ro,x.ZC,o'⟩])) (gs++((⟨D',[],[⟨ro,x.ZC,o'⟩]⟩:YU)::ns').map Xo) 11 (by rw [Hu rfl,aU];rfl) ?_;exact wm J (Xh J func65 [(8,.sl 11)])
  refine wa J 1 (YO (σ:=G1 × Int × List Int × List YU × Int) (fun st=>⟨[(4,.B 8 0),(5,.B 9 0),(6,.B 10 0),(3,.S 7),(19,.I (gs.length:Int)),(20,.B 12 0),(118,.S 6),(119,.I (x.ZD.length:Int)),(120,.I st.2.2.2.2)],[(0,gB nm 11),(7,mB lC),(8,.box [.bp 0 0] 75),(9,xB x),(10,.box [.I lF] 3),(11,.own ko (gs++[((.inr st.1,[],[]):NX)]++bm Xo st.2.2.2.1) false),(12,.box [.I ro,.I x.ZC,.I st.2.1] 235),(13,.own rA st.2.2.1 true)],[(1,.sl rS roles),(2,.sl Y9 msgs),(5,.sl rS x.To),(6,.sl (YH Yz) x.ZD),(13,.fn (Xy st.1))],14⟩) (fun n st=>QD N lst x lF kvs0 gs.length n st.2.2.2.2 st.2.1 st.2.2.1 st.2.2.2.1) (r:=(o',D',ns')) (fun _=>rfl) ?_ (fun ih=>?_))
  · rintro n ih ⟨u,o,D,ns,i⟩ h;unfold QD at h;rcases UY h with ⟨hc4,h⟩ | ⟨hc4,h⟩
    · cases h;exact wa J 5 (eK hc4 (wa J 2 (Yi [] (j1 u trivial))))
    refine wa J 5 (eK hc4 (wm J ?_));have ⟨bl,hbl,h⟩:=ob h;have ⟨rr,hrr,h⟩:=ob h;have ⟨D2,hD2,h⟩:=ob h;refine YK J (Xi Yz) hbl (wm J ?_);refine Yl (hlst (gs++[((.inr u,[],[]):NX)]++bm Xo ns) bl lF kvs0 lC rr hnd hkv (by rw [ah,ah,aM];exact hrr)) [] [(0,.bp 0 0),(1,.sl 1),(2,.sl 2),(3,.sl 3),(4,.sl 11),(5,.sl 15),(6,.nil),(7,.sl 7)] (wm J ?_);refine Xg J ko (ZaY (xs:=gs) (ys:=bm Xo ns) (zs:=bm Xo rr.2) (x:=((.inr u,[],[]):NX)) rfl) (wm J ?_);refine PE (u:=u) J PX 13 (ZaY (xs:=gs) (ys:=bm Xo ns) (zs:=bm Xo rr.2) (x:=((.inr u,[],[]):NX)) rfl) (wm J ?_);refine YX J [] oD ([rr.1]:List Int) (Xv J rA hD2 (wm J ?_));refine Xg J ko (ZaY (xs:=gs) (ys:=bm Xo ns) (zs:=bm Xo rr.2) (x:=((.inr u,[],[]):NX)) rfl) (wm J (LR (QH 19 (fun u'=>?_))));refine RF J [] PX ((.inr u',[],[]):NX) (ZaY (xs:=gs) (ys:=bm Xo ns) (zs:=bm Xo rr.2) (x:=((.inr u,[],[]):NX)) rfl) ?_;refine WS (R:=ko) (fr:=false) (xs:=YA (gs++[((.inr u,[],[]):NX)]++bm Xo ns++bm Xo rr.2) (gs.length:Int) (.inr u',[],[])) (gs++[((.inr u',[],[]):NX)]++bm Xo (ns++rr.2)) 16 (by rw [ZtP rfl,bq]) ?_;exact wm J (Yi [(11,.sl 16),(13,.sl 19)] (ih (u',rr.1,D2,ns++rr.2,Yh (i+1)) h))
  exact Yi [] (ih N (Xn,0,[],[],0) hch)
theorem ZnT:Fn aB 64 ⟨1,[.S 0],[],[],2,.c (.cl 124 [] [1]),[],[(1,.box [.sl 0] 54)]⟩:=Yy func64 rfl fun E F w=>by
 exact wm J (Xh J func64 [(1,.bp 1 0)])
theorem Zrc {nm:be} {roles:List be} {msgs:List Ys} {itm:Yj->Int->X4->Nat->Option WI} (hitm:Zhm nm roles msgs itm):Zd6 nm roles msgs (Dk itm):=by
 intro gs l lF kvs0 lC r hnd hkv h;refine Yy func21 rfl (fun E F w=>?_);unfold Dk at h;refine wm J (Yl ZnT [] [(0,.sl 5)] (wm J ?_));refine WS (R:=ko) (fr:=false) (xs:=gs) (gs++bm Xo ([]:List YU)) 4 (by simp) ?_;refine eRs ⟨(12,.c (.cl 124 [] [11]))::[(4,.B 8 0),(6,.B 9 0),(7,.B 10 0)],(11,.box [.sl 5] 54)::[(0,gB nm 12),(7,mB lC),(8,.box [.bp 0 0] 75),(9,.box [.I lF] 3),(10,.box [.sl 7] 47),(12,.own ko (gs++bm Xo ([]:List YU)) false)],[(1,.sl rS roles),(2,.sl Y9 msgs),(5,.sl Yz l)],13⟩ [(12,.sl 4)] ?_;refine eRf (bt:=54) RX Zn3 (fun _ x (b:WI)=>(itm x b.1 kvs0 (gs.length+b.2.length)).bind fun r=>some (r.1,b.2++r.2)) (fun (b:WI)=>⟨[(4,.B 8 0),(6,.B 9 0),(7,.B 10 0)],[(0,gB nm 12),(7,mB lC),(8,.box [.bp 0 0] 75),(9,.box [.I b.1] 3),(10,.box [.sl 7] 47),(12,.own ko (gs++bm Xo b.2) false)],[(1,.sl rS roles),(2,.sl Y9 msgs),(5,.sl Yz l)],13⟩) 13 12 11 5 13 14 h (fun _=>⟨rfl,rfl⟩) ?_ ?_
 ·intro i x b b' hst E F w n0 Z ll D lr post kk;have ⟨rr,hrr,hst⟩:=ob hst;cases hst;refine wm J (eBr (l:=ll) (D:=D) (r:=lr) 13 (wm J ?_));refine Yl (hitm (gs++bm Xo b.2) x b.1 kvs0 lC rr hnd hkv (by rw [ah,aM];exact hrr)) [] [(0,.bp 0 0),(1,.sl 1),(2,.sl 2),(3,.sl 3),(4,.sl 12),(5,.sl 14),(6,.sl 15),(7,.sl 7)] (wm J ?_);refine WS (R:=ko) (fr:=false) (xs:=gs++bm Xo b.2++bm Xo rr.2) (gs++bm Xo (b.2++rr.2)) 17 (by rw [bq,aU]) ?_;exact Yi [(12,.sl 17)] kk
 ·intro D;refine wm J ?_;exact Zjp J func21 13 [(8,.sl 12)]
theorem Zkc (N:Nat) (nm:be) (roles:List be) (msgs:List Ys):∀ n,Zd6 nm roles msgs (Ts N roles msgs n)
 | 0=>fun gs l lF kvs0 lC r _ _ h=>by cases h
 | n+1=>Zrc (Zqx N (Zkc N nm roles msgs n))
/-- The list's node, without loops around it. -/
theorem Zrb (nm:be) (roles:List be) (msgs:List Ys) (n:Nat) (gs:List NX) (l:List Yj) (lF:Int) (r:WI) (h:Ts N roles msgs n l lF [] gs.length=some r) :
  Fn aB 21 ⟨8,[.B 0 0,.S 5,.I lF,.c (.v (.map none))],[(1,.sl rS roles),(2,.sl Y9 msgs),(5,.sl Yz l)],
   [(0,gB nm 4),(4,.own ko gs false)],9,.I r.1,[],[(4,.gone),(8,.own ko (gs++r.2.map Xo) false),(0,gB nm 8)]⟩:=by
 have hf:=Zkc N nm roles msgs n gs l lF [] [] r List.nodup_nil (fun _=>rfl) h;refine ⟨hf.callable,fun E F w hp=>?_⟩
 let E1:km:=E.setρ 7 (.map none)
 have hρ:∀ j,j≠7->E1.ρ j=E.ρ j:=fun j hj=>by show (if j=7 then _ else E.ρ j)=_;rw [lh hj]
 have h7:E1.ρ 7=.map none:=by show (E.setρ 7 (.map none)).ρ 7=_;simp [km.setρ]
 have hβ:∀ j,E1.β j=E.β j:=fun _=>rfl;have look3:∀ {α:Type 1} {a b c:α} {k:Nat} {m:α},Yg [(0,a),(4,b),(7,c)] k=some m->(k=0/\m=a)\/(k=4/\m=b)\/(k=7/\m=c):=fun {α a b c k m} h=>by
  rw [YF] at h;split at h
  ·rename_i e;cases h;exact .inl ⟨e.symm,rfl⟩
  rw [YF] at h;split at h
  ·rename_i e;cases h;exact .inr (.inl ⟨e.symm,rfl⟩)
  rw [YF] at h;split at h
  ·rename_i e;cases h;exact .inr (.inr ⟨e.symm,rfl⟩)
  cases h
 have M0:=hp.M 0 (gB nm 4) rfl;have M4:=hp.M 4 (.own ko gs false) rfl;have hp1:Ct.Pre ⟨8,[.B 0 0,.S 5,.I lF,.S 7],[(1,.sl rS roles),(2,.sl Y9 msgs),(5,.sl Yz l)],[(0,gB nm 4),(4,.own ko gs false),(7,mB [])],9,.I r.1,[],[(4,.gone),(8,.own ko (gs++r.2.map Xo) false),(0,gB nm 8),(7,mB [])]⟩ E1 F w:={
  one:=fun j=>by
   by_cases e:j=7
   ·rw [e,h7];rfl
   ·rw [hρ j e];exact hp.one j
  hF:=hp.hF
  V:=fun k f hk=>by
   have hk':Yg [(1,VF.sl rS roles),(2,VF.sl Y9 msgs),(5,VF.sl Yz l)] k=some f:=hk;have ho:=hp.V k f hk;rw [YF] at hk';split at hk'
   ·rename_i e;cases hk';subst e;rw [hρ 1 (by decide)];exact ho
   rw [YF] at hk';split at hk'
   ·rename_i e;cases hk';subst e;rw [hρ 2 (by decide)];exact ho
   rw [YF] at hk';split at hk'
   ·rename_i e;cases hk';subst e;rw [hρ 5 (by decide)];exact ho
   cases hk'
  M:=fun k m hk=>by
   rcases look3 hk with ⟨rfl,rfl⟩ | ⟨rfl,rfl⟩ | ⟨rfl,rfl⟩
   ·show w.heap[E.β 0]? = some (.cells (([.s nm,.sl 1,.sl 2,.sl 3,.sl 4]:List SC).map (Yn E1)).toArray 78 (0,0));have M0:w.heap[E.β 0]? = some (.cells (([.s nm,.sl 1,.sl 2,.sl 3,.sl 4]:List SC).map (Yn E)).toArray 78 (0,0)):=M0;rw [M0];simp only [aJ,ay,Yn,hρ 1 (by decide),hρ 2 (by decide),hρ 3 (by decide),hρ 4 (by decide)]
   ·show kW ko F w gs (E1.ρ 4);rw [hρ 4 (by decide)];exact M4
   ·show Zhn rA false true [] F w (E1.ρ 7);rw [h7];exact .inl ⟨rfl,rfl,rfl⟩
  dis:=fun k k' m m' hk hk' hne b hb hb'=>by
   have no7:∀ b,¬ (mB []).fp E1 7 b:=fun b hb=>by have hb:YV (E1.ρ 7)=some b:=hb;rw [h7] at hb;cases hb
   rcases look3 hk with ⟨rfl,rfl⟩ | ⟨rfl,rfl⟩ | ⟨rfl,rfl⟩<;>rcases look3 hk' with ⟨rfl,rfl⟩ | ⟨rfl,rfl⟩ | ⟨rfl,rfl⟩
   ·exact hne rfl
   ·have hb':YV (E1.ρ 4)=some b:=hb';rw [hρ 4 (by decide)] at hb';exact hp.dis 0 4 _ _ rfl rfl (by decide) b hb hb'
   ·exact no7 b hb'
   ·have hb:YV (E1.ρ 4)=some b:=hb;rw [hρ 4 (by decide)] at hb;exact hp.dis 4 0 _ _ rfl rfl (by decide) b hb hb'
   ·exact hne rfl
   ·exact no7 b hb'
   ·exact no7 b hb
   ·exact no7 b hb
   ·exact hne rfl
  mF:=fun k m hk b hb=>by
   rcases look3 hk with ⟨rfl,rfl⟩ | ⟨rfl,rfl⟩ | ⟨rfl,rfl⟩
   ·exact hp.mF 0 _ rfl b hb
   ·have hb:YV (E1.ρ 4)=some b:=hb;rw [hρ 4 (by decide)] at hb;exact hp.mF 4 _ rfl b hb
   ·have hb:YV (E1.ρ 7)=some b:=hb;rw [h7] at hb;cases hb }
 have K:=hf.calls E1 F w hp1;have ea:([.B 0 0,.S 5,.I lF,.S 7]:List SV).map (Yt E1)=([.B 0 0,.S 5,.I lF,.c (.v (.map none))]:List SV).map (Yt E):=by simp only [aJ,ay,Yt,Yn,hρ 5 (by decide),h7];rfl
 have K:Calls aB 21 (([.B 0 0,.S 5,.I lF,.S 7]:List SV).map (Yt E1)).toArray w _:=K;rw [ea] at K;refine Calls.mono K fun e w' hh=>?_;have ⟨E',F',he,hq⟩:=hh
 let E2:km:=E'.setρ 7 (E.ρ 7)
 have g:∀ j,j≠7->E2.ρ j=E'.ρ j:=fun j hj=>by show (if j=7 then _ else E'.ρ j)=_;rw [lh hj]
 have hfp:∀ b,Ct.fp0 ⟨8,[.B 0 0,.S 5,.I lF,.S 7],[(1,.sl rS roles),(2,.sl Y9 msgs),(5,.sl Yz l)],[(0,gB nm 4),(4,.own ko gs false),(7,mB [])],9,.I r.1,[],[(4,.gone),(8,.own ko (gs++r.2.map Xo) false),(0,gB nm 8),(7,mB [])]⟩ E1 b ->
   Ct.fp0 ⟨8,[.B 0 0,.S 5,.I lF,.c (.v (.map none))],[(1,.sl rS roles),(2,.sl Y9 msgs),(5,.sl Yz l)],[(0,gB nm 4),(4,.own ko gs false)],9,.I r.1,[],[(4,.gone),(8,.own ko (gs++r.2.map Xo) false),(0,gB nm 8)]⟩ E b:=fun b hb=>by
  have ⟨k,m,hk,hb⟩:=hb;rcases look3 hk with ⟨rfl,rfl⟩ | ⟨rfl,rfl⟩ | ⟨rfl,rfl⟩
  ·exact ⟨0,_,rfl,hb⟩
  ·refine ⟨4,_,rfl,?_⟩;have hb:YV (E1.ρ 4)=some b:=hb;rw [hρ 4 (by decide)] at hb;exact hb
  ·have hb:YV (E1.ρ 7)=some b:=hb;rw [h7] at hb;cases hb
 have look4:∀ {k:Nat} {m:MO},Yg [(4,MO.gone),(8,MO.own ko (gs++r.2.map Xo) false),(0,gB nm 8)] k=some m->k≠7/\Yg [(4,MO.gone),(8,MO.own ko (gs++r.2.map Xo) false),(0,gB nm 8),(7,mB [])] k=some m/\(∀ b,m.fp E2 k b↔m.fp E' k b)/\∀ F w,m.ok E' F w k->m.ok E2 F w k:=fun {k m} hk=>by
  rw [YF] at hk;split at hk
  ·rename_i e;cases hk;subst e;exact ⟨by decide,rfl,fun _=>fj,fun _ _ h=>h⟩
  rw [YF] at hk;split at hk
  ·rename_i e;cases hk;subst e;refine ⟨by decide,rfl,fun b=>?_,fun F w h=>?_⟩
   ·show YV (E2.ρ 8)=some b↔YV (E'.ρ 8)=some b;rw [g 8 (by decide)]
   ·show kW ko F w _ (E2.ρ 8);rw [g 8 (by decide)];exact h
  rw [YF] at hk;split at hk
  ·rename_i e;cases hk;subst e;refine ⟨by decide,rfl,fun b=>fj,fun F w h=>?_⟩;have h:w.heap[E'.β 0]? = some (.cells (([.s nm,.sl 1,.sl 2,.sl 3,.sl 8]:List SC).map (Yn E')).toArray 78 (0,0)):=h;show w.heap[E'.β 0]? = some (.cells (([.s nm,.sl 1,.sl 2,.sl 3,.sl 8]:List SC).map (Yn E2)).toArray 78 (0,0));rw [h];simp only [aJ,ay,Yn,g 1 (by decide),g 2 (by decide),g 3 (by decide),g 8 (by decide)]
  cases hk
 refine ⟨E2,F',he,{
  env:=fun j hj=>by
   have hj:j < 8:=hj;by_cases e:j=7
   ·refine ⟨?_,(hq.env j hj).2⟩;show (E'.setρ 7 (E.ρ 7)).ρ j=E.ρ j;subst e;simp [km.setρ]
   ·refine ⟨?_,(hq.env j hj).2⟩;rw [g j e,<- hρ j e];exact (hq.env j hj).1
  one:=fun j=>by
   by_cases e:j=7
   ·show (if j=7 then E.ρ 7 else _:Value).oneCell'=true;rw [lg e];exact hp.one 7
   ·rw [g j e];exact hq.one j
  V:=fun k f hk=>by cases hk
  M:=fun k m hk=>let ⟨_,h1,_,h2⟩:=look4 hk;h2 _ _ (hq.M k m h1)
  dis:=fun k k' m m' hk hk' hne b hb hb'=>by have ⟨_,h1,h2,_⟩:=look4 hk;have ⟨_,h1',h2',_⟩:=look4 hk';exact hq.dis k k' m m' h1 h1' hne b ((h2 b).1 hb) ((h2' b).1 hb')
  mF:=fun k m hk b hb=>by have ⟨_,h1,h2,_⟩:=look4 hk;have:=hq.mF k m h1 b ((h2 b).1 hb);exact ⟨this.1,this.2.1,this.2.2.imp (hfp b) id⟩
  fresh:=fun k m hk hfr b hb=>by have ⟨_,h1,h2,_⟩:=look4 hk;exact hq.fresh k m h1 hfr b ((h2 b).1 hb)
  F0:=hq.F0
  F1:=hq.F1
  Fs:=hq.Fs
  ext:=hq.ext.mono fun b hb=>⟨hb.1,fun h=>hb.2 (hfp b h)⟩ }⟩
theorem Zsv (xs:List YU):∀ (i:Nat) (x:YU) (y:NX),xs[i]? = some x->(xs.map Xo)[i]? = some y->∀ F w vs,rR12.rep F w x vs->ko.rep F w y vs:=by intro i x y h1 h2;rw [aK,h1] at h2;cases h2;intro F w vs h;exact h
theorem Zsw (xs:List YU):∀ (i:Nat) (x:NX) (y:YU),(xs.map Xo)[i]? = some x->xs[i]? = some y->∀ F w vs,ko.rep F w x vs->rR12.rep F w y vs:=by intro i x y h1 h2;rw [aK,h2] at h1;cases h1;intro F w vs h;exact h
theorem Znr (nm:be) (roles:List be) (msgs:List Ys) (nodes:List YU) (l:List Yj) (lF:Int) (r:WI) (h:GK N roles msgs nodes l lF=some r) :
  Fn aB 21 ⟨8,[.B 0 0,.S 5,.I lF,.c (.v (.map none))],[(1,.sl rS roles),(2,.sl Y9 msgs),(5,.sl Yz l)],
   [(0,gB nm 4),(4,.own ko (nodes.map Xo) false)],9,.I r.1,[],[(4,.gone),(8,.own ko (r.2.map Xo) false),(0,gB nm 8)]⟩:=by unfold GK at h;have ⟨q,hq,h⟩:=ob h;cases h;have:=Zrb N nm roles msgs N (nodes.map Xo) l lF q (by rw [aM];exact hq);rw [<- bq] at this;exact this
theorem Zva (c:(List Int)) (r:(List Int)) (h:ZbZ N c=some r) :
 Fn aB 120 ⟨1,[.S 0],[(0,.sl rA c)],[],2,.S 1,[],[(1,.own rA r true)]⟩:=Yy func120 rfl fun E F w=>by
 unfold ZbZ at h;refine wa J 8 (eNi rA c false ?_);intro nb hnb;cases nb
 ·refine wa J 5 (YX J [] oD ([]:List Int) ?_);refine wO J 1 h fun d e h=>Xv J rA e ?_;exact oi h▸wr J 2 func120 [(1,.sl 2)]
 ·obtain rfl:=hnb rfl;replace h:(some ([]:List Int):Option (List Int))=some r:=h;exact oi h▸wr J 6 func120 [(1,.nil)]
theorem Zvb (c:List Int) (r:List Int) (h:Zb0 N c=some r):Fn aB 121 ⟨1,[.S 0],[],[(0,.own rA c false)],1,.t [],[],[(0,.own rA r false)]⟩:=by
 unfold Zb0 at h;cases hb:(decide ((c.length:Int)<=4611686018427387903)) with
 | false=>rw [hb] at h;cases h
 | true =>
  rw [hb] at h;simp only [lV,aR] at h;subst h;simp only [lU] at hb;exact Zt7 c (by omega)
theorem Zg3 (c:X5) (d:(List Int)) (r:(List Int)) (h:MZ N c d=some r) :
 Fn aB 61 ⟨6,[.B 0 0,.S 5],(U7 1 2 3 4 c [(5,.sl rA d)]),[(0,.box (Vm 1 2 3 4 c) 78)],7,.S 6,[],[(6,.own rA r true),(0,.box (Vm 1 2 3 4 c) 78)]⟩:=Yy func61 rfl fun E F w=>by
 unfold MZ at h;refine wa J 6 (ZeO Int rB false ?_);refine wO J 10 h fun e f h=>Yl (Zva N d _ f) [] [(0,.sl 5)] (wa J 2 (YE (σ:=(List Int)) (fun st=>⟨[(6,.S 8)],[(0,.box (Vm 1 2 3 4 c) 78),(8,.own rA st true)],(U7 1 2 3 4 c [(5,.sl rA d)]),9⟩) (fun st=>Zdp N st=some r) ?_ (fun j1=>?_)))
 ·intro g h;unfold Zdp at h;refine wO J 3 h fun i j h=>Yl (Zvb N g _ j) [] [(0,.sl 8)] ?_;exact oi h▸wr J 6 func61 [(6,.sl 8)]
 refine wa J 1 (YO (σ:=(List (Int × Bool)) × (List Int) × (List Int)) (fun st=>⟨[(0,.B 0 0),(5,.S 6),(6,.S 8),(7,.S 9)],[(0,.box (Vm 1 2 3 4 c) 78),(6,.av (Xr rB false false st.1)),(8,.own rA st.2.1 true),(9,.own rA st.2.2 true)],(U7 1 2 3 4 c [(5,.sl rA d)]),10⟩) (fun n st=>Qk N c n st.1 st.2.1 st.2.2) (r:=r) (fun _=>rfl) ?_ (fun ih=>?_))
 ·intro n2 ih3;rintro ⟨k,l,m⟩ h;unfold Qk at h;refine Yv J 7 h (fun h=>wa J 2 (Yi [] (j1 l h))) fun h=>?_;refine wO J 9 h fun o p h=>Xg J rA p (XS J oD p ?_);refine wO J 8 h fun s t h=>VM J rA t ?_;refine wO J 7 h fun u v h=>G7 (nl:=false) oB Zkv (Zm v) ?_;refine wB J 1 h (fun h=>wa J 2 (eSl rA 11 t (Yi [(9,.sl 11)] (ih3 (k,l,s) h)))) fun h=>wa J 6 (LP (q:=o) (lC:=k) [] oB true Zkv (wa J 5 (YX J [] oD ([o]:List Int) ?_)));have ⟨x,y,h⟩:=ob h;refine Xv J rA y ?_;refine wO J 9 h fun z A h=>YK J Zbj A ?_;exact wO J 2 h fun C D h=>eSl rA 11 t (Xv J rA D (wa J 3 (Yi [(8,.sl 13),(9,.sl 18)] (ih3 ((Xd k o true),x,C) h))))
 exact Yi [(8,.nil),(9,.sl 7)] (ih N (([]:(List (Int × Bool))),([]:List Int),e) h)
theorem ZvF (c:be) (r:be) (h:ZcE N c=some r) :
 Fn aB 161 ⟨1,[.B 0 0],[],[(0,.box [.v (.pointer none),.nil] 195)],2,.t [],[],[(1,.buf r 5),(0,.box [.bp 0 0,.sl 1] 195)]⟩:=Yy func161 rfl fun E F w=>by
 unfold ZcE at h;refine wa J 6 (ePz (wa J 5 (eCu (eNe func200 (by kernel_rfl) (by kernel_rfl) (by kernel_rfl) (by kernel_rfl) (eCq ?_)))));exact oi h▸wr J 4 func161 [(1,.nil)]
theorem ZvU (d:be) (e:Int) (r:be) (h:ZcO N d e=some r) :
 Fn aB 201 ⟨1,[.S 0,.c (.i .i32 e)],[],[(0,.buf d 5)],2,.S 1,[],[(1,.buf r 5),(0,.gone)]⟩:=Yy func201 rfl fun E F w=>by
 unfold ZcO at h;refine wB J 17 h (fun h=>?_) fun h=>wa J 8 (YE (σ:=Bool) (fun st=>⟨[(0,.S 0),(1,.c (.i .i32 e)),(5,.c (.i .u32 (wk .u32 (e)))),(25,.O st)],[(0,.buf d 5)],[],1⟩) (fun st=>H3 d e st=some r) ?_ (fun j1=>?_))
 ·refine wO J 5 h fun f g h=>WQ g ?_;refine wO J 1 h fun j k h=>WQ k ?_;refine wO J 2 h fun l m h=>WQ m ?_;have ⟨o,p,h⟩:=ob h;refine WQ p (YX J [] (oI .u8) ([j,o]:List Int) ?_);have ⟨s,t,h⟩:=ob h;refine LN (ty:=5) (fr:=true) (q:=1) J t ?_;exact oi h▸wr J 2 func201 [(1,.sl 2)]
 ·intro u h;unfold H3 at h;refine eB h (fun h=>?_) fun h=>?_
  ·refine wO J 5 h fun v x h=>WQ x ?_;refine wO J 1 h fun y z h=>WQ z ?_;refine wO J 1 h fun A C h=>WQ C ?_;refine wO J 1 h fun D G h=>WQ G ?_;have ⟨H,R,h⟩:=ob h;refine WQ R ?_;refine wO J 2 h fun T U h=>WQ U ?_;have ⟨X,Y,h⟩:=ob h;refine WQ Y (YX J [] (oI .u8) ([y,H,X]:List Int) ?_);have ⟨Z,a0,h⟩:=ob h;refine LN (ty:=5) (fr:=true) (q:=1) J a0 ?_;exact oi h▸wr J 2 func201 [(1,.sl 2)]
  refine Yv J 6 h (fun h=>wa J 9 (YX J [] (oI .u8) ([239,191,189]:List Int) ?_)) fun h=>?_
  ·have ⟨b0,c0,h⟩:=ob h;refine LN (ty:=5) (fr:=true) (q:=1) J c0 ?_;exact oi h▸wr J 2 func201 [(1,.sl 2)]
  refine Yv J 5 h (fun h=>wa J 4 (YX J [] (oI .u8) ([239,191,189]:List Int) ?_)) fun h=>?_
  ·have ⟨e0,g0,h⟩:=ob h;refine LN (ty:=5) (fr:=true) (q:=1) J g0 ?_;exact oi h▸wr J 2 func201 [(1,.sl 2)]
  refine wO J 5 h fun i0 j0 h=>WQ j0 ?_;refine wO J 1 h fun k0 l0 h=>WQ l0 ?_;refine wO J 1 h fun m0 o0 h=>WQ o0 ?_;refine wO J 1 h fun p0 q0 h=>WQ q0 ?_;have ⟨s0,t0,h⟩:=ob h;refine WQ t0 ?_;refine wO J 1 h fun u0 v0 h=>WQ v0 ?_;refine wO J 1 h fun x0 y0 h=>WQ y0 ?_;have ⟨z0,A0,h⟩:=ob h;refine WQ A0 ?_;refine wO J 2 h fun B0 C0 h=>WQ C0 ?_;have ⟨D0,G0,h⟩:=ob h;refine WQ G0 (YX J [] (oI .u8) ([k0,s0,z0,D0]:List Int) ?_);have ⟨H0,I0,h⟩:=ob h;refine LN (ty:=5) (fr:=true) (q:=1) J I0 ?_;exact oi h▸wr J 2 func201 [(1,.sl 2)]
 refine eB h (fun h=>wa J 2 (Yi [] (j1 true h))) fun h=>?_;exact wB J 5 h (fun h=>wa J 5 (Yi [] (j1 (decide ((wk .u32 (e))<=65535)) h))) fun h=>wa J 5 (Yi [] (j1 false h))
theorem ZmB (d:be) (e:Int) (r:be) (h:HX N d e=some r) :
 Fn aB 162 ⟨1,[.S 0,.c (.i .i32 e)],[],[(0,.buf d 5)],2,.S 1,[],[(1,.buf r 5),(0,.gone)]⟩:=Yy func162 rfl fun E F w=>by
 unfold HX at h;refine wB J 11 h (fun h=>wa J 6 (YX J [] (oI .u8) ([(wk .u8 (e))]:List Int) ?_)) fun h=>?_
 ·have ⟨f,g,h⟩:=ob h;refine LN (ty:=5) (fr:=true) (q:=1) J g ?_;exact oi h▸wr J 2 func162 [(1,.sl 2)]
 refine wO J 6 h fun j k h=>Yl (ZvU N d e _ k) [] [(0,.sl 0)] ?_;exact oi h▸wr J 2 func162 [(1,.sl 1)]
theorem Zmv (d:Int) (e:be) (r:Int × Unit × be) (h:HO N d e=some r) :
 Fn aB 122 ⟨1,[.B 0 0,.c (.i .i32 d)],[],[(0,.box [.v (.pointer none),.nil] 195)],2,.t [.inl (.I r.1),.inl (.v .nilIface)],[],[(1,.buf r.2.2 5),(0,.box [.bp 0 0,.sl 1] 195)]⟩:=Yy func122 rfl fun E F w=>by
 unfold HO at h;refine wO J 8 h fun f g h=>Yl (ZvF N ao _ g) [] [(0,.bp 0 0)] (wa J 7 (LM (sb:=f) (ty:=5) J ?_));refine wO J 10 h fun j k h=>Yl (ZmB N f d _ k) [] [(0,.sl 1)] (wa J 10 (LM (sb:=j) (ty:=5) J ?_));exact oi h▸wr J 5 func122 [(1,.sl 2)]
theorem ZvG (c:be) (r:Unit) (h:ZcG N c=some r) :
 Fn aB 161 ⟨2,[.B 0 0],[],[(0,.box [.bp 0 0,.sl 1] 195),(1,.buf c 5)],2,.t [],[],[(0,.box [.bp 0 0,.sl 1] 195),(1,.buf c 5)]⟩:=Yy func161 rfl fun E F w=>by
 unfold ZcG at h;refine wa J 6 (ePn false (wa J 9 (ePs ?_)));cases h;exact wr J 3 func161 []
theorem Zgn (d:Int) (e:be) (r:Int × Unit × be) (h:Mp N d e=some r) :
 Fn aB 122 ⟨2,[.B 0 0,.c (.i .i32 d)],[],[(0,.box [.bp 0 0,.sl 1] 195),(1,.buf e 5)],3,.t [.inl (.I r.1),.inl (.v .nilIface)],[],[(1,.gone),(2,.buf r.2.2 5),(0,.box [.bp 0 0,.sl 2] 195)]⟩:=Yy func122 rfl fun E F w=>by
 unfold Mp at h;refine wO J 8 h fun f g h=>Yl (ZvG N e _ g) [] [(0,.bp 0 0),(1,.sl 1)] (wa J 7 (LM (sb:=e) (ty:=5) J ?_));refine wO J 10 h fun j k h=>Yl (ZmB N e d _ k) [] [(0,.sl 1)] (wa J 10 (LM (sb:=j) (ty:=5) J ?_));exact oi h▸wr J 5 func122 [(2,.sl 2)]
theorem ZmV (d:be) (r:be) (h:Gz N d=some r) :
 Fn aB 96 ⟨2,[.B 0 0],[],[(0,.box [.bp 0 0,.sl 1] 195),(1,.buf d 5)],2,.c (.s r),[],[(0,.box [.bp 0 0,.sl 1] 195),(1,.gone)]⟩:=Yy func96 rfl fun E F w=>by
 unfold Gz at h;refine wO J 10 h fun e f h=>eUd (ty:=5) (ZaT f) (wa J 4 (LM (sb:=d) (ty:=5) J ?_));have ⟨g,i,h⟩:=ob h;refine eUs (ty:=5) (ZaT i) (wa J 1 (YJ ?_));cases h;exact Xh J func96 []
theorem ZwY (d:be) (r:be) (h:Zhe N d=some r) :
 Fn aB 96 ⟨1,[.B 0 0],[],[(0,.box [.v (.pointer none),.nil] 195)],1,.c (.s r),[],[(0,.box [.v (.pointer none),.nil] 195)]⟩:=Yy func96 rfl fun E F w=>by
 unfold Zhe at h;refine wa J 10 (eUn (wa J 5 (eUz (wa J 1 (YJ ?_)))));cases h;exact Xh J func96 []
theorem Zg4 (d:(List Int)) (r:be) (h:M3 N d=some r) :
 Fn aB 62 ⟨1,[.S 0],[(0,.sl rA d)],[],1,.c (.s r),[],[]⟩:=Yy func62 rfl fun E F w=>by
 unfold M3 at h;refine wa J 16 (ePl ?_);refine Yv J 5 h (fun h=>?_) fun h=>?_
 ·refine wO J 4 h fun e f h=>Yl (ZwY N ao _ f) [] [(0,.bp 1 0)] ?_;exact oi h▸wr J 2 func62 []
 refine wO J 6 h fun g i h=>YK J oD i ?_;refine wO J 6 h fun j k h=>Yl (Zmv N (wk .i32 (g)) ao _ k) [] [(0,.bp 1 0)] (wa J 6 (ZeM (σ:=be × Int) (fun st=>⟨[(3,.B 1 0),(6,.S 0),(7,.I (d.length:Int)),(8,.I st.2)],[(1,.box [.bp 1 0,.sl 4] 195),(4,.buf st.1 5)],[(0,.sl rA d)],5⟩) (fun n st=>M5 N d n st.1 st.2) (r:=r) (fun _=>rfl) ?_ (fun ih=>?_)))
 ·intro n2 ih3;rintro ⟨l,m⟩ h;unfold M5 at h;refine Yv J 5 h (fun h=>?_) fun h=>?_
  ·refine wO J 4 h fun o p h=>Yl (ZmV N l _ p) [] [(0,.bp 1 0),(1,.sl 4)] ?_;exact oi h▸wr J 2 func62 []
  refine wO J 6 h fun q t h=>YK J oD t ?_;exact wO J 6 h fun u v h=>Yl (Zgn N (wk .i32 (q)) l _ v) [] [(0,.bp 1 0),(1,.sl 4)] (wa J 6 (Yi [(4,.sl 6)] (ih3 (u.2.2,(Yh (m+1))) h)))
 exact Yi [(4,.sl 3)] (ih N (j.2.2,(Yh ((0:Int)+(1:Int)))) h)
theorem ZmG (c:Int) (r:Bool) (h:H4 N c=some r) :
 Fn aB 225 ⟨0,[.I c],[],[],0,.O r,[],[]⟩:=Yy func225 rfl fun E F w=>by
 unfold H4 at h;exact oi h▸wr J 11 func225 []
theorem ZgG (c:Int) (d:Int) (r:Int) (h:MK N c d=some r) :
 Fn aB 203 ⟨0,[.I c,.I d],[],[],0,.I r,[],[]⟩:=Yy func203 rfl fun E F w=>by
 unfold MK at h;refine wO J 7 h fun e f h=>Yl (ZmG N c _ f) [] [] ?_;refine wO J 5 h fun g i h=>Yl (ZmG N d _ i) [] [] ?_;refine wB J 7 h (fun h=>?_) fun h=>?_
 ·exact wB J 6 h (fun h=>oi h▸wr J 5 func203 []) fun h=>oi h▸wr J 6 func203 []
 refine wB J 7 h (fun h=>oi h▸wr J 5 func203 []) fun h=>?_;refine wB J 9 h (fun h=>oi h▸wr J 5 func203 []) fun h=>?_;exact wB J 9 h (fun h=>oi h▸wr J 5 func203 []) fun h=>oi h▸wr J 6 func203 []
theorem ZvV (c:(List Int)) (r:Int) (h:ZcP N c=some r) :
 Fn aB 202 ⟨1,[.S 0],[(0,.sl rA c)],[],1,.I r,[],[]⟩:=Yy func202 rfl fun E F w=>by
 unfold ZcP at h;refine wa J 15 (YE (σ:=Unit) (fun st=>⟨[(3,.I 0)],[],[(0,.sl rA c)],1⟩) (fun st=>ZcQ=some r) ?_ (fun j1=>?_))
 ·intro _ h;unfold ZcQ at h;exact oi h▸wr J 5 func202 []
 refine wa J 1 (YO (σ:=Int) (fun st=>⟨[(3,.I 0),(6,.S 0),(7,.I (c.length:Int)),(8,.I st)],[],[(0,.sl rA c)],1⟩) (fun n st=>Rf c n st) (r:=r) (fun _=>rfl) ?_ (fun ih=>?_))
 ·intro n2 ih3;intro d h;unfold Rf at h;refine Yv J 5 h (fun h=>wa J 2 (Yi [] (j1 () h))) fun h=>?_;refine wO J 6 h fun e f h=>YK J oD f ?_;exact wB J 9 h (fun h=>oi h▸wr J 6 func202 []) fun h=>wa J 7 (Yi [] (ih3 (Yh (d+1)) h))
 exact Yi [] (ih N 0 h)
theorem ZmC (c:T6) (d:T6) (r:Int) (h:z164 N c d=some r) :
 Fn aB 164 ⟨0,[.a (Pz c),.a (Pz d)],[],[],0,.I r,[],[]⟩:=Yy func164 rfl fun E F w=>by
 unfold z164 at h;refine wO J 12 h fun e f h=>Yl (ZgG N c.ZB d.ZB _ f) [] [] ?_;refine wO J 4 h fun g i h=>Yl (ZgG N c.To d.To _ i) [] [] ?_;refine wO J 4 h fun j k h=>Yl (ZgG N c.ZP d.ZP _ k) [] [] (YX J [] oD ([e,g,j]:List Int) ?_);have ⟨l,m,h⟩:=ob h;refine Ws (ZvV N ([e,g,j]:List Int) _ m) [] [(0,.sl 2)] [2] (.inr ⟨rfl,trivial⟩) (wa J 1 (YJ ?_));cases h;exact Xh J func164 []
theorem ZvJ (d:(List T6)) (e:T6) (r:Int × Bool) (h:Bf N d e=some r) :
 Fn aB 163 ⟨1,[.S 0,.a (Pz e),.c (.cl 164 [] [])],[(0,.sl ku d)],[],1,.t [.inl (.I r.1),.inl (.b r.2)],[],[]⟩:=Yy func163 rfl fun E F w=>by
 unfold Bf at h;refine wa J 19 (YE (σ:=Int) (fun st=>⟨[(0,.S 0),(2,.c (.cl 164 [] [])),(4,.B 1 0),(8,.I (d.length:Int)),(9,.I st)],[(1,.box (Pz e) 39)],[(0,.sl ku d)],2⟩) (fun st=>ZcI N d e st=some r) ?_ (fun j1=>?_))
 ·intro f h;unfold ZcI at h;refine Yv J 7 h (fun h=>wa J 11 (YJ ?_)) fun h=>?_
  ·cases h;exact Xh J func163 []
  refine wO J 3 h fun g i h=>YK J Wy i ?_;refine wO J 2 h fun j k h=>Yl (ZmC N g e _ k) [] [] (wa J 4 (YJ ?_));cases h;exact Xh J func163 []
 refine wa J 1 (YO (σ:=Int × Int) (fun st=>⟨[(0,.S 0),(2,.c (.cl 164 [] [])),(4,.B 1 0),(8,.I (d.length:Int)),(9,.I st.1),(10,.I st.2)],[(1,.box (Pz e) 39)],[(0,.sl ku d)],2⟩) (fun n st=>Sq N d e n st.1 st.2) (r:=r) (fun _=>rfl) ?_ (fun ih=>?_))
 ·intro n2 ih3;rintro ⟨l,m⟩ h;unfold Sq at h;refine Yv J 7 h (fun h=>wa J 2 (Yi [] (j1 l h))) fun h=>?_;refine wO J 9 h fun o p h=>WQ p ?_;refine wO J 8 h fun q s h=>YK J Wy s ?_;refine wO J 2 h fun u v h=>Yl (ZmC N q e _ v) [] [] (wa J 1 (YJ ?_));exact eB h (fun h=>wa J 7 (Yi [] (ih3 ((Yh ((Yh (o))+1)),m) h))) fun h=>wa J 6 (Yi [] (ih3 (l,(Yh (o))) h))
 exact Yi [] (ih N (0,(d.length:Int)) h)
theorem Zel {n i:Nat} (h:i<=n):WJ (some (i:Int)) none n=some (i,n):=by
 have h2:(i:Int)<=(n:Int):=by omega
 simp only [WJ,bc,Option.getD_none,bD,dU,decide_true,h2,Int.le_refl,Bool.and_self,lV]
theorem ZnX {n i:Nat} (h:i<=n):WJ none (some (i:Int)) n=some (0,i):=by
 have h2:(i:Int)<=(n:Int):=by omega
 simp only [WJ,bc,Option.getD_none,bD,dU,decide_true,h2,Int.le_refl,Bool.and_self,lV,Int.toNat_zero]
theorem Tu {α:Type} {xs:List α} {i:Nat} (h:i<=xs.length):lsl xs (some (i:Int)) none=some (xs.drop i):=by unfold Kx.lsl;rw [Zel h];simp
theorem L8 {α:Type} {xs:List α} {i:Nat} (h:i<=xs.length):lsl xs none (some (i:Int))=some (xs.take i):=by unfold Kx.lsl;rw [ZnX h];simp
theorem Zay {α:Type} {xs:List α} {x:α} {i:Nat} (h:i < xs.length):RA xs (some (i:Int)) none [x]=some (xs.take i++[x]++xs.drop (i+1),1):=by
 unfold RA;rw [Zel (Nat.le_of_lt h)];have e:min ([x]:List α).length (xs.length-i)=1:=by simp;omega
 simp only [ba,e];rfl
theorem Zih {α:Type} {xs ys:List α} {i:Nat} (h:i+ys.length=xs.length):RA xs (some (i:Int)) none ys=some (xs.take i++ys,(ys.length:Int)):=by
 unfold RA;rw [Zel (by omega)];have e:min ys.length (xs.length-i)=ys.length:=by omega
 simp only [ba,e];rw [dQ,h,jH,bn]
theorem Zvc (xs:List T6) (x:T6) (i:Nat) (hi:i<=xs.length) (hlim:xs.length+1<=lim) :
 Fn aB 165 ⟨2,[.S 0,.I (i:Int),.S 1],[(1,.fn (RQ 1))],[(0,.own ku xs false),(1,.av (Ub ku [x]))],3,.S 2,[],[(0,.gone),(1,.av (Ub ku [x])),(2,.own ku (xs.take i++[x]++xs.drop i) false)]⟩:=by
 have hl:lim=4294967296:=rfl;have hw:Yh ((xs.length:Int)+1)=((xs.length+1:Nat):Int):=by rw [show ((xs.length:Int)+1)=((xs.length+1:Nat):Int) by omega];exact U9 (by omega) (by omega)
 refine Yy func165 rfl (fun E F w=>?_);refine wn J (VM J ku (Tu hi) (wn J (eLn (len:=1) J (wn J (wa J 1 (wn J ?_))))));by_cases he:i=xs.length
 ·refine ek J (b:=((i:Int)==(xs.length:Int))) (t:=true) (by rw [he];exact l7 _) ?_;refine eKa J ku (zs:=xs++[x]) (by unfold Y7;rw [ai (show xs.length+[x].length<=lim from hlim)];rfl) (wm J ?_);exact WS (R:=ku) (fr:=false) (xs:=xs++[x]) (xs.take i++[x]++xs.drop i) 3 (by rw [he,dQ,jH,bn]) (Xh J func165 [(2,.sl 3)])
 have hlt:i < xs.length:=by omega
 have hw2:Yh ((i:Int)+1)=((i+1:Nat):Int):=by rw [show ((i:Int)+1)=((i+1:Nat):Int) by omega];exact U9 (by omega) (by omega)
 refine ek J (b:=((i:Int)==(xs.length:Int))) (t:=false) (l5.2 (by omega)) ?_;refine eKc (R:=ku) (xs:=xs) (fr:=false) J (fun c K=>?_);refine wn J ?_;by_cases hr:xs.length+1<=c
 ·refine ek J (b:=decide (Yh ((xs.length:Int)+1) > (c:Int))) (t:=false) (decide_eq_false (by rw [hw];omega)) ?_;refine eKr (R:=ku) (xs:=xs) (fr:=false) (cp:=c) J 1 hw hr (by omega) (wm J ?_);refine LO (R:=ku) (xs:=xs) (m:=1) J (i+1) hw2 (by omega) (wm J ?_);refine eKo (R:=ku) (xs:=xs) (ys:=[x]) (m:=1) (l:=i+1) (t:=159) (tR:=4) (f:=204) J 3 (run_callFunc_extern func204 (by kernel_rfl) (by kernel_rfl) (by kernel_rfl) (by kernel_rfl)) (by omega) (wn J (wa J 1 (wn J ?_)));refine LO (R:=ku) (xs:=xs) (m:=1) J (i+1) hw2 (by omega) (wm J ?_);refine LO (R:=ku) (xs:=xs) (m:=1) J i rfl (by omega) (wm J ?_);refine eKh (R:=ku) (xs:=xs) J 3 i hlt (YJ (wm J ?_));have e1:(xs.take (i+1)++xs.drop i).length=xs.length+1:=by simp;omega
  refine VM J ku (Tu (xs:=xs.take (i+1)++xs.drop i) (i:=i) (by omega)) (wm J ?_);refine eKw J ku (Zay (xs:=xs.take (i+1)++xs.drop i) (x:=x) (i:=i) (by omega)) (wm J ?_);refine WS (R:=ku) (fr:=false) (xs:=(xs.take (i+1)++xs.drop i).take i++[x]++(xs.take (i+1)++xs.drop i).drop (i+1)) (xs.take i++[x]++xs.drop i) 3 ?_ (Xh J func165 [(2,.sl 3)]);have h1:(xs.take (i+1)).length=i+1:=by rw [aL];omega
  rw [bw (by omega),fx,cQ (by omega),List.drop_left' h1]
 refine ek J (b:=decide (Yh ((xs.length:Int)+1) > (c:Int))) (t:=true) (lY (by rw [hw];omega)) ?_;have hw3:Yh (Yh ((xs.length:Int)+1)-(i:Int))=((xs.length+1-i:Nat):Int):=by rw [hw,show ((xs.length+1:Nat):Int)-(i:Int)=((xs.length+1-i:Nat):Int) by omega];exact U9 (by omega) (by omega)
 refine VM J ku (L8 hi) (wm J ?_);refine eKz (R:=ku) (xs:=xs) (fr:=false) (cp:=c) (tn:=3) J Wy (⟨0,0,0⟩:T6) 0 i (xs.length+1-i) hw3 (by omega) (by omega) (by omega) (by omega) (by omega) ⟨.i64,by kernel_rfl⟩ (wm J ?_);have e1:(xs.take i++aP (xs.length+1-i) (⟨0,0,0⟩:T6)).length=xs.length+1:=by simp;omega
 refine VM J ku (Tu (xs:=xs.take i++aP (xs.length+1-i) (⟨0,0,0⟩:T6)) (i:=i) (by omega)) (wm J ?_);refine eKw J ku (Zay (xs:=xs.take i++aP (xs.length+1-i) (⟨0,0,0⟩:T6)) (x:=x) (i:=i) (by omega)) (wm J ?_);obtain ⟨ys,hys⟩:∃ ys,ys=(xs.take i++aP (xs.length+1-i) (⟨0,0,0⟩:T6)).take i++[x]++(xs.take i++aP (xs.length+1-i) (⟨0,0,0⟩:T6)).drop (i+1):=⟨_,rfl⟩
 have e2:ys.length=xs.length+1:=by rw [hys];simp;omega
 rw [<- hys];refine VM (lo:=some (Yh ((i:Int)+1))) J ku (by rw [hw2];exact Tu (xs:=ys) (by omega)) (wm J ?_);refine VM J ku (Tu hi) (wm J ?_);refine eDw (lo:=some (Yh ((i:Int)+1))) J ku (Tu hi) (by rw [hw2];exact Zih (xs:=ys) (ys:=xs.drop i) (by rw [bg];omega)) (YJ (wm J ?_));refine WS (R:=ku) (fr:=true) (xs:=ys.take (i+1)++xs.drop i) (xs.take i++[x]++xs.drop i) 4 ?_ (Xh J func165 [(2,.sl 4)]);have h1:(xs.take i).length=i:=by rw [aL];omega
 have hT:(xs.take i++aP (xs.length+1-i) (⟨0,0,0⟩:T6)).take i=xs.take i:=by rw [bw (by omega),fx,Nat.min_self]
 rw [hys,hT,List.take_left' (l₁:=xs.take i++[x]) (by rw [ah,h1];rfl)]
theorem Zqi (xs:List (List Int ⊕ G1)) (x:(List Int ⊕ G1)) (i:Nat) (hi:i<=xs.length) (hlim:xs.length+1<=lim) :
 Fn aB 166 ⟨2,[.S 0,.I (i:Int),.S 1],[(1,.fn (RQ 1))],[(0,.own (XX rA) xs false),(1,.av (Ub (XX rA) [x]))],3,.S 2,[],[(0,.gone),(1,.av (Ub (XX rA) [x])),(2,.own (XX rA) (xs.take i++[x]++xs.drop i) false)]⟩:=by
 have hl:lim=4294967296:=rfl;have hw:Yh ((xs.length:Int)+1)=((xs.length+1:Nat):Int):=by rw [show ((xs.length:Int)+1)=((xs.length+1:Nat):Int) by omega];exact U9 (by omega) (by omega)
 refine Yy func166 rfl (fun E F w=>?_);refine wn J (VM J (XX rA) (Tu hi) (wn J (eLn (len:=1) J (wn J (wa J 1 (wn J ?_))))));by_cases he:i=xs.length
 ·refine ek J (b:=((i:Int)==(xs.length:Int))) (t:=true) (by rw [he];exact l7 _) ?_;refine eKa J (XX rA) (zs:=xs++[x]) (by unfold Y7;rw [ai (show xs.length+[x].length<=lim from hlim)];rfl) (wm J ?_);exact WS (R:=(XX rA)) (fr:=false) (xs:=xs++[x]) (xs.take i++[x]++xs.drop i) 3 (by rw [he,dQ,jH,bn]) (Xh J func166 [(2,.sl 3)])
 have hlt:i < xs.length:=by omega
 have hw2:Yh ((i:Int)+1)=((i+1:Nat):Int):=by rw [show ((i:Int)+1)=((i+1:Nat):Int) by omega];exact U9 (by omega) (by omega)
 refine ek J (b:=((i:Int)==(xs.length:Int))) (t:=false) (l5.2 (by omega)) ?_;refine eKc (R:=(XX rA)) (xs:=xs) (fr:=false) J (fun c K=>?_);refine wn J ?_;by_cases hr:xs.length+1<=c
 ·refine ek J (b:=decide (Yh ((xs.length:Int)+1) > (c:Int))) (t:=false) (decide_eq_false (by rw [hw];omega)) ?_;refine eKr (R:=(XX rA)) (xs:=xs) (fr:=false) (cp:=c) J 1 hw hr (by omega) (wm J ?_);refine LO (R:=(XX rA)) (xs:=xs) (m:=1) J (i+1) hw2 (by omega) (wm J ?_);refine eKo (R:=(XX rA)) (xs:=xs) (ys:=[x]) (m:=1) (l:=i+1) (t:=163) (tR:=4) (f:=206) J 3 (run_callFunc_extern func206 (by kernel_rfl) (by kernel_rfl) (by kernel_rfl) (by kernel_rfl)) (by omega) (wn J (wa J 1 (wn J ?_)));refine LO (R:=(XX rA)) (xs:=xs) (m:=1) J (i+1) hw2 (by omega) (wm J ?_);refine LO (R:=(XX rA)) (xs:=xs) (m:=1) J i rfl (by omega) (wm J ?_);refine eKh (R:=(XX rA)) (xs:=xs) J 3 i hlt (YJ (wm J ?_));have e1:(xs.take (i+1)++xs.drop i).length=xs.length+1:=by simp;omega
  refine VM J (XX rA) (Tu (xs:=xs.take (i+1)++xs.drop i) (i:=i) (by omega)) (wm J ?_);refine eKw J (XX rA) (Zay (xs:=xs.take (i+1)++xs.drop i) (x:=x) (i:=i) (by omega)) (wm J ?_);refine WS (R:=(XX rA)) (fr:=false) (xs:=(xs.take (i+1)++xs.drop i).take i++[x]++(xs.take (i+1)++xs.drop i).drop (i+1)) (xs.take i++[x]++xs.drop i) 3 ?_ (Xh J func166 [(2,.sl 3)]);have h1:(xs.take (i+1)).length=i+1:=by rw [aL];omega
  rw [bw (by omega),fx,cQ (by omega),List.drop_left' h1]
 refine ek J (b:=decide (Yh ((xs.length:Int)+1) > (c:Int))) (t:=true) (lY (by rw [hw];omega)) ?_;have hw3:Yh (Yh ((xs.length:Int)+1)-(i:Int))=((xs.length+1-i:Nat):Int):=by rw [hw,show ((xs.length+1:Nat):Int)-(i:Int)=((xs.length+1-i:Nat):Int) by omega];exact U9 (by omega) (by omega)
 refine VM J (XX rA) (L8 hi) (wm J ?_);refine eKz (R:=(XX rA)) (xs:=xs) (fr:=false) (cp:=c) (tn:=3) J (Hc rA) (.inr Xn:List Int ⊕ G1) 0 i (xs.length+1-i) hw3 (by omega) (by omega) (by omega) (by omega) (by omega) ⟨.i64,by kernel_rfl⟩ (wm J ?_);have e1:(xs.take i++aP (xs.length+1-i) (.inr Xn:List Int ⊕ G1)).length=xs.length+1:=by simp;omega
 refine VM J (XX rA) (Tu (xs:=xs.take i++aP (xs.length+1-i) (.inr Xn:List Int ⊕ G1)) (i:=i) (by omega)) (wm J ?_);refine eKw J (XX rA) (Zay (xs:=xs.take i++aP (xs.length+1-i) (.inr Xn:List Int ⊕ G1)) (x:=x) (i:=i) (by omega)) (wm J ?_);obtain ⟨ys,hys⟩:∃ ys,ys=(xs.take i++aP (xs.length+1-i) (.inr Xn:List Int ⊕ G1)).take i++[x]++(xs.take i++aP (xs.length+1-i) (.inr Xn:List Int ⊕ G1)).drop (i+1):=⟨_,rfl⟩
 have e2:ys.length=xs.length+1:=by rw [hys];simp;omega
 rw [<- hys];refine VM (lo:=some (Yh ((i:Int)+1))) J (XX rA) (by rw [hw2];exact Tu (xs:=ys) (by omega)) (wm J ?_);refine VM J (XX rA) (Tu hi) (wm J ?_);refine eDw (lo:=some (Yh ((i:Int)+1))) J (XX rA) (Tu hi) (by rw [hw2];exact Zih (xs:=ys) (ys:=xs.drop i) (by rw [bg];omega)) (YJ (wm J ?_));refine WS (R:=(XX rA)) (fr:=true) (xs:=ys.take (i+1)++xs.drop i) (xs.take i++[x]++xs.drop i) 4 ?_ (Xh J func166 [(2,.sl 4)]);have h1:(xs.take i).length=i:=by rw [aL];omega
 have hT:(xs.take i++aP (xs.length+1-i) (.inr Xn:List Int ⊕ G1)).take i=xs.take i:=by rw [bw (by omega),fx,Nat.min_self]
 rw [hys,hT,List.take_left' (l₁:=xs.take i++[x]) (by rw [ah,h1];rfl)]
abbrev SA:=List (G1 × List Int)
abbrev S4:kS (List Int ⊕ G1):=XX rA
abbrev W1 (ps:SA):List (List Int ⊕ G1):=ps.map fun p=>.inr p.1
abbrev Va (ps:SA):List (List Int):=ps.map (·.2)
theorem Zrx {α:Type} {xs:List α} {i:Nat} {x:α} (h:xs[i]? = some x):xs=xs.take i++[x]++xs.drop (i+1):=by obtain ⟨hi,rfl⟩:=aE.1 h;rw [aU,List.singleton_append,<- List.drop_eq_getElem_cons hi,cC]
theorem Zqa {ps:SA} {i:Nat} {u:G1} {t:List Int} (h:ps[i]? = some (u,t)):idx (W1 ps) (i:Int)=some (.inr u):=by unfold idx;rw [lY (dU i),lV,bD,W1,aK,h];rfl
theorem ZlA {α:Type} {xs:List α} {i:Nat} {x:α} (h:i < xs.length):xs.set i x=xs.take i++[x]++xs.drop (i+1):=by rw [List.set_eq_take_append_cons_drop,lg h,aU];rfl
theorem ZtO {ps:SA} {i:Nat} {u:G1} {t:List Int} (h:i < ps.length):W1 (ps.take i++[(u,t)]++ps.drop (i+1))=YA (W1 ps) (i:Int) (.inr u):=by rw [YA,bD,ZlA (by simpa [W1] using h)];simp [W1]
theorem ZtQ {ps:SA} {i:Nat} {u:G1} {t:List Int} (h:i < ps.length):Va (ps.take i++[(u,t)]++ps.drop (i+1))=(Va ps).set i t:=by rw [ZlA (by simpa [Va] using h)];simp [Va]
theorem Zq6 (nm:be) (nodes:List YU) (set:List Int) (r:Lp) (h:Do N nodes set=some r) :
 Fn aB 123 ⟨6,[.B 0 0,.S 5],[(4,.sl rR12 nodes),(5,.sl rA set)],[(0,.box [.s nm,.sl 1,.sl 2,.sl 3,.sl 4] 78)],8,.t [.inl (.sl 6),.inl (.sl 7),.inl (.I r.2.2.1),.inl (.I r.2.2.2)],[],
  [(6,.own ku r.1 true),(7,.own (YH rA) r.2.1 true),(0,.box [.s nm,.sl 1,.sl 2,.sl 3,.sl 4] 78)]⟩:=Yy func123 rfl fun E F w=>by
 unfold Do at h;refine wa J 14 (eNo ku 4 (eNo S4 5 (eFe rA w.heap.size ?_)));refine YE (σ:=List T6 × SA × Int × Int) (fun st=>⟨[(0,.B 0 0),(4,.S 6),(5,.S 7),(6,.I st.2.2.1),(7,.I st.2.2.2)],[(0,.box [.s nm,.sl 1,.sl 2,.sl 3,.sl 4] 78),(6,.own ku st.1 true),(7,.own S4 (W1 st.2.1) true),(8,.abs (WD rA w.heap.size st.2.1))],[(4,.sl rR12 nodes),(5,.sl rA set)],9⟩) (fun st=>(st.1,Va st.2.1,st.2.2.1,st.2.2.2)=r) ?_ (fun j1=>?_)
 ·rintro ⟨A,ps,g,p⟩ hr;cases hr;exact eFf rA (ps:=ps) (fr:=true) 8 7 rfl rfl (wm J (Xh J func123 [(6,.sl 6),(7,.sl 7)]))
 refine wa J 1 (YO (σ:=List T6 × SA × Int × Int × Int) (fun st=>⟨[(0,.B 0 0),(4,.S 6),(5,.S 7),(6,.I st.2.2.1),(7,.I st.2.2.2.1),(14,.S 5),(15,.I (set.length:Int)),(16,.I st.2.2.2.2)],[(0,.box [.s nm,.sl 1,.sl 2,.sl 3,.sl 4] 78),(6,.own ku st.1 true),(7,.own S4 (W1 st.2.1) true),(8,.abs (WD rA w.heap.size st.2.1))],[(4,.sl rR12 nodes),(5,.sl rA set)],9⟩) (fun n st=>PT N nodes set n st.2.2.2.2 st.1 (Va st.2.1) st.2.2.1 st.2.2.2.1) (r:=r) (fun _=>rfl) ?_ (fun ih=>?_))
 ·rintro n ih ⟨d,ps0,g0,p0,k0⟩ h;unfold PT at h;obtain ⟨K,h⟩|⟨K,h⟩:=UY h
  ·exact wH J 5 K (wa J 2 (Yi [] (j1 (d,ps0,g0,p0) (Zm h))))
  refine wH J 5 K (wm J ?_);have ⟨m,hm,h⟩:=ob h;have ⟨nd,hnd,h⟩:=ob h;have ⟨q,hq,h⟩:=ob h;refine YK J oD hm (wm J ?_);refine YK J Zbj hnd (wa J 5 (YE (σ:=List T6 × SA × Int × Int) (fun st=>⟨[(0,.B 0 0),(4,.S 6),(5,.S 7),(6,.I st.2.2.1),(7,.I st.2.2.2),(14,.S 5),(15,.I (set.length:Int)),(16,.I k0)],[(0,.box [.s nm,.sl 1,.sl 2,.sl 3,.sl 4] 78),(6,.own ku st.1 true),(7,.own S4 (W1 st.2.1) true),(8,.abs (WD rA w.heap.size st.2.1))],[(4,.sl rR12 nodes),(5,.sl rA set)],9⟩) (fun st=>(st.1,Va st.2.1,st.2.2.1,st.2.2.2)=q) ?_ (fun j2=>?_)))
  ·rintro ⟨A,ps,g,p⟩ hr;cases hr;exact wm J (Yi [] (ih (A,ps,g,p,Yh (k0+1)) h))
  refine wa J 1 (YO (σ:=List T6 × SA × Int × Int × Int) (fun st=>⟨[(0,.B 0 0),(4,.S 6),(5,.S 7),(6,.I st.2.2.1),(7,.I st.2.2.2.1),(14,.S 5),(15,.I (set.length:Int)),(16,.I k0),(27,.S 12),(28,.I (nd.Yc.length:Int)),(29,.I st.2.2.2.2)],[(0,.box [.s nm,.sl 1,.sl 2,.sl 3,.sl 4] 78),(6,.own ku st.1 true),(7,.own S4 (W1 st.2.1) true),(8,.abs (WD rA w.heap.size st.2.1))],[(4,.sl rR12 nodes),(5,.sl rA set),(12,.sl P0 nd.Yc)],14⟩) (fun n st=>RT N nd.Yc n st.2.2.2.2 st.1 (Va st.2.1) st.2.2.1 st.2.2.2.1) (r:=q) (fun _=>rfl) ?_ (fun ih2=>?_))
  ·rintro n2 ih2 ⟨A,ps,g,p,k⟩ h2;replace h2:RT N nd.Yc (n2+1) k A (Va ps) g p=some q:=h2;unfold RT at h2;rcases UY h2 with ⟨K,h2⟩ | ⟨K,h2⟩
   ·exact wH J 5 K (wa J 2 (Yi [] (j2 (A,ps,g,p) (Zm h2))))
   refine wH J 5 K (wm J ?_);have ⟨a,ha,h2⟩:=ob h2;obtain ⟨⟨ri,rb⟩,hr,h2⟩:=ob h2;have ⟨hb,h2⟩:=og h2;simp only [Zc,lU] at hb;obtain ⟨⟨⟨hb0,hb1⟩,hb2⟩,hb3⟩:=hb;obtain ⟨i,rfl⟩:∃ i:Nat,ri=(i:Int):=⟨ri.toNat,(Int.toNat_of_nonneg hb0).symm⟩
   rw [bD] at hb1 h2;replace hb1:i<=A.length:=Ze hb1;replace hb2:A.length+1<=lim:=Ze hb2;replace hb3:ps.length=A.length:=by have:=Zd hb3;simpa [Va] using this
   have ⟨t,ht,h2⟩:=ob h2;have ⟨t',ht',h3⟩:=ob h2;clear h2;refine YK J oO9 ha (wm J ?_);refine Ws (ZvJ N A a.Z8 _ hr) [] [(0,.sl 6)] [6] (.inr ⟨rfl,trivial⟩) (wn J ?_);refine YE (σ:=List T6 × SA) (fun st=>⟨[(0,.B 0 0),(4,.S 6),(5,.S 7),(6,.I g),(7,.I p),(14,.S 5),(15,.I (set.length:Int)),(16,.I k0),(27,.S 12),(28,.I (nd.Yc.length:Int)),(29,.I k),(11,.B 15 0),(12,.I (i:Int))],[(0,.box [.s nm,.sl 1,.sl 2,.sl 3,.sl 4] 78),(6,.own ku st.1 true),(7,.own S4 (W1 st.2) true),(8,.abs (WD rA w.heap.size st.2)),(15,.box [.I a.Z8.ZB,.I a.Z8.To,.I a.Z8.ZP,.I a.to',.b a.again'] 244)],[(4,.sl rR12 nodes),(5,.sl rA set),(12,.sl P0 nd.Yc)],16⟩) (fun st=>st.1=(bif rb then A else W6 A i a.Z8)/\Va st.2=(bif rb then Va ps else W6 (Va ps) i [])) ?_ (fun j3=>?_)
   ·rintro ⟨j,ps1⟩ ⟨hA1,hT1⟩;replace hA1:j=(bif rb then A else W6 A i a.Z8):=hA1;replace hT1:Va ps1=(bif rb then Va ps else W6 (Va ps) i []):=hT1;rw [<- hT1] at ht;rw [<- hA1,<- hT1] at h3;obtain ⟨pp,hpp,hpt⟩:∃ pp,ps1[i]? = some pp/\pp.2=t:=by rw [Va,aK,Zn] at ht;exact ht
    have ⟨u,t0⟩:=pp;cases hpt;have hlt:i < ps1.length:=(aE.1 hpp).1;have e0:ps1=ps1.take i++[(u,t0)]++ps1.drop (i+1):=Zrx hpp;have hix:idx (W1 ps1) (i:Int)=some (.inr u):=Zqa hpp;refine eFt (n:=w.heap.size) rA 8 (ps1.take i) (u,t0) (ps1.drop (i+1)) e0 rfl (wm J ?_);refine Xg J S4 hix (wm J (PE (u:=u) J (Hc rA) 16 hix (wm J ?_)));refine YX J [] oD ([a.to']:List Int) (Xv J rA ht' (wm J ?_));refine Xg J S4 hix (wm J (LR (QH 19 (fun u'=>?_))));refine RF J [] (Hc rA) (.inr u') hix ?_;refine eFp (n:=w.heap.size) (u:=u') (D:=t') rA 8 19 (ps1.take i) (ps1.drop (i+1)) rfl rfl ?_;refine WS (R:=S4) (fr:=true) (xs:=YA (W1 ps1) (i:Int) (.inr u')) (W1 (ps1.take i++[(u',t')]++ps1.drop (i+1))) 7 (ZtO hlt) ?_;have e1:Va (ps1.take i++[(u',t')]++ps1.drop (i+1))=(Va ps1).set i t':=ZtQ hlt;rw [<- e1] at h3;refine wn J ?_;cases hg:a.again' with
    | true =>
     rw [hg] at h3;refine wa J 1 (wm J ?_);exact Yi [] (ih2 (j,ps1.take i++[(u',t')]++ps1.drop (i+1),Yh (g+1),p,Yh (k+1)) h3)
    | false =>
     rw [hg] at h3;refine wa J 1 (wm J ?_);exact Yi [] (ih2 (j,ps1.take i++[(u',t')]++ps1.drop (i+1),g,Yh (p+1),Yh (k+1)) h3)
   cases rb with
   | true=>exact wa J 2 (Yi [] (j3 (A,ps) ⟨rfl,rfl⟩))
   | false =>
    refine wa J 1 (wn J (eKb J Wy ([a.Z8]:List T6) (wm J ?_)));refine Yl (Zvc A a.Z8 i hb1 hb2) [] [(0,.sl 6),(1,.sl 16)] (wm J ?_);refine eKb J (Hc rA) ([.inr Xn]:List (List Int ⊕ G1)) (wm J ?_);refine Yl (Zqi (W1 ps) (.inr Xn) i (by simp [W1];omega) (by simp [W1];omega)) [] [(0,.sl 7),(1,.sl 18)] (wa J 2 ?_);refine eFi (n:=w.heap.size) rA 8 (ps.take i) (ps.drop i) (cC i ps).symm ?_;refine WS (R:=S4) (fr:=true) (xs:=(W1 ps).take i++[.inr Xn]++(W1 ps).drop i) (W1 (ps.take i++[(Xn,[])]++ps.drop i)) 19 (by simp [W1]) ?_;exact Yi [(6,.sl 17),(7,.sl 19)] (j3 (A.take i++[a.Z8]++A.drop i,ps.take i++[(Xn,[])]++ps.drop i) ⟨rfl,by simp [Va,W6]⟩)
  exact Yi [] (ih2 N (d,ps0,g0,p0,0) hq)
 exact Yi [] (ih N ([],[],0,0,0) h)
theorem Zht (o:X5) (v:List Int) (r:Lp) (h:GJ N o v=some r):Fn aB 123 ⟨6,[.B 0 0,.S 5],(U7 1 2 3 4 o [(5,.sl rA v)]),[(0,.box (Vm 1 2 3 4 o) 78)],8,.t [.inl (.sl 6),.inl (.sl 7),.inl (.I r.2.2.1),.inl (.I r.2.2.2)],[],[(6,.own ku r.1 true),(7,.own (YH rA) r.2.1 true),(0,.box (Vm 1 2 3 4 o) 78)]⟩:=by
 refine Fn.more (Zq6 N o.p'.Zu o.Ye v r h) (fun k g h=>?_);rw [YF] at h;split at h
 ·rename_i e;subst e;exact h
 ·rw [YF] at h;split at h
  ·rename_i e;subst e;exact h
  ·cases h
theorem ZwD (L_:G1) (N:Nat) (c:X5) (d:(List YW)) (e:Int) (r:(List (List Int)) × Bool × (List YW)) (h:M6 N c d e=some r) :
 Fn aB 63 ⟨7,[.B 0 0,.P 6 0],(U7 1 2 3 4 c [(5,.fn (Xy L_)),(6,.fn (Sb L_ (e.toNat * kq.sz)))]),[(0,.box (Vm 1 2 3 4 c) 78),(5,.own kq d false)],8,.t [.inl (.sl 7),.inl (.b r.2.1)],[],[(7,.own (YH rA) r.1 true),(0,.box (Vm 1 2 3 4 c) 78),(5,.own kq r.2.2 false)]⟩:=Yy func63 rfl fun E F w=>by
 unfold M6 at h;refine wa J 9 (LV (L:=L_) 6 5 (e.toNat * kq.sz) ?_);have ⟨f,g,h⟩:=ob h;refine VL 6 (wa J 1 (XS J Sg g ?_));have ⟨i,j,h⟩:=ob h;refine Yl (Zht N c f.set' _ j) [] [(0,.bp 0 0),(1,.sl 1),(2,.sl 2),(3,.sl 3),(4,.sl 4),(5,.sl 7)] (wa J 19 (VL 6 (wa J 1 (XS J Sg g ?_))));have ⟨k,l,h⟩:=ob h;refine YK J oD l (wa J 2 (VL 6 (wa J 1 (PD J [10] (Xi ku) g (Zrg f i.1) ?_))));have ⟨m,o,h⟩:=ob h;refine VL 6 (wa J 1 (PD J [] oB o (Zrf m (decide (i.2.2.1 > 0))) ?_));have ⟨p,q,h⟩:=ob h;refine VL 6 (wa J 1 (PD J [] oB q (Zre p (k==0)) ?_));refine wO J 5 h fun s u h=>VL 6 (wa J 1 (XS J Sg u ?_));refine wa J 1 (YE (σ:=Bool) (fun st=>⟨[(0,.B 0 0),(1,.P 6 0),(6,.S 10),(7,.S 11),(91,.O st)],[(0,.box (Vm 1 2 3 4 c) 78),(5,.own kq (YA (YA (YA d e (⟨f.set',f.end',f.again',f.ticks',f.other',i.1,f.to'⟩:YW)) e (⟨m.set',m.end',(decide (i.2.2.1 > 0)),m.ticks',m.other',m.acts',m.to'⟩:YW)) e (⟨p.set',(k==0),p.again',p.ticks',p.other',p.acts',p.to'⟩:YW)) false),(11,.own (YH rA) i.2.1 true)],(U7 1 2 3 4 c [(5,.fn (Xy L_)),(6,.fn (Sb L_ (e.toNat * kq.sz))),(10,.sl ku i.1)]),19⟩) (fun st=>Vt N c d e f i k m p st=some r) ?_ (fun j1=>?_))
 ·intro v h;unfold Vt at h;refine eB h (fun h=>oi h▸wr J 7 func63 [(7,.sl 11)]) fun h=>wa J 6 (LV (L:=L_) 6 5 (e.toNat * kq.sz) ?_);have ⟨x,y,h⟩:=ob h;refine VL 6 (wa J 1 (XS J Sg y (wa J 3 (YE (σ:=(List YW)) (fun st=>⟨[(7,.S 11)],[(0,.box (Vm 1 2 3 4 c) 78),(5,.own kq st false),(11,.own (YH rA) i.2.1 true)],(U7 1 2 3 4 c [(5,.fn (Xy L_)),(6,.fn (Sb L_ (e.toNat * kq.sz)))]),22⟩) (fun st=>Zdq i st=some r) ?_ (fun j2=>?_)))))
  ·intro z h;unfold Zdq at h;exact oi h▸wr J 6 func63 [(7,.sl 11)]
  refine wa J 1 (WY (L:=L_) 6 5 (e.toNat * kq.sz) (YO (σ:=(List YW) × Int) (fun st=>⟨[(0,.B 0 0),(1,.P 6 0),(6,.S 10),(7,.S 11),(96,.S 19),(97,.I (x.set'.length:Int)),(98,.I st.2)],[(0,.box (Vm 1 2 3 4 c) 78),(5,.own kq st.1 false),(11,.own (YH rA) i.2.1 true)],(U7 1 2 3 4 c [(5,.fn (Xy L_)),(6,.fn (Sb L_ (e.toNat * kq.sz))),(10,.sl ku i.1),(19,.sl rA x.set')]),22⟩) (fun n st=>Tb N c e i x n st.1 st.2) (r:=r) (fun _=>rfl) ?_ (fun ih=>?_)))
  ·intro n12 ih13;rintro ⟨A,C⟩ h;unfold Tb at h;refine Yv J 5 h (fun h=>wa J 2 (Yi [] (j2 A h))) fun h=>?_;refine wO J 6 h fun D G h=>YK J oD G ?_;refine wO J 10 h fun H R h=>YK J Zbj R (wa J 5 (YE (σ:=(List YW)) (fun st=>⟨[(0,.B 0 0),(1,.P 6 0),(6,.S 10),(7,.S 11),(96,.S 19),(97,.I (x.set'.length:Int)),(98,.I C)],[(0,.box (Vm 1 2 3 4 c) 78),(5,.own kq st false),(11,.own (YH rA) i.2.1 true)],(U7 1 2 3 4 c [(5,.fn (Xy L_)),(6,.fn (Sb L_ (e.toNat * kq.sz))),(10,.sl ku i.1),(19,.sl rA x.set')]),27⟩) (fun st=>Zdr C (Tb N c e i x n12) st=some r) ?_ (fun j20=>?_)))
   ·intro T h;unfold Zdr at h;exact wa J 5 (Yi [] (ih13 (T,(Yh (C+1))) h))
   refine wa J 1 (YO (σ:=(List YW) × Int) (fun st=>⟨[(0,.B 0 0),(1,.P 6 0),(6,.S 10),(7,.S 11),(96,.S 19),(97,.I (x.set'.length:Int)),(98,.I C),(109,.S 26),(110,.I (H.Yd.length:Int)),(111,.I st.2)],[(0,.box (Vm 1 2 3 4 c) 78),(5,.own kq st.1 false),(11,.own (YH rA) i.2.1 true)],(U7 1 2 3 4 c [(5,.fn (Xy L_)),(6,.fn (Sb L_ (e.toNat * kq.sz))),(10,.sl ku i.1),(19,.sl rA x.set'),(26,.sl Hj H.Yd)]),27⟩) (fun n st=>Rk N c e i C (Tb N c e i x n12) H n st.1 st.2) (r:=r) (fun _=>rfl) ?_ (fun ih=>?_))
   ·intro n14 ih22;rintro ⟨U,X⟩ h;unfold Rk at h;refine Yv J 5 h (fun h=>wa J 2 (Yi [] (j20 U h))) fun h=>?_;refine wO J 6 h fun Y Z h=>YK J ZkL Z (wa J 6 (LV (L:=L_) 6 5 (e.toNat * kq.sz) ?_));have ⟨a0,b0,h⟩:=ob h;refine wB J 5 h (fun h=>wa J 8 (YJ (oi h▸wr J 7 func63 [(7,.sl 11)]))) fun h=>?_;refine wO J 1 h fun c0 e0 h=>YK J Wy e0 (wa J 6 (YJ ?_));refine eB h (fun h=>oi h▸wr J 7 func63 [(7,.sl 11)]) fun h=>?_;refine wB J 9 h (fun h=>wa J 6 (WY (L:=L_) 6 5 (e.toNat * kq.sz) (Yi [] (ih22 (U,(Yh (X+1))) h)))) fun h=>wa J 7 (YX J [] oD ([Y.Ya]:List Int) ?_);have ⟨g0,i0,h⟩:=ob h;refine Ws (Zg3 N c ([Y.Ya]:List Int) _ i0) [] [(0,.bp 0 0),(1,.sl 1),(2,.sl 2),(3,.sl 3),(4,.sl 4),(5,.sl 30)] [30] (.inr ⟨rfl,⟨(ZsX _),trivial⟩⟩) ?_;refine wO J 6 h fun j0 k0 h=>Yl (Zht N c g0 _ k0) [31] [(0,.bp 0 0),(1,.sl 1),(2,.sl 2),(3,.sl 3),(4,.sl 4),(5,.sl 31)] ?_;refine wB J 17 h (fun h=>wa J 31 (YJ (oi h▸wr J 7 func63 [(7,.sl 11)]))) fun h=>?_;refine wO J 1 h fun l0 m0 h=>YK J oD m0 ?_;refine wB J 4 h (fun h=>wa J 25 (YJ (oi h▸wr J 7 func63 [(7,.sl 11)]))) fun h=>wa J 1 (VL 6 (wa J 1 (XS J Sg b0 ?_)));refine Yv J 2 h (fun h=>wa J 19 (YJ ?_)) fun h=>wa J 1 (VL 6 (wa J 1 (XS J Sg b0 ?_)))
    ·refine wO J 8 h fun o0 p0 h=>Xg J ku p0 (XS J Wy p0 (VL 6 (wa J 1 (PD J [] oD b0 (Zke a0 Y.ticks') ?_))));have ⟨q0,s0,h⟩:=ob h;exact VL 6 (wa J 1 (PD J [] Wy s0 (Zkf q0 o0) (YJ (wa J 5 (WY (L:=L_) 6 5 (e.toNat * kq.sz) (Yi [] (ih22 ((YA (YA U e (⟨a0.set',a0.end',a0.again',Y.ticks',a0.other',a0.acts',a0.to'⟩:YW)) e (⟨q0.set',q0.end',q0.again',q0.ticks',o0,q0.acts',q0.to'⟩:YW)),(Yh (X+1))) h)))))))
    refine wB J 4 h (fun h=>wa J 11 (YJ (oi h▸wr J 7 func63 [(7,.sl 11)]))) fun h=>wa J 1 (VL 6 (wa J 1 (XS J Sg b0 ?_)));refine wO J 1 h fun t0 u0 h=>Xg J ku u0 (XS J Wy u0 (eEq (wa J 3 (YJ ?_))));refine eB h (fun h=>oi h▸wr J 7 func63 [(7,.sl 11)]) fun h=>?_;refine wO J 8 h fun v0 x0 h=>Xg J ku x0 (XS J Wy x0 (VL 6 (wa J 1 (PD J [] oD b0 (Zke a0 Y.ticks') ?_))));have ⟨y0,z0,h⟩:=ob h;exact VL 6 (wa J 1 (PD J [] Wy z0 (Zkf y0 v0) (YJ (wa J 5 (WY (L:=L_) 6 5 (e.toNat * kq.sz) (Yi [] (ih22 ((YA (YA U e (⟨a0.set',a0.end',a0.again',Y.ticks',a0.other',a0.acts',a0.to'⟩:YW)) e (⟨y0.set',y0.end',y0.again',y0.ticks',v0,y0.acts',y0.to'⟩:YW)),(Yh (X+1))) h)))))))
   exact Yi [] (ih N (A,0) h)
  exact Yi [] (ih N ((YA (YA (YA d e (⟨f.set',f.end',f.again',f.ticks',f.other',i.1,f.to'⟩:YW)) e (⟨m.set',m.end',(decide (i.2.2.1 > 0)),m.ticks',m.other',m.acts',m.to'⟩:YW)) e (⟨p.set',(k==0),p.again',p.ticks',p.other',p.acts',p.to'⟩:YW)),0) h)
 refine Wj h (fun h=>wa J 6 (VL 6 (wa J 1 (XS J Sg u ?_)))) fun h=>?_
 ·refine Yv J 1 h (fun h=>?_) fun h=>?_
  ·refine Yv J 14 h (fun h=>wa J 14 (YJ (WY (L:=L_) 6 5 (e.toNat * kq.sz) (Yi [] (j1 false h))))) fun h=>?_;refine wO J 1 h fun A0 B0 h=>YK J Wy B0 ?_;exact wO J 6 h fun C0 D0 h=>YK J Wy D0 (wa J 5 (YJ (WY (L:=L_) 6 5 (e.toNat * kq.sz) (Yi [] (j1 (A0.ZB != C0.ZB) h)))))
  refine wB J 3 h (fun h=>wa J 25 (YJ (WY (L:=L_) 6 5 (e.toNat * kq.sz) (Yi [] (j1 true h))))) fun h=>?_;refine wB J 7 h (fun h=>wa J 18 (YJ (WY (L:=L_) 6 5 (e.toNat * kq.sz) (Yi [] (j1 true h))))) fun h=>?_;refine Yv J 4 h (fun h=>wa J 14 (YJ (WY (L:=L_) 6 5 (e.toNat * kq.sz) (Yi [] (j1 false h))))) fun h=>?_;refine wO J 1 h fun G0 H0 h=>YK J Wy H0 ?_;exact wO J 6 h fun I0 L0 h=>YK J Wy L0 (wa J 5 (YJ (WY (L:=L_) 6 5 (e.toNat * kq.sz) (Yi [] (j1 (G0.ZB != I0.ZB) h)))))
 refine wB J 5 h (fun h=>wa J 33 (YJ (WY (L:=L_) 6 5 (e.toNat * kq.sz) (Yi [] (j1 true h))))) fun h=>wa J 1 (VL 6 (wa J 1 (XS J Sg u ?_)));refine Yv J 1 h (fun h=>?_) fun h=>?_
 ·refine Yv J 14 h (fun h=>wa J 14 (YJ (WY (L:=L_) 6 5 (e.toNat * kq.sz) (Yi [] (j1 false h))))) fun h=>?_;refine wO J 1 h fun M0 O0 h=>YK J Wy O0 ?_;exact wO J 6 h fun R0 S0 h=>YK J Wy S0 (wa J 5 (YJ (WY (L:=L_) 6 5 (e.toNat * kq.sz) (Yi [] (j1 (M0.ZB != R0.ZB) h)))))
 refine wB J 3 h (fun h=>wa J 25 (YJ (WY (L:=L_) 6 5 (e.toNat * kq.sz) (Yi [] (j1 true h))))) fun h=>?_;refine wB J 7 h (fun h=>wa J 18 (YJ (WY (L:=L_) 6 5 (e.toNat * kq.sz) (Yi [] (j1 true h))))) fun h=>?_;refine Yv J 4 h (fun h=>wa J 14 (YJ (WY (L:=L_) 6 5 (e.toNat * kq.sz) (Yi [] (j1 false h))))) fun h=>?_;refine wO J 1 h fun U0 V0 h=>YK J Wy V0 ?_;exact wO J 6 h fun X0 Y0 h=>YK J Wy Y0 (wa J 5 (YJ (WY (L:=L_) 6 5 (e.toNat * kq.sz) (Yi [] (j1 (U0.ZB != X0.ZB) h)))))
structure Lt where
 set':(List Int)
 end':Bool
 again':Bool
 ticks':Int
 other':T6
 acts':(List T6)
 to':(List Int ⊕ G1)
abbrev r_flow_stateY:kS Lt:=rM (fun x=>(x.set',x.end',x.again',x.ticks',x.other',x.acts',x.to')) (rP (YH rA) (rP rB (rP rB (rP rA (rP ku (rP (YH ku) (XX rA)))))))
abbrev Dw:kX r_flow_stateY:=oM _ (oP (Xi rA) (oP oB (oP oB (oP oD (oP Wy (oP (Xi ku) (Hc rA)))))))
def yT:Option (List Int)->List Int ⊕ G1
 | none=>.inr Xn
 | some D=>.inl D
abbrev yU (x:YW) (t:List Int ⊕ G1):Lt:=⟨x.set',x.end',x.again',x.ticks',x.other',x.acts',t⟩
abbrev yO (x:YW):Lt:=yU x (yT x.to')
abbrev y0 (set:List Int):Lt:=⟨set,false,false,(0:Int),⟨(0:Int),(0:Int),(0:Int)⟩,[],.inr Xn⟩
theorem ZuK {F:YI} {w:World} {t:Option (List Int)} {vs:List Value} (h:(QX rA).rep F w t vs):(XX rA).rep F w (yT t) vs:=by
 cases t with
 | none=>exact h
 | some D=>exact h
theorem ZuL {F:YI} {w:World} {t:Option (List Int)} {vs:List Value} (h:(XX rA).rep F w (yT t) vs):(QX rA).rep F w t vs:=by
 cases t with
 | none=>exact h
 | some D=>exact h
theorem ZuN {F:YI} {w:World} {x:YW} {vs:List Value} (h:kq.rep F w x vs):r_flow_stateY.rep F w (yO x) vs:=by have ⟨u1,w1,e1,h1,u2,w2,e2,h2,u3,w3,e3,h3,u4,w4,e4,h4,u5,w5,e5,h5,u6,w6,e6,h6,h7⟩:=h;exact ⟨u1,w1,e1,h1,u2,w2,e2,h2,u3,w3,e3,h3,u4,w4,e4,h4,u5,w5,e5,h5,u6,w6,e6,h6,ZuK h7⟩
theorem ZuO {F:YI} {w:World} {x:YW} {vs:List Value} (h:r_flow_stateY.rep F w (yO x) vs):kq.rep F w x vs:=by have ⟨u1,w1,e1,h1,u2,w2,e2,h2,u3,w3,e3,h3,u4,w4,e4,h4,u5,w5,e5,h5,u6,w6,e6,h6,h7⟩:=h;exact ⟨u1,w1,e1,h1,u2,w2,e2,h2,u3,w3,e3,h3,u4,w4,e4,h4,u5,w5,e5,h5,u6,w6,e6,h6,ZuL h7⟩
theorem ZuM {F:YI} {w:World} {x:YW} {u:G1} {D:List Int} {vs:List Value} (h:r_flow_stateY.rep F w (yU x (.inr u)) vs) (hs:SlR rA F w D u.1):r_flow_stateY.rep F w (yU x (.inl D)) vs:=by have ⟨u1,w1,e1,h1,u2,w2,e2,h2,u3,w3,e3,h3,u4,w4,e4,h4,u5,w5,e5,h5,u6,w6,e6,h6,h7⟩:=h;exact ⟨u1,w1,e1,h1,u2,w2,e2,h2,u3,w3,e3,h3,u4,w4,e4,h4,u5,w5,e5,h5,u6,w6,e6,h6,⟨u.1,h7,hs⟩⟩
theorem ZuI {F:YI} {w:World} {x:YW} {vs:List Value} (h:kq.rep F w x vs):kr.rep F w (HC x) vs:=by
 have ⟨u1,w1,e1,h1,u2,w2,e2,h2,u3,w3,e3,h3,u4,w4,e4,h4,u5,w5,e5,h5,u6,w6,e6,h6,h7⟩:=h;refine ⟨u1,w1,e1,h1,u2,w2,e2,h2,u3,w3,e3,h3,u4,w4,e4,h4,u5,w5,e5,h5,u6,w6,e6,h6,?_⟩;cases ht:x.to' with
 | some D =>
  have h7:(QX rA).rep F w x.to' w6:=h7;rw [ht] at h7;show (YH rA).rep F w (x.to'.getD []) w6;rw [ht];exact h7
 | none =>
  have h7:(QX rA).rep F w x.to' w6:=h7;rw [ht] at h7;have h7:w6=[Xn.1]:=h7;show (YH rA).rep F w (x.to'.getD []) w6;rw [ht];exact ⟨Xn.1,h7,.inl ⟨rfl,_,_,rfl⟩⟩
theorem Zkk {α β:Type} {R:kS α} {R':kS β} (f:α->β) (W:∀ {F w x vs},R.rep F w x vs->R'.rep F w (f x) vs) (xs:List α):∀ (i:Nat) x y,xs[i]? = some x->(xs.map f)[i]? = some y->∀ F w vs,R.rep F w x vs->R'.rep F w y vs:=by intro i x y h1 h2;rw [aK,h1] at h2;cases h2;intro F w vs h;exact W h
theorem Zq8 {α:Type} (xs:List α) (n:Int) (e:α):(YA xs n e).length=xs.length:=by unfold YA;simp
theorem Zlz {α:Type} (xs:List α) (n:Int) (e e':α):YA (YA xs n e) n e'=YA xs n e':=by unfold YA;simp
theorem ZjR {α:Type} {xs:List α} {n:Int} {x:α} (h:idx xs n=some x) (e:α):idx (YA xs n e) n=some e:=by have ⟨h1,h2,h3⟩:=Vx h;have:=(aE.1 h3).1;unfold idx YA;rw [lY h1,lV];simp [this]
theorem Zlw {α:Type} {xs:List α} {n:Int} {x:α} (h:idx xs n=some x) (ys:List α) (e:α):YA (xs++ys) n e=YA xs n e++ys:=by have ⟨h1,h2,h3⟩:=Vx h;have:=(aE.1 h3).1;unfold YA;exact List.set_append_left _ _ this
theorem ZjP {α:Type} {xs:List α} {n:Int} {x:α} (h:idx xs n=some x) (ys:List α):idx (xs++ys) n=some x:=by have ⟨h1,h2,h3⟩:=Vx h;have:=(aE.1 h3).1;unfold idx;rw [lY h1,lV,Zo this,h3]
theorem ZaX {α β:Type} {xs:List α} {n:Int} {x:α} (h:idx xs n=some x) (f:α->β):idx (xs.map f) n=some (f x):=by have ⟨h1,h2,h3⟩:=Vx h;unfold idx;rw [lY h1,lV,aK,h3];rfl
theorem ZnG {α:Type} {xs ys zs:List α} (h:Y7 xs ys=some zs):zs=xs++ys/\xs.length+ys.length<=lim:=by
 unfold Y7 at h;cases hb:aY (xs.length+ys.length) lim with
 | false=>rw [hb] at h;cases h
 | true=>rw [hb] at h;exact ⟨(Zm h).symm,Ze hb⟩
theorem ZnF {α:Type} {xs ys:List α} (h:xs.length+ys.length<=lim):Y7 xs ys=some (xs++ys):=by unfold Y7;rw [ai h];rfl
abbrev gBs (d:X5):MO:=.box (Vm 1 2 3 4 d) 78
abbrev vGs (d:X5):List (Nat × VF):=(U7 1 2 3 4 d [])
abbrev mSs (lC:X4):MO:=.av (Xr rA false false lC)
theorem ZvX (d:X5) (g:Int) (r:(List YR) × Int) (h:sgG N d g=some r) :
 Fn aB 20 ⟨5,[.B 0 0,.I g],(U7 1 2 3 4 d []),[(0,.box (Vm 1 2 3 4 d) 78)],6,.t [.inl (.sl 5),.inl (.I r.2)],[],[(5,.own kr r.1 true),(0,.box (Vm 1 2 3 4 d) 78)]⟩:=Yy func20 rfl fun E F w=>by
 unfold sgG at h;have ⟨set0,hset0,h⟩:=ob h;have ⟨ks0,hks0,h⟩:=ob h;refine wm J (YX J [] oD ([g]:List Int) (wm J ?_));refine Yl (Zg3 N d [g] _ hset0) [5] [(0,.bp 0 0),(1,.sl 1),(2,.sl 2),(3,.sl 3),(4,.sl 4),(5,.sl 5)] (wm J ?_);refine YX J [6] Sg ([WB set0]:List YW) (wm J ?_);refine eMm rA false (wm J ?_);refine Xg J kq (xs:=[WB set0]) (m:=0) (e:=WB set0) rfl (wm J ?_);refine XS J Sg (xs:=[WB set0]) (m:=0) (e:=WB set0) rfl (wm J ?_);refine Yl (Zg4 N set0 _ hks0) [] [(0,.sl 10)] (wm J ?_);refine eMi (q:=ks0) (lC:=[]) [] oD 0 UA (wm J ?_);refine YO (σ:=Int × Bool × List YW × X4) (fun st=>⟨[(0,.B 0 0),(6,.S 5),(7,.S 6),(8,.O st.2.1),(9,.I st.1)],[(0,gBs d),(5,.own kq st.2.2.1 true),(6,mSs st.2.2.2)],vGs d,7⟩) (fun n st=>P7 N d n st.1 st.2.1 st.2.2.1 st.2.2.2) (r:=r) (fun _=>rfl) ?_ (fun ih=>Yi [(5,.sl 7),(6,.sl 8)] (ih N (0,true,[WB set0],Xd [] ks0 0) h));rintro n ih ⟨i,right,l,kn⟩ h;unfold P7 at h;refine wn J ?_;obtain ⟨K,h⟩|⟨K,h⟩:=UY h
 ·refine ek J K ?_;rcases oc h with ⟨hc2,h⟩ | ⟨hc2,h⟩
  ·cases h;exact ek J hc2 (Xh J func20 [(5,.nil)])
  ·cases h;exact ek J hc2 (RG (R:=kq) (R':=kr) (fr:=true) (xs:=l) (l.map HC) 5 rfl (aM ..) (Zkk HC ZuI l) (Xh J func20 [(5,.sl 5)]))
 have ⟨rr,hrr,h⟩:=ob h;have ⟨x,hx,h⟩:=ob h;rcases oc h with ⟨hxt,h⟩ | ⟨hxt,h⟩
 ·cases h
 replace hxt:x.to'=none:=by
  cases ht:x.to' with
  | none=>rfl
  | some D=>rw [ht] at hxt;cases hxt
 have ⟨q,hq,h⟩:=ob h;obtain ⟨o,p⟩:∃ o,idx l i=some o:=by unfold M6 at hrr;have ⟨o,p,_⟩:=ob hrr;exact ⟨o,p⟩
 refine ek J K (Xg J kq p (wm J ?_));refine QH 5 (fun L=>WY (L:=L) 7 5 (i.toNat * kq.sz) ?_);refine Yl (ZwD L N d l i rr hrr) [] [(0,.bp 0 0),(1,.sl 1),(2,.sl 2),(3,.sl 3),(4,.sl 4),(5,.sl 5),(6,.sl 7)] (wa J 10 ?_);refine YE (σ:=Bool) (fun st=>⟨[(0,.B 0 0),(6,.S 5),(7,.S 6),(8,.O st),(9,.I i),(10,.S 8)],[(0,gBs d),(5,.own kq rr.2.2 true),(6,mSs kn),(8,.own (YH rA) rr.1 true)],vGs d,9⟩) (fun st=>st=(bif right then rr.2.1 else false)) ?_ (fun j1=>?_)
 ·rintro b rfl;generalize (bif right then rr.2.1 else false)=b at h;refine wm J (Vn [8] ?_);refine RG (R:=kq) (R':=r_flow_stateY) (fr:=true) (xs:=rr.2.2) (rr.2.2.map yO) 5 rfl (aM ..) (Zkk yO ZuN rr.2.2) ?_;have e0:YA (rr.2.2.map yO) i (yU x (.inr Xn))=rr.2.2.map yO:=by
   have ⟨g1,g2,g3⟩:=Vx (ZaX hx yO);have g4:yO x=yU x (.inr Xn):=by show yU x (yT x.to')=_;rw [hxt];rfl
   rw [g4] at g3;have ⟨g5,g6⟩:=aE.1 g3;unfold YA;rw [<- g6];exact List.set_getElem_self ..
  refine WS (R:=r_flow_stateY) (fr:=true) (xs:=rr.2.2.map yO) (YA (rr.2.2.map yO) i (yU x (.inr Xn))) 5 e0 (eZn rA ?_);refine YO (σ:=G1 × Int × List YW × List Lt × X4 × List Int) (fun st=>⟨[(0,.B 0 0),(6,.S 5),(7,.S 6),(8,.O b),(9,.I i),(48,.S 8),(49,.I (rr.1.length:Int)),(50,.I st.2.1)],[(0,gBs d),(5,.own r_flow_stateY st.2.2.2.1 true),(6,mSs st.2.2.2.2.1),(9,.own rA st.2.2.2.2.2 true)],(8,.sl (YH rA) rr.1)::(9,.fn (Xy st.1))::vGs d,10⟩)
   (fun n st=>Ut (st.2.2.2.1=YA (st.2.2.1.map yO) i (yU x (.inr st.1))/\idx st.2.2.1 i=some x) (S7 N d rr.1 n st.2.1 st.2.2.1 st.2.2.2.2.1 st.2.2.2.2.2)) (r:=q) (fun st=>by show Ut _ none=none;unfold Ut;split<;>rfl) ?_ (fun ih2=>?_)
  ·rintro n2 ih2 ⟨u,k,lx,ys,kn2,D⟩ hp;obtain ⟨⟨hys,hlx⟩,hq⟩:=ZaZ hp;replace hys:ys=YA (lx.map yO) i (yU x (.inr u)):=hys;replace hlx:idx lx i=some x:=hlx;replace hq:S7 N d rr.1 (n2+1) k lx kn2 D=some q:=hq;have hlen:ys.length=lx.length:=by rw [hys,Zq8,aM]
   have hyx:idx ys i=some (yU x (.inr u)):=by rw [hys];exact ZjR (ZaX hlx yO) _
   have hyg:ys[i.toNat]? = some (yU x (.inr u)):=(Vx hyx).2.2;unfold S7 at hq;refine wn J ?_;rcases UY hq with ⟨hc1,hq⟩ | ⟨hc1,hq⟩
   ·cases hq;rw [<- hlen] at h;refine ek J hc1 ?_;rcases oc h with ⟨hc2,h⟩ | ⟨hc2,h⟩
    ·cases h;exact ek J hc2 (Xh J func20 [(5,.nil)])
    ·refine ek J hc2 ?_;refine eZd (R:=r_flow_stateY) (Rb:=rI .i64) (fr:=true) (xs:=ys) (ys:=D) (x:=yU x (.inr u)) (u:=u) (yU x (.inl D)) i.toNat 5 9 hyg (fun F w vs hr hs=>ZuM hr hs) rfl ?_;have e2:ys.set i.toNat (yU x (.inl D))=(YA lx i (DN x D)).map yO:=by rw [hys];unfold YA;rw [hK,List.map_set];rfl
     refine RG (R:=r_flow_stateY) (R':=kq) (fr:=true) (xs:=ys.set i.toNat (yU x (.inl D))) (YA lx i (DN x D)) 5 rfl (by rw [e2,aM]) (by rw [e2];intro j a c h1 h2 F w vs hr;rw [aK,h2] at h1;cases h1;exact ZuO hr) ?_
     exact Yi [] (ih (Yh (i+1),b,YA lx i (DN x D),kn2) h)
   have ⟨t,ht,hq⟩:=ob hq;have ⟨set,hset,hq⟩:=ob hq;have ⟨ks,hks,hq⟩:=ob hq;refine ek J hc1 (YK J (Xi rA) ht (wm J ?_));refine Yl (Zg3 N d t _ hset) [] [(0,.bp 0 0),(1,.sl 1),(2,.sl 2),(3,.sl 3),(4,.sl 4),(5,.sl 11)] (wm J ?_);refine Yl (Zg4 N set _ hks) [12] [(0,.sl 12)] (wm J ?_);refine eMo (nl:=false) (q:=ks) (lC:=kn2) oD UA rfl (wn J ?_);rcases oc hq with ⟨hc2,hq⟩ | ⟨hc2,hq⟩
   ·have ⟨D2,hD2,hq⟩:=ob hq;refine ek (b := !(YT kn2 ks).isSome) J (show (!(YT kn2 ks).isSome)=false by rw [hc2];rfl) ?_;refine Xg J r_flow_stateY hyx (wm J ?_);refine PE (u:=u) J Dw 9 hyx (wm J ?_);refine YX J [] oD ([(YT kn2 ks).getD 0]:List Int) (Xv J rA hD2 (wm J ?_));refine Xg J r_flow_stateY hyx (wm J (QH 15 (fun u'=>?_)));refine RF J [] Dw (yU x (.inr u')) hyx (wm J ?_);exact Yi [(9,.sl 15)] (ih2 (u',Yh (k+1),lx,YA ys i (yU x (.inr u')),kn2,D2) (QK ⟨by show YA ys i _=_;rw [hys,Zlz],hlx⟩ hq))
   ·have ⟨l2,hl2,hq⟩:=ob hq;have ⟨D2,hD2,hq⟩:=ob hq;rw [<- hlen] at hq hD2;obtain ⟨rfl,hlim⟩:=ZnG hl2;have hys2:Y7 ys [y0 set]=some (ys++[y0 set]):=ZnF (by rw [hlen];exact hlim);have hyx2:idx (ys++[y0 set]) i=some (yU x (.inr u)):=ZjP hyx _;refine ek (b := !(YT kn2 ks).isSome) J (show (!(YT kn2 ks).isSome)=true by rw [hc2];rfl) ?_;refine Yl (Zg4 N set _ hks) [] [(0,.sl 12)] (wm J ?_);refine LP (q:=ks) (lC:=kn2) [] oD (ys.length:Int) UA (wm J ?_);refine YX J [] Dw ([y0 set]:List Lt) (Xv J r_flow_stateY hys2 (wm J ?_));refine Xg J r_flow_stateY hyx2 (wm J ?_);refine PE (u:=u) J Dw 9 hyx2 (wm J ?_);refine YX J [] oD ([(ys.length:Int)]:List Int) (Xv J rA hD2 (wm J ?_));refine Xg J r_flow_stateY hyx2 (wm J (QH 17 (fun u'=>?_)));refine RF J [] Dw (yU x (.inr u')) hyx2 (wm J ?_);exact Yi [(5,.sl 14),(9,.sl 17)] (ih2 (u',Yh (k+1),lx++[WB set],YA (ys++[y0 set]) i (yU x (.inr u')),Xd kn2 ks (ys.length:Int),D2) (QK ⟨by show YA (ys++[y0 set]) i _=_;rw [hys,Zlw (ZjR (ZaX hlx yO) _),Zlz,bq,Zlw (ZaX hlx yO)];rfl,ZjP hlx _⟩ hq))
  ·refine Yi [] (ih2 N (Xn,0,rr.2.2,YA (rr.2.2.map yO) i (yU x (.inr Xn)),kn,[]) (QK ⟨rfl,hx⟩ hq))
 cases right with
 | true=>exact wa J 4 (Yi [] (j1 rr.2.1 rfl))
 | false=>exact wa J 4 (Yi [] (j1 false rfl))
theorem Zns (d:X5) (g:Int) (r:(List YR) × Int) (h:Zad N d g=some r):Fn aB 20 ⟨5,[.B 0 0,.I g],(U7 1 2 3 4 d []),[(0,.box (Vm 1 2 3 4 d) 78)],6,.t [.inl (.sl 5),.inl (.I r.2)],[],[(5,.own kr r.1 true),(0,.box (Vm 1 2 3 4 d) 78)]⟩:=ZvX N d g r h
theorem ZwF (c:Int) (d:(List Bool)) (r:Bool) (h:Gr N c d=some r) :
 Fn aB 68 ⟨2,[.I c,.B 0 0],[(1,.sl rB d)],[(0,.box [.sl 1] 37)],2,.O r,[],[(0,.box [.sl 1] 37)]⟩:=Yy func68 rfl fun E F w=>by
 unfold Gr at h;refine wO J 8 h fun e f h=>YK J oB f ?_;exact oi h▸wr J 3 func68 []
theorem Zvk (d:(List Int)) (e:(List Bool)) (r:Int) (h:Zca N d e=some r) :
 Fn aB 131 ⟨3,[.S 0,.c (.cl 68 [] [1])],[(0,.sl rA d),(2,.sl rB e)],[(1,.box [.sl 2] 37)],3,.I r,[],[(1,.box [.sl 2] 37)]⟩:=Yy func131 rfl fun E F w=>by
 unfold Zca at h;refine wa J 11 (YE (σ:=Unit) (fun st=>⟨[],[(1,.box [.sl 2] 37)],[(0,.sl rA d),(2,.sl rB e)],3⟩) (fun st=>Zcb=some r) ?_ (fun j1=>?_))
 ·intro _ h;unfold Zcb at h;exact oi h▸wr J 4 func131 []
 refine wa J 1 (YO (σ:=Int) (fun st=>⟨[(0,.S 0),(1,.c (.cl 68 [] [1])),(7,.I (d.length:Int)),(8,.I st)],[(1,.box [.sl 2] 37)],[(0,.sl rA d),(2,.sl rB e)],3⟩) (fun n st=>Mu N d e n st) (r:=r) (fun _=>rfl) ?_ (fun ih=>?_))
 ·intro n2 ih3;intro f h;unfold Mu at h;refine Yv J 5 h (fun h=>wa J 2 (Yi [] (j1 () h))) fun h=>?_;refine wO J 14 h fun g i h=>YK J oD i ?_;refine wO J 1 h fun j k h=>Yl (ZwF N g e _ k) [] [(0,.bp 1 0),(1,.sl 2)] ?_;exact wB J 1 h (fun h=>oi h▸wr J 6 func131 []) fun h=>wa J 7 (Yi [] (ih3 (Yh (f+1)) h))
 exact Yi [] (ih N 0 h)
theorem ZwE (d:(List Int)) (e:(List Bool)) (r:Bool) (h:Zds N d e=some r) :
 Fn aB 67 ⟨3,[.S 0,.c (.cl 68 [] [1])],[(0,.sl rA d),(2,.sl rB e)],[(1,.box [.sl 2] 37)],3,.O r,[],[(1,.box [.sl 2] 37)]⟩:=Yy func67 rfl fun E F w=>by
 unfold Zds at h;refine wO J 8 h fun f g h=>Yl (Zvk N d e _ g) [] [(0,.sl 0),(1,.bp 1 0),(2,.sl 2)] ?_;exact oi h▸wr J 3 func67 []
theorem Zvl (c:(List Bool)) (d:Bool) (r:Int) (h:Zcc N c d=some r) :
 Fn aB 132 ⟨1,[.S 0,.O d],[(0,.sl rB c)],[],1,.I r,[],[]⟩:=Yy func132 rfl fun E F w=>by
 unfold Zcc at h;refine wa J 11 (YE (σ:=Unit) (fun st=>⟨[],[],[(0,.sl rB c)],1⟩) (fun st=>Zcd=some r) ?_ (fun j1=>?_))
 ·intro _ h;unfold Zcd at h;exact oi h▸wr J 4 func132 []
 refine wa J 1 (YO (σ:=Int) (fun st=>⟨[(0,.S 0),(1,.O d),(7,.I (c.length:Int)),(8,.I st)],[],[(0,.sl rB c)],1⟩) (fun n st=>Mv c d n st) (r:=r) (fun _=>rfl) ?_ (fun ih=>?_))
 ·intro n2 ih3;intro e h;unfold Mv at h;refine Yv J 5 h (fun h=>wa J 2 (Yi [] (j1 () h))) fun h=>?_;refine wO J 14 h fun f g h=>YK J oB g ?_;exact wB J 3 h (fun h=>oi h▸wr J 6 func132 []) fun h=>wa J 7 (Yi [] (ih3 (Yh (e+1)) h))
 exact Yi [] (ih N 0 h)
theorem ZwG (c:(List Bool)) (d:Bool) (r:Bool) (h:BT N c d=some r) :
 Fn aB 69 ⟨1,[.S 0,.O d],[(0,.sl rB c)],[],1,.O r,[],[]⟩:=Yy func69 rfl fun E F w=>by
 unfold BT at h;refine wO J 8 h fun e f h=>Yl (Zvl N c d _ f) [] [(0,.sl 0)] ?_;exact oi h▸wr J 3 func69 []
theorem Zn4:ItB aB 130 9 (by decide) true:=by
 refine ItB.intro _ _ func130 rfl rfl (by decide) (fun cs l F0 Jj hlm stab rounds E w hg hJ=>?_);have hl:lim=4294967296:=rfl;have hz:0 < 9:=by decide
 refine Wc.h (c:=.co _ _) ?_;refine wa J 8 ?_;refine eIl (fun m=>⟨[(3,.I (bF.wrap ((m:Int)-1))),(0,.c (.v (.func (.yield l) #[] #[]))),(1,.P 0 0)],[],SS 9 hz cs,2⟩) ?_ ?_ (fun ih=>LU ih) hg hJ
 ·intro E w hg hJ;exact wa J 6 (eK (b:=decide (bF.wrap (((0:Nat):Int)-1)>=0)) (t:=false) (by decide) (wa J 2 (eRi J func130 stab hJ)))
 ·intro m hm ih E w hg hJ;have e:bF.wrap (((m+1:Nat):Int)-1)=(m:Int):=by rw [show ((m+1:Nat):Int)-1=(m:Int) by omega];exact U9 (by omega) (by omega)
  refine wa J 6 (eK (b:=decide (bF.wrap (((m+1:Nat):Int)-1)>=0)) (t:=true) (lY (by omega)) ?_);refine wa J 5 (eYr J stab rounds hg hm hJ e fun cc E' w' hg' hJ'=>?_);have ih':=ih E' w' hg' hJ';rw [show bF.wrap ((m:Int)-1)=bF.wrap (bF.wrap (((m+1:Nat):Int)-1)-1) by rw [e]] at ih';exact wa J 10 (LU ih')
theorem Zv0:Fn aB 66 ⟨1,[.S 0],[],[],2,.c (.cl 130 [] [1]),[],[(1,.box [.sl 0] 79)]⟩:=Yy func66 rfl fun E F w=>by
 exact wm J (Xh J func66 [(1,.bp 1 0)])
theorem Zpi (l:List YR) (r:Bool) (h:ZaM N l=some r):Fn aB 22 ⟨1,[.S 0],[(0,.sl kr l)],[],1,.O r,[],[]⟩:=Yy func22 rfl fun E F w=>by
 unfold ZaM at h;have ⟨g0,hg0,h⟩:=ob h;refine wn J (RD J oB hg0 (wa J 10 (eFb ?_)));refine Zo5 (X:=(⟨1,[.S 0],[(0,.sl kr l)],[],1,.O r,[],[]⟩:Ct).ctx aB 22 Tryz.f22 E F w) (Ds0:=[]) (σ:=List Bool × Bool) (r:=r)
  (fun Ds st=>⟨[(1,.B 1 0),(3,.B 3 0),(4,.B 4 0)],[(1,.box [.sl 0] 79),(2,.own rB st.1 true),(3,.box [.sl 2] 37),(4,.box [.b st.2] 4),(5,.abs (UX Ds))],[(0,.sl kr l)],6⟩) (fun n st=>G8 N l n st) (fun _=>rfl) ?_ (fun ih=>Yi [] (ih N [] (g0,true) h))
 rintro n ih Ds ⟨g,ch⟩ h;unfold G8 at h;cases ch with
 | false =>
  have ⟨c,K,h⟩:=ob h;cases h;refine wn J (wa J 1 (wm J ?_));refine Ws (ZwG N g false _ K) [] [(0,.sl 2)] [2] (.inr ⟨rfl,trivial⟩) (wm J ?_);exact Zpa J func22 5 []
 | true =>
  have ⟨b',hb',h⟩:=ob h;refine wn J (wa J 1 (wm J ?_));refine Yl Zv0 [] [(0,.sl 0)] (wm J ?_);refine eRs ⟨(12,.c (.cl 130 [] [6]))::[(1,.B 1 0),(3,.B 3 0),(4,.B 4 0)],(6,.box [.sl 0] 79)::[(1,.box [.sl 0] 79),(2,.own rB g true),(3,.box [.sl 2] 37),(4,.box [.b false] 4),(5,.abs (UX Ds))],[(0,.sl kr l)],7⟩ [] ?_;refine eRf (bt:=79) Dv Zn4 (fun i (_:YR) b=>PF N l i b) (fun (b:List Bool × Bool)=>⟨[(1,.B 1 0),(3,.B 3 0),(4,.B 4 0)],[(1,.box [.sl 0] 79),(2,.own rB b.1 true),(3,.box [.sl 2] 37),(4,.box [.b b.2] 4),(5,.abs (UX Ds))],[(0,.sl kr l)],7⟩) 7 5 6 0 13 14 hb' (fun _=>⟨rfl,rfl⟩) ?_ ?_
  ·rintro i x ⟨b1,b2⟩ b3 hst E F w n0 Z ll D lr post kk;unfold PF at hst;have ⟨s,hs,hst⟩:=ob hst;have ⟨ok,hok,hst⟩:=ob hst;refine wm J (eBr (l:=ll) (D:=D) (r:=lr) 7 (wm J ?_));refine YK J Dv hs (wa J 3 ?_);rcases oc hok with ⟨K,hok⟩ | ⟨K,hok⟩
   ·cases hok;refine eK K (wm J ?_);have ⟨g,hg,hst⟩:=ob hst;refine Xg J rB hg (wm J (XS J oB hg (wn J ?_)));cases g with
    | true =>
     cases hst;exact wa J 1 (wm J (Yi [] kk))
    | false =>
     cases hst;exact wa J 1 (wm J (Xg J rB hg (wm J (WR J [] oB true hg (wm J (Yi [] kk))))))
   ·refine eK K (wm J (YK J Dv hs (wm J ?_)));refine Ws (ZwE N s.to' b1 _ hok) [] [(0,.sl 18),(1,.bp 3 0),(2,.sl 2)] [2] (.inr ⟨rfl,trivial⟩) ?_;cases ok with
    | false =>
     cases hst;exact wm J (Yi [] kk)
    | true =>
     refine wm J ?_;have ⟨g,hg,hst⟩:=ob hst;refine Xg J rB hg (wm J (XS J oB hg (wn J ?_)));cases g with
     | true =>
      cases hst;exact wa J 1 (wm J (Yi [] kk))
     | false =>
      cases hst;exact wa J 1 (wm J (Xg J rB hg (wm J (WR J [] oB true hg (wm J (Yi [] kk))))))
  ·intro D;refine eFa (D:=D) (Ds:=Ds) 5 7 rfl (wm J ?_);exact Yi [(4,.bp 8 0)] (ih (D::Ds) b' h)
theorem ZpK (d:List YR) (r:Bool) (h:ZaS N d=some r):Fn aB 22 ⟨1,[.S 0],[(0,.sl kr d)],[],1,.O r,[],[]⟩:=Zpi N d r h
theorem Zv2 (c:(List be)) (r:(List be)) (h:Bl N c=some r) :
 Fn aB 23 ⟨1,[.S 0],[(0,.sl rS c)],[],2,.S 1,[],[(1,.own rS r true)]⟩:=Yy func23 rfl fun E F w=>by
 unfold Bl at h;refine wa J 8 (eNi rS c false ?_);intro nb hnb;cases nb
 ·refine wa J 5 (YX J [] oS ([]:List be) ?_);refine wO J 1 h fun d e h=>Xv J rS e ?_;exact oi h▸wr J 2 func23 [(1,.sl 2)]
 ·obtain rfl:=hnb rfl;replace h:(some ([]:List be):Option (List be))=some r:=h;exact oi h▸wr J 6 func23 [(1,.nil)]
theorem ZvK (c:(List Int)) (d:be) (r:be) (h:Bg N c d=some r) :
 Fn aB 168 ⟨2,[.S 0,.B 1 0],[(0,.sl rA c)],[(1,.box [.v (.pointer none),.nil] 195)],3,.t [],[],[(2,.buf r 5),(1,.box [.bp 1 0,.sl 2] 195)]⟩:=Yy func168 rfl fun E F w=>by
 unfold Bg at h;refine wa J 7 (ePl ?_);refine Yv J 5 h (fun h=>?_) fun h=>?_
 ·cases h
 refine wO J 6 h fun e f h=>YK J oD f ?_;refine wO J 6 h fun g i h=>Yl (Zmv N (wk .i32 (e)) ao _ i) [] [(0,.bp 1 0)] (wa J 6 (ZeM (σ:=be × Int) (fun st=>⟨[(1,.B 1 0),(5,.S 0),(6,.I (c.length:Int)),(7,.I st.2)],[(1,.box [.bp 1 0,.sl 4] 195),(4,.buf st.1 5)],[(0,.sl rA c)],5⟩) (fun n st=>MG N c n st.1 st.2) (r:=r) (fun _=>rfl) ?_ (fun ih=>?_)))
 ·intro n2 ih3;rintro ⟨j,k⟩ h;unfold MG at h;refine Yv J 5 h (fun h=>oi h▸wr J 2 func168 [(2,.sl 4)]) fun h=>?_;refine wO J 6 h fun l m h=>YK J oD m ?_;exact wO J 6 h fun o p h=>Yl (Zgn N (wk .i32 (l)) j _ p) [] [(0,.bp 1 0),(1,.sl 4)] (wa J 6 (Yi [(4,.sl 6)] (ih3 (o.2.2,(Yh (k+1))) h)))
 exact Yi [(4,.sl 3)] (ih N (g.2.2,(Yh ((0:Int)+(1:Int)))) h)
theorem ZvL (c:(List Int)) (d:be) (r:be) (h:Bh N c d=some r) :
 Fn aB 168 ⟨3,[.S 0,.B 1 0],[(0,.sl rA c)],[(1,.box [.bp 1 0,.sl 2] 195),(2,.buf d 5)],4,.t [],[],[(2,.gone),(3,.buf r 5),(1,.box [.bp 1 0,.sl 3] 195)]⟩:=Yy func168 rfl fun E F w=>by
 unfold Bh at h;refine wa J 6 (YE (σ:=be) (fun st=>⟨[],[(1,.box [.bp 1 0,.sl 3] 195),(3,.buf st 5)],[(0,.sl rA c)],4⟩) (fun st=>ZcJ st=some r) ?_ (fun j1=>?_))
 ·intro e h;unfold ZcJ at h;cases h;exact Xh J func168 [(3,.sl 3)]
 refine wa J 1 (YO (σ:=be × Int) (fun st=>⟨[(1,.B 1 0),(5,.S 0),(6,.I (c.length:Int)),(7,.I st.2)],[(1,.box [.bp 1 0,.sl 3] 195),(3,.buf st.1 5)],[(0,.sl rA c)],4⟩) (fun n st=>MH N c n st.1 st.2) (r:=r) (fun _=>rfl) ?_ (fun ih=>?_))
 ·intro n2 ih3;rintro ⟨f,g⟩ h;unfold MH at h;refine Yv J 5 h (fun h=>wa J 2 (Yi [] (j1 f h))) fun h=>?_;refine wO J 6 h fun i j h=>YK J oD j ?_;exact wO J 6 h fun k l h=>Yl (Zgn N (wk .i32 (i)) f _ l) [] [(0,.bp 1 0),(1,.sl 3)] (wa J 6 (Yi [(3,.sl 5)] (ih3 (k.2.2,(Yh (g+1))) h)))
 exact Yi [(3,.sl 2)] (ih N (d,0) h)
theorem Zvm (d:YR) (e:(List Int)) (r:be) (h:D8 N d e=some r) :
 Fn aB 133 ⟨4,[.a [.sl 0,.b d.end',.b d.again',.I d.ticks',.I d.other'.ZB,.I d.other'.To,.I d.other'.ZP,.sl 1,.sl 2],.S 3],[(0,.sl rA d.set'),(1,.sl ku d.acts'),(2,.sl rA d.to'),(3,.sl rA e)],[],4,.c (.s r),[],[]⟩:=Yy func133 rfl fun E F w=>by
 unfold D8 at h;refine wa J 24 (YE (σ:=Int) (fun st=>(Znl d.end' d.again' d.ticks' d.other'.ZB d.other'.To d.other'.ZP none d.set' d.acts' d.to' e [(1,.S 3),(2,.B 4 0),(5,.B 5 0),(6,.c (.cl 168 [] [5])),(7,.I st)])) (fun st=>D9 N d e st=some r) ?_ (fun j1=>?_))
 ·intro f h;unfold D9 at h;refine wa J 6 (YE (σ:=Int) (fun st=>(Znl d.end' d.again' d.ticks' d.other'.ZB d.other'.To d.other'.ZP none d.set' d.acts' d.to' e [(1,.S 3),(2,.B 4 0),(5,.B 5 0),(6,.c (.cl 168 [] [5])),(7,.I st)])) (fun st=>HP N d e st=some r) ?_ (fun j2=>?_))
  ·intro g h;unfold HP at h;refine wa J 15 (YX J [] oD ([g,d.ticks',d.other'.ZB,d.other'.To,d.other'.ZP]:List Int) ?_);have ⟨i,j,h⟩:=ob h;refine Yl (ZvK N ([g,d.ticks',d.other'.ZB,d.other'.To,d.other'.ZP]:List Int) ao _ j) [6] [(0,.sl 6),(1,.bp 5 0)] (wa J 9 (YE (σ:=be) (fun st=>⟨[(5,.B 5 0)],[(5,.box [.bp 5 0,.sl 8] 195),(8,.buf st 5)],[(0,.sl rA d.set'),(1,.sl ku d.acts'),(2,.sl rA d.to'),(3,.sl rA e)],9⟩) (fun st=>Zce N st=some r) ?_ (fun j3=>?_)))
   ·intro k h;unfold Zce at h;refine wO J 2 h fun l m h=>Yl (ZmV N k _ m) [] [(0,.bp 5 0),(1,.sl 8)] ?_;exact oi h▸wr J 2 func133 []
   refine wa J 1 (YO (σ:=be × Int) (fun st=>⟨[(1,.S 3),(2,.B 4 0),(5,.B 5 0),(6,.c (.cl 168 [] [5])),(33,.S 1),(34,.I (d.acts'.length:Int)),(35,.I st.2)],[(4,.box [.sl 0,.b d.end',.b d.again',.I d.ticks',.I d.other'.ZB,.I d.other'.To,.I d.other'.ZP,.sl 1,.sl 2] 161),(5,.box [.bp 5 0,.sl 8] 195),(8,.buf st.1 5)],[(0,.sl rA d.set'),(1,.sl ku d.acts'),(2,.sl rA d.to'),(3,.sl rA e)],9⟩) (fun n st=>Mw N d e n st.1 st.2) (r:=r) (fun _=>rfl) ?_ (fun ih=>?_))
   ·intro n2 ih5;rintro ⟨o,p⟩ h;unfold Mw at h;refine Yv J 5 h (fun h=>wa J 2 (Yi [] (j3 o h))) fun h=>?_;refine wO J 7 h fun q t h=>YK J Wy t ?_;refine wO J 17 h fun u x h=>YK J oD x ?_;refine wO J 1 h fun y z h=>YK J oD z (wa J 1 (YX J [] oD ([q.ZB,q.To,q.ZP,y]:List Int) ?_));have ⟨A,C,h⟩:=ob h;exact Yl (ZvL N ([q.ZB,q.To,q.ZP,y]:List Int) o _ C) [13] [(0,.sl 13),(1,.bp 5 0),(2,.sl 8)] (YJ (wa J 5 (Yi [(8,.sl 14)] (ih5 (A,(Yh (p+1))) h))))
   exact Yi [(8,.sl 7)] (ih N (i,0) h)
  exact eB h (fun h=>wa J 6 (Yi [] (j2 (Yh (f+2)) h))) fun h=>wa J 2 (Yi [] (j2 f h))
 exact eB h (fun h=>wa J 4 (Yi [] (j1 1 h))) fun h=>wa J 2 (Yi [] (j1 0 h))
end Gx
end
