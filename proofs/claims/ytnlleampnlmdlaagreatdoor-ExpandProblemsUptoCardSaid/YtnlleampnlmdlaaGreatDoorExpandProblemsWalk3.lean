/- Each function of the statement computes what its plain definition says, part 3. -/
import Derived.Test.YtnlleampnlmdlaaGreatDoorExpandProblemsWalk2
set_option linter.all false
section
set_option maxRecDepth 10000
set_option maxHeartbeats 4000000
open Go Go.Kx Go.Proofs Tryz
namespace Gx
theorem Ze3 (N:Nat) (c:ZZ) (d:(List ByteArray)) (r:ZZ) (h:Qa N c d=some r) :
 Fn Tryz.prog 117 ⟨7,[.B 0 0,.S 6],((1,.sl Yp c.l')::YV 2 3 4 c.p' [(6,.sl rS d)]),[(0,.box (Wr 1 2 3 4 5 c) 117),(5,.own rS c.calls' false)],12,.t [],((7,.sl Yp r.l')::YV 8 9 10 r.p' []),[(5,.gone),(11,.own rS r.calls' false),(0,.box (Wr 7 8 9 10 11 r) 117)]⟩:=by
 refine Z5 func117 rfl (fun E F w=>?_)
 unfold Qa at h
 refine wa J 4 (Z2 (σ:=(List ZU) × ByteArray × (List ByteArray) × (List Yi) × (List ZT) × (List ByteArray) × ByteArray × ByteArray × Int) (fun st=>(Zlk st.2.1 st.2.2.2.2.2.2.1 st.2.2.2.2.2.2.2.1 st.2.2.2.2.2.2.2.2 st.2.2.2.2.2.1 c.l' c.p' d st.1 st.2.2.1 st.2.2.2.1 st.2.2.2.2.1 [])) (fun st=>GB st.1 st.2.1 st.2.2.1 st.2.2.2.1 st.2.2.2.2.1 st.2.2.2.2.2.1 st.2.2.2.2.2.2.1 st.2.2.2.2.2.2.2.1 st.2.2.2.2.2.2.2.2=some r) ?_ (fun j1=>?_))
 ·rintro ⟨e,f,g,i,j,k,l,m,o⟩ h
  unfold GB at h
  cases h
  exact Y7 J func117 [(7,.sl 7),(8,.sl 8),(9,.sl 9),(10,.sl 10),(11,.sl 11)]
 refine wa J 1 (Yc (σ:=(List ZU) × ByteArray × (List ByteArray) × (List Yi) × (List ZT) × (List ByteArray) × ByteArray × ByteArray × Int × Int) (fun st=>(Zlk st.2.1 st.2.2.2.2.2.2.1 st.2.2.2.2.2.2.2.1 st.2.2.2.2.2.2.2.2.1 st.2.2.2.2.2.1 c.l' c.p' d st.1 st.2.2.1 st.2.2.2.1 st.2.2.2.2.1 [(0,.B 0 0),(1,.S 6),(4,.I st.2.2.2.2.2.2.2.2.2)])) (fun n st=>S4 N d n st.1 st.2.1 st.2.2.1 st.2.2.2.1 st.2.2.2.2.1 st.2.2.2.2.2.1 st.2.2.2.2.2.2.1 st.2.2.2.2.2.2.2.1 st.2.2.2.2.2.2.2.2.1 st.2.2.2.2.2.2.2.2.2) (r:=r) (fun _=>rfl) ?_ (fun ih=>?_))
 ·intro n2 ih3
  rintro ⟨p,q,u,v,x,y,z,A,C,D⟩ h
  unfold S4 at h
  refine ZQ J 8 h (fun h=>wa J 2 (ZK [] (j1 (p,q,u,v,x,y,z,A,C) h))) fun h=>?_
  refine wO J 13 h fun G H h=>Yb J oS H ?_
  refine wO J 1 h fun R T h=>ZO (Rp N u G _ T) [] [(0,.sl 8)] ?_
  refine wB J 2 h (fun h=>wa J 10 (Yr ?_)) fun h=>?_
  ·refine wO J 5 h fun U X h=>Yb J oS X ?_
   exact wO J 1 h fun Y Z h=>ZO (X7 N (⟨p,(⟨q,u,v,x⟩:ZU),y,(⟨z,A,C⟩:T6)⟩:ZZ) U 12 _ Z) [] [(0,.bp 0 0),(1,.sl 7),(2,.sl 8),(3,.sl 9),(4,.sl 10),(5,.sl 11)] (wa J 7 (ZK [(7,.sl 14),(8,.sl 15),(9,.sl 16),(10,.sl 17),(11,.sl 18)] (ih3 (Y.l',Y.p'.Zt,Y.p'.ZD,Y.p'.ZE,Y.p'.ZF,Y.calls',Y.first'.ZH,Y.first'.Zt,Y.first'.ZI,(ZM (D+1))) h)))
  refine wO J 2 h fun a0 b0 h=>QU J rS b0 ?_
  refine wO J 2 h fun c0 e0 h=>Yb J oS e0 ?_
  refine wO J 1 h fun g0 i0 h=>ZO (Rp N a0 c0 _ i0) [] [(0,.sl 13)] (wa J 2 (Yr ?_))
  refine YZ h (fun h=>wa J 8 (ZK [] (ih3 (p,q,u,v,x,y,z,A,C,(ZM (D+1))) h))) fun h=>?_
  refine wO J 5 h fun j0 k0 h=>Yb J oS k0 ?_
  exact wO J 1 h fun l0 m0 h=>ZO (X7 N (⟨p,(⟨q,u,v,x⟩:ZU),y,(⟨z,A,C⟩:T6)⟩:ZZ) j0 12 _ m0) [] [(0,.bp 0 0),(1,.sl 7),(2,.sl 8),(3,.sl 9),(4,.sl 10),(5,.sl 11)] (wa J 7 (ZK [(7,.sl 16),(8,.sl 17),(9,.sl 18),(10,.sl 19),(11,.sl 20)] (ih3 (l0.l',l0.p'.Zt,l0.p'.ZD,l0.p'.ZE,l0.p'.ZF,l0.calls',l0.first'.ZH,l0.first'.Zt,l0.first'.ZI,(ZM (D+1))) h)))
 exact ZK [(7,.sl 1),(8,.sl 2),(9,.sl 3),(10,.sl 4),(11,.sl 5)] (ih N (c.l',c.p'.Zt,c.p'.ZD,c.p'.ZE,c.p'.ZF,c.calls',c.first'.ZH,c.first'.Zt,c.first'.ZI,0) h)
theorem Zrh (N:Nat) (c:ZZ) (d:ZT) (r:ZZ) (h:GC N c d=some r) :
 Fn Tryz.prog 119 ⟨8,[.B 0 0,.a [.I d.Zq,.s d.ZA,.sl 6,.s d.Zt,.s d.As,.I d.ZB,.sl 7]],((1,.sl Yp c.l')::YV 2 3 4 c.p' [(6,.sl rS d.To),(7,.sl (Yk Yo) d.ZC)]),[(0,.box (Wr 1 2 3 4 5 c) 117),(5,.own rS c.calls' false)],13,.t [],((8,.sl Yp r.l')::YV 9 10 11 r.p' []),[(5,.gone),(12,.own rS r.calls' false),(0,.box (Wr 8 9 10 11 12 r) 117)]⟩:=by
 refine Z5 func119 rfl (fun E F w=>?_)
 unfold GC at h
 refine wO J 12 h fun e f h=>ZO (Zkt N c.l' d.Zt _ f) [] [(0,.sl 1)] (wa J 6 (Yr (wa J 8 (Z2 (σ:=(List ZU) × ByteArray × (List ByteArray) × (List Yi) × (List ZT) × (List ByteArray) × ByteArray × ByteArray × Int) (fun st=>⟨[(0,.B 0 0),(3,.B 8 0)],[(0,.box [.sl 13,.s st.2.1,.sl 14,.sl 15,.sl 16,.sl 17,.s st.2.2.2.2.2.2.1,.s st.2.2.2.2.2.2.2.1,.I st.2.2.2.2.2.2.2.2] 117),(8,.box [.I d.Zq,.s d.ZA,.sl 6,.s d.Zt,.s d.As,.I d.ZB,.sl 7] 83),(17,.own rS st.2.2.2.2.2.1 false)],((1,.sl Yp c.l')::YV 2 3 4 c.p' [(6,.sl rS d.To),(7,.sl (Yk Yo) d.ZC),(13,.sl Yp st.1),(14,.sl rS st.2.2.1),(15,.sl Xp st.2.2.2.1),(16,.sl Yo st.2.2.2.2.1)]),18⟩) (fun st=>Pm N d st.1 st.2.1 st.2.2.1 st.2.2.2.1 st.2.2.2.2.1 st.2.2.2.2.2.1 st.2.2.2.2.2.2.1 st.2.2.2.2.2.2.2.1 st.2.2.2.2.2.2.2.2=some r) ?_ (fun j1=>?_)))))
 ·rintro ⟨g,i,j,k,l,m,o,p,q⟩ h
  unfold Pm at h
  refine wO J 6 h fun u v h=>ZO (Ze3 N (⟨g,(⟨i,j,k,l⟩:ZU),m,(⟨o,p,q⟩:T6)⟩:ZZ) d.To _ v) [] [(0,.bp 0 0),(1,.sl 13),(2,.sl 14),(3,.sl 15),(4,.sl 16),(5,.sl 17),(6,.sl 6)] ?_
  refine wO J 10 h fun x y h=>Wo (Rp N u.calls' d.As _ y) [] [(0,.sl 22)] [22] (.inr ⟨rfl,trivial⟩) (wa J 1 (Yr ?_))
  refine YZ h (fun h=>wa J 10 (YB J [] oS ([d.As]:List ByteArray) ?_)) fun h=>?_
  ·have ⟨z,A,h⟩:=ob h
   refine YK J rS A (wa J 3 (Yr ?_))
   cases h
   exact Y7 J func119 [(8,.sl 18),(9,.sl 19),(10,.sl 20),(11,.sl 21),(12,.sl 24)]
  refine wO J 5 h fun C D h=>ZO (X7 N u d.As 9 _ D) [] [(0,.bp 0 0),(1,.sl 18),(2,.sl 19),(3,.sl 20),(4,.sl 21),(5,.sl 22)] (wa J 9 (YB J [] oS ([d.As]:List ByteArray) ?_))
  have ⟨G,H,h⟩:=ob h
  refine YK J rS H (wa J 3 (Yr ?_))
  cases h
  exact Y7 J func119 [(8,.sl 23),(9,.sl 24),(10,.sl 25),(11,.sl 26),(12,.sl 29)]
 refine eB h (fun h=>?_) fun h=>?_
 ·exact wO J 5 h fun R T h=>ZO (X7 N c d.Zt 10 _ T) [] [(0,.bp 0 0),(1,.sl 1),(2,.sl 2),(3,.sl 3),(4,.sl 4),(5,.sl 5)] (wa J 1 (ZK [] (j1 (R.l',R.p'.Zt,R.p'.ZD,R.p'.ZE,R.p'.ZF,R.calls',R.first'.ZH,R.first'.Zt,R.first'.ZI) h)))
 refine ZQ J 12 h (fun h=>wa J 2 (ZK [(13,.sl 1),(14,.sl 2),(15,.sl 3),(16,.sl 4),(17,.sl 5)] (j1 (c.l',c.p'.Zt,c.p'.ZD,c.p'.ZE,c.p'.ZF,c.calls',c.first'.ZH,c.first'.Zt,c.first'.ZI) h))) fun h=>?_
 exact wO J 5 h fun U X h=>ZO (X7 N c d.Zt 1 _ X) [] [(0,.bp 0 0),(1,.sl 1),(2,.sl 2),(3,.sl 3),(4,.sl 4),(5,.sl 5)] (wa J 1 (ZK [] (j1 (U.l',U.p'.Zt,U.p'.ZD,U.p'.ZE,U.p'.ZF,U.calls',U.first'.ZH,U.first'.Zt,U.first'.ZI) h)))
theorem ZsV (N:Nat) (rc:ZZ->(List ZT)->(List ByteArray)->Int->Int->Option ZZ) (rcT:(∀ (c:ZZ) (d:(List ZT)) (e:(List ByteArray)) (f:Int) (g:Int) (r:ZZ),rc c d e f g=some r->Fn Tryz.prog 51 ⟨8,[.B 0 0,.S 6,.S 7,.I f,.I g],((1,.sl Yp c.l')::YV 2 3 4 c.p' [(6,.sl Yo d),(7,.sl rS e)]),[(0,.box (Wr 1 2 3 4 5 c) 117),(5,.own rS c.calls' false)],13,.t [],((8,.sl Yp r.l')::YV 9 10 11 r.p' []),[(5,.gone),(12,.own rS r.calls' false),(0,.box (Wr 8 9 10 11 12 r) 117)]⟩)) (c:ZZ) (d:(List ZT)) (e:(List ByteArray)) (f:Int) (g:Int) (r:ZZ) (h:DI N rc c d e f g=some r) :
 Fn Tryz.prog 51 ⟨8,[.B 0 0,.S 6,.S 7,.I f,.I g],((1,.sl Yp c.l')::YV 2 3 4 c.p' [(6,.sl Yo d),(7,.sl rS e)]),[(0,.box (Wr 1 2 3 4 5 c) 117),(5,.own rS c.calls' false)],13,.t [],((8,.sl Yp r.l')::YV 9 10 11 r.p' []),[(5,.gone),(12,.own rS r.calls' false),(0,.box (Wr 8 9 10 11 12 r) 117)]⟩:=by
 refine Z5 func51 rfl (fun E F w=>?_)
 unfold DI at h
 refine wa J 4 (Z2 (σ:=(List ZU) × ByteArray × (List ByteArray) × (List Yi) × (List ZT) × (List ByteArray) × ByteArray × ByteArray × Int) (fun st=>(Zll st.2.1 st.2.2.2.2.2.2.1 st.2.2.2.2.2.2.2.1 st.2.2.2.2.2.2.2.2 st.2.2.2.2.2.1 c.l' c.p' d e st.1 st.2.2.1 st.2.2.2.1 st.2.2.2.2.1 [])) (fun st=>DJ st.1 st.2.1 st.2.2.1 st.2.2.2.1 st.2.2.2.2.1 st.2.2.2.2.2.1 st.2.2.2.2.2.2.1 st.2.2.2.2.2.2.2.1 st.2.2.2.2.2.2.2.2=some r) ?_ (fun j1=>?_))
 ·rintro ⟨i,j,k,l,m,o,p,q,u⟩ h
  unfold DJ at h
  cases h
  exact Y7 J func51 [(8,.sl 8),(9,.sl 9),(10,.sl 10),(11,.sl 11),(12,.sl 12)]
 refine wa J 1 (Yc (σ:=(List ZU) × ByteArray × (List ByteArray) × (List Yi) × (List ZT) × (List ByteArray) × ByteArray × ByteArray × Int × Int) (fun st=>(Zll st.2.1 st.2.2.2.2.2.2.1 st.2.2.2.2.2.2.2.1 st.2.2.2.2.2.2.2.2.1 st.2.2.2.2.2.1 c.l' c.p' d e st.1 st.2.2.1 st.2.2.2.1 st.2.2.2.2.1 [(0,.B 0 0),(1,.S 6),(2,.S 7),(3,.I f),(4,.I g),(10,.I st.2.2.2.2.2.2.2.2.2)])) (fun n st=>Us N rc d e f g n st.1 st.2.1 st.2.2.1 st.2.2.2.1 st.2.2.2.2.1 st.2.2.2.2.2.1 st.2.2.2.2.2.2.1 st.2.2.2.2.2.2.2.1 st.2.2.2.2.2.2.2.2.1 st.2.2.2.2.2.2.2.2.2) (r:=r) (fun _=>rfl) ?_ (fun ih=>?_))
 ·intro n12 ih18
  rintro ⟨v,x,y,z,A,C,D,G,H,R⟩ h
  unfold Us at h
  refine ZQ J 8 h (fun h=>wa J 2 (ZK [] (j1 (v,x,y,z,A,C,D,G,H) h))) fun h=>?_
  refine wO J 8 h fun T U h=>Yb J VT U (wa J 22 (Z2 (σ:=Int) (fun st=>⟨[(0,.B 0 0),(1,.S 6),(2,.S 7),(3,.I f),(4,.I g),(10,.I R),(11,.B 16 0),(12,.S 7),(13,.I f),(14,.I st)],[(0,.box [.sl 8,.s x,.sl 9,.sl 10,.sl 11,.sl 12,.s D,.s G,.I H] 117),(12,.own rS C false),(16,.box [.I T.Zq,.s T.ZA,.sl 14,.s T.Zt,.s T.As,.I T.ZB,.sl 15] 83)],((1,.sl Yp c.l')::YV 2 3 4 c.p' [(6,.sl Yo d),(7,.sl rS e),(8,.sl Yp v),(9,.sl rS y),(10,.sl Xp z),(11,.sl Yo A),(14,.sl rS T.To),(15,.sl (Yk Yo) T.ZC)]),17⟩) (fun st=>Hp N rc e f v x y z A C D G H R (Us N rc d e f g n12) T st=some r) ?_ (fun j29=>?_)))
  ·intro X h
   unfold Hp at h
   refine wa J 12 (Z2 (σ:=(List ZU) × ByteArray × (List ByteArray) × (List Yi) × (List ZT) × (List ByteArray) × ByteArray × ByteArray × Int × (List ByteArray) × Int) (fun st=>⟨[(0,.B 0 0),(1,.S 6),(2,.S 7),(3,.I f),(4,.I g),(10,.I R),(11,.B 16 0),(12,.S 22),(13,.I st.2.2.2.2.2.2.2.2.2.2),(14,.I X)],[(0,.box [.sl 17,.s st.2.1,.sl 18,.sl 19,.sl 20,.sl 21,.s st.2.2.2.2.2.2.1,.s st.2.2.2.2.2.2.2.1,.I st.2.2.2.2.2.2.2.2.1] 117),(16,.box [.I T.Zq,.s T.ZA,.sl 14,.s T.Zt,.s T.As,.I T.ZB,.sl 15] 83),(21,.own rS st.2.2.2.2.2.1 false)],((1,.sl Yp c.l')::YV 2 3 4 c.p' [(6,.sl Yo d),(7,.sl rS e),(14,.sl rS T.To),(15,.sl (Yk Yo) T.ZC),(17,.sl Yp st.1),(18,.sl rS st.2.2.1),(19,.sl Xp st.2.2.2.1),(20,.sl Yo st.2.2.2.2.1),(22,.sl rS st.2.2.2.2.2.2.2.2.2.1)]),23⟩) (fun st=>W6 N rc R (Us N rc d e f g n12) T X st.1 st.2.1 st.2.2.1 st.2.2.2.1 st.2.2.2.2.1 st.2.2.2.2.2.1 st.2.2.2.2.2.2.1 st.2.2.2.2.2.2.2.1 st.2.2.2.2.2.2.2.2.1 st.2.2.2.2.2.2.2.2.2.1 st.2.2.2.2.2.2.2.2.2.2=some r) ?_ (fun j30=>?_))
   ·rintro ⟨Y,Z,a0,b0,c0,e0,g0,i0,j0,k0,l0⟩ h
    unfold W6 at h
    refine wa J 5 (Z2 (σ:=(List ZU) × ByteArray × (List ByteArray) × (List Yi) × (List ZT) × (List ByteArray) × ByteArray × ByteArray × Int) (fun st=>⟨[(0,.B 0 0),(1,.S 6),(2,.S 7),(3,.I f),(4,.I g),(10,.I R)],[(0,.box [.sl 23,.s st.2.1,.sl 24,.sl 25,.sl 26,.sl 27,.s st.2.2.2.2.2.2.1,.s st.2.2.2.2.2.2.2.1,.I st.2.2.2.2.2.2.2.2] 117),(27,.own rS st.2.2.2.2.2.1 false)],((1,.sl Yp c.l')::YV 2 3 4 c.p' [(6,.sl Yo d),(7,.sl rS e),(23,.sl Yp st.1),(24,.sl rS st.2.2.1),(25,.sl Xp st.2.2.2.1),(26,.sl Yo st.2.2.2.2.1)]),28⟩) (fun st=>DK R (Us N rc d e f g n12) st.1 st.2.1 st.2.2.1 st.2.2.2.1 st.2.2.2.2.1 st.2.2.2.2.2.1 st.2.2.2.2.2.2.1 st.2.2.2.2.2.2.2.1 st.2.2.2.2.2.2.2.2=some r) ?_ (fun j31=>?_))
    ·rintro ⟨m0,o0,p0,q0,s0,t0,u0,v0,x0⟩ h
     unfold DK at h
     exact wa J 6 (ZK [(8,.sl 23),(9,.sl 24),(10,.sl 25),(11,.sl 26),(12,.sl 27)] (ih18 (m0,o0,p0,q0,s0,t0,u0,v0,x0,(ZM (R+1))) h))
    refine wa J 1 (Yc (σ:=(List ZU) × ByteArray × (List ByteArray) × (List Yi) × (List ZT) × (List ByteArray) × ByteArray × ByteArray × Int × Int) (fun st=>⟨[(0,.B 0 0),(1,.S 6),(2,.S 7),(3,.I f),(4,.I g),(10,.I R),(11,.B 16 0),(12,.S 22),(13,.I l0),(14,.I X),(17,.I st.2.2.2.2.2.2.2.2.2)],[(0,.box [.sl 23,.s st.2.1,.sl 24,.sl 25,.sl 26,.sl 27,.s st.2.2.2.2.2.2.1,.s st.2.2.2.2.2.2.2.1,.I st.2.2.2.2.2.2.2.2.1] 117),(16,.box [.I T.Zq,.s T.ZA,.sl 14,.s T.Zt,.s T.As,.I T.ZB,.sl 15] 83),(27,.own rS st.2.2.2.2.2.1 false)],((1,.sl Yp c.l')::YV 2 3 4 c.p' [(6,.sl Yo d),(7,.sl rS e),(14,.sl rS T.To),(15,.sl (Yk Yo) T.ZC),(22,.sl rS k0),(23,.sl Yp st.1),(24,.sl rS st.2.2.1),(25,.sl Xp st.2.2.2.1),(26,.sl Yo st.2.2.2.2.1)]),28⟩) (fun n st=>Ma rc R (Us N rc d e f g n12) T X k0 l0 n st.1 st.2.1 st.2.2.1 st.2.2.2.1 st.2.2.2.2.1 st.2.2.2.2.2.1 st.2.2.2.2.2.2.1 st.2.2.2.2.2.2.2.1 st.2.2.2.2.2.2.2.2.1 st.2.2.2.2.2.2.2.2.2) (r:=r) (fun _=>rfl) ?_ (fun ih=>?_))
    ·intro n14 ih33
     rintro ⟨y0,z0,A0,B0,C0,D0,G0,H0,I0,L0⟩ h
     unfold Ma at h
     refine ZQ J 9 h (fun h=>wa J 2 (ZK [] (j31 (y0,z0,A0,B0,C0,D0,G0,H0,I0) h))) fun h=>?_
     refine wO J 9 h fun M0 O0 h=>Yb J (YQ Yo) O0 ?_
     exact wO J 4 h fun R0 S0 h=>ZO (rcT (⟨y0,(⟨z0,A0,B0,C0⟩:ZU),D0,(⟨G0,H0,I0⟩:T6)⟩:ZZ) M0 k0 l0 X _ S0) [] [(0,.bp 0 0),(1,.sl 23),(2,.sl 24),(3,.sl 25),(4,.sl 26),(5,.sl 27),(6,.sl 29),(7,.sl 22)] (wa J 7 (ZK [(23,.sl 30),(24,.sl 31),(25,.sl 32),(26,.sl 33),(27,.sl 34)] (ih33 (R0.l',R0.p'.Zt,R0.p'.ZD,R0.p'.ZE,R0.p'.ZF,R0.calls',R0.first'.ZH,R0.first'.Zt,R0.first'.ZI,(ZM (L0+1))) h)))
    exact ZK [(23,.sl 17),(24,.sl 18),(25,.sl 19),(26,.sl 20),(27,.sl 21)] (ih N (Y,Z,a0,b0,c0,e0,g0,i0,j0,0) h)
   refine eB h (fun h=>wa J 6 (YB J [] oS ([T.ZA]:List ByteArray) ?_)) fun h=>?_
   ·refine wO J 2 h fun U0 V0 h=>YK J rS V0 ?_
    have ⟨X0,Y0,h⟩:=ob h
    refine ZO (Ze3 N (⟨v,(⟨x,y,z,A⟩:ZU),C,(⟨D,G,H⟩:T6)⟩:ZZ) U0 _ Y0) [18] [(0,.bp 0 0),(1,.sl 8),(2,.sl 9),(3,.sl 10),(4,.sl 11),(5,.sl 12),(6,.sl 18)] ?_
    refine wO J 9 h fun Z0 a1 h=>ZO (Zks N X0.p' T.Zt _ a1) [] [(0,.sl 20),(1,.sl 21),(2,.sl 22)] (wa J 6 (Yr ?_))
    refine ZQ J 5 h (fun h=>wa J 2 (ZK [(17,.sl 19),(18,.sl 20),(19,.sl 21),(20,.sl 22),(21,.sl 23),(22,.sl 7)] (j30 (X0.l',X0.p'.Zt,X0.p'.ZD,X0.p'.ZE,X0.p'.ZF,X0.calls',X0.first'.ZH,X0.first'.Zt,X0.first'.ZI,e,f) h))) fun h=>?_
    exact wO J 5 h fun b1 c1 h=>ZO (X7 N X0 T.Zt 10 _ c1) [] [(0,.bp 0 0),(1,.sl 19),(2,.sl 20),(3,.sl 21),(4,.sl 22),(5,.sl 23)] (wa J 1 (ZK [(17,.sl 27),(18,.sl 28),(19,.sl 29),(20,.sl 30),(21,.sl 31),(22,.sl 7)] (j30 (b1.l',b1.p'.Zt,b1.p'.ZD,b1.p'.ZE,b1.p'.ZF,b1.calls',b1.first'.ZH,b1.first'.Zt,b1.first'.ZI,e,f) h)))
   refine wB J 6 h (fun h=>wa J 5 (YB J [] oS ([T.ZA]:List ByteArray) ?_)) fun h=>?_
   ·have ⟨e1,g1,h⟩:=ob h
    exact ZO (Ze3 N (⟨v,(⟨x,y,z,A⟩:ZU),C,(⟨D,G,H⟩:T6)⟩:ZZ) ([T.ZA]:List ByteArray) _ g1) [17] [(0,.bp 0 0),(1,.sl 8),(2,.sl 9),(3,.sl 10),(4,.sl 11),(5,.sl 12),(6,.sl 17)] (wa J 1 (ZK [(17,.sl 18),(18,.sl 19),(19,.sl 20),(20,.sl 21),(21,.sl 22),(22,.sl 7)] (j30 (e1.l',e1.p'.Zt,e1.p'.ZD,e1.p'.ZE,e1.p'.ZF,e1.calls',e1.first'.ZH,e1.first'.Zt,e1.first'.ZI,e,f) h)))
   refine wB J 6 h (fun h=>?_) fun h=>?_
   ·refine wO J 7 h fun i1 k1 h=>ZO (Rp N e T.Zt _ k1) [] [(0,.sl 7)] ?_
    refine ZQ J 2 h (fun h=>wa J 3 (YB J [] oS ([]:List ByteArray) ?_)) fun h=>?_
    ·refine wO J 1 h fun l1 m1 h=>YK J rS m1 (wa J 2 (YB J [] oS ([T.Zt]:List ByteArray) ?_))
     have ⟨o1,p1,h⟩:=ob h
     exact YK J rS p1 (wa J 1 (Yr (WX [20] (ZK [(17,.sl 8),(18,.sl 9),(19,.sl 10),(20,.sl 11),(21,.sl 12),(22,.sl 20)] (j30 (v,x,y,z,A,C,D,G,H,o1,f) h)))))
    refine wO J 5 h fun q1 s1 h=>ZO (X7 N (⟨v,(⟨x,y,z,A⟩:ZU),C,(⟨D,G,H⟩:T6)⟩:ZZ) T.Zt 9 _ s1) [] [(0,.bp 0 0),(1,.sl 8),(2,.sl 9),(3,.sl 10),(4,.sl 11),(5,.sl 12)] (wa J 2 (YB J [] oS ([]:List ByteArray) ?_))
    refine wO J 1 h fun t1 u1 h=>YK J rS u1 (wa J 2 (YB J [] oS ([T.Zt]:List ByteArray) ?_))
    have ⟨v1,x1,h⟩:=ob h
    exact YK J rS x1 (wa J 1 (Yr (WX [25] (ZK [(22,.sl 25)] (j30 (q1.l',q1.p'.Zt,q1.p'.ZD,q1.p'.ZE,q1.p'.ZF,q1.calls',q1.first'.ZH,q1.first'.Zt,q1.first'.ZI,v1,f) h)))))
   refine ZQ J 6 h (fun h=>?_) fun h=>?_
   ·refine wB J 6 h (fun h=>wa J 6 (ZK [(17,.sl 8),(18,.sl 9),(19,.sl 10),(20,.sl 11),(21,.sl 12),(22,.sl 7)] (j30 (v,x,y,z,A,C,D,G,H,e,(e.length:Int)) h))) fun h=>?_
    refine ZQ J 6 h (fun h=>wa J 2 (ZK [(17,.sl 8),(18,.sl 9),(19,.sl 10),(20,.sl 11),(21,.sl 12),(22,.sl 7)] (j30 (v,x,y,z,A,C,D,G,H,e,f) h))) fun h=>?_
    exact wO J 4 h fun y1 z1 h=>ZO (Zrh N (⟨v,(⟨x,y,z,A⟩:ZU),C,(⟨D,G,H⟩:T6)⟩:ZZ) T _ z1) [] [(0,.bp 0 0),(1,.sl 8),(2,.sl 9),(3,.sl 10),(4,.sl 11),(5,.sl 12),(6,.sl 14),(7,.sl 15)] (wa J 1 (ZK [(22,.sl 7)] (j30 (y1.l',y1.p'.Zt,y1.p'.ZD,y1.p'.ZE,y1.p'.ZF,y1.calls',y1.first'.ZH,y1.first'.Zt,y1.first'.ZI,e,f) h)))
   refine wO J 6 h fun A1 B1 h=>QU J rS B1 ?_
   refine wO J 2 h fun C1 D1 h=>ZO (Rp N A1 T.Zt _ D1) [] [(0,.sl 17)] (wa J 1 (Yr ?_))
   refine YZ h (fun h=>?_) fun h=>?_
   ·refine wO J 7 h fun G1 H1 h=>ZO (Rp N e T.Zt _ H1) [] [(0,.sl 7)] ?_
    refine ZQ J 3 h (fun h=>wa J 2 (ZK [(17,.sl 8),(18,.sl 9),(19,.sl 10),(20,.sl 11),(21,.sl 12),(22,.sl 7)] (j30 (v,x,y,z,A,C,D,G,H,e,f) h))) fun h=>?_
    exact wO J 5 h fun I1 L1 h=>ZO (X7 N (⟨v,(⟨x,y,z,A⟩:ZU),C,(⟨D,G,H⟩:T6)⟩:ZZ) T.Zt 7 _ L1) [] [(0,.bp 0 0),(1,.sl 8),(2,.sl 9),(3,.sl 10),(4,.sl 11),(5,.sl 12)] (wa J 1 (ZK [(17,.sl 18),(18,.sl 19),(19,.sl 20),(20,.sl 21),(21,.sl 22),(22,.sl 7)] (j30 (I1.l',I1.p'.Zt,I1.p'.ZD,I1.p'.ZE,I1.p'.ZF,I1.calls',I1.first'.ZH,I1.first'.Zt,I1.first'.ZI,e,f) h)))
   refine wO J 5 h fun M1 O1 h=>ZO (X7 N (⟨v,(⟨x,y,z,A⟩:ZU),C,(⟨D,G,H⟩:T6)⟩:ZZ) T.Zt 10 _ O1) [] [(0,.bp 0 0),(1,.sl 8),(2,.sl 9),(3,.sl 10),(4,.sl 11),(5,.sl 12)] ?_
   refine wO J 6 h fun R1 S1 h=>ZO (Rp N e T.Zt _ S1) [] [(0,.sl 7)] ?_
   refine ZQ J 3 h (fun h=>wa J 2 (ZK [(17,.sl 18),(18,.sl 19),(19,.sl 20),(20,.sl 21),(21,.sl 22),(22,.sl 7)] (j30 (M1.l',M1.p'.Zt,M1.p'.ZD,M1.p'.ZE,M1.p'.ZF,M1.calls',M1.first'.ZH,M1.first'.Zt,M1.first'.ZI,e,f) h))) fun h=>?_
   exact wO J 5 h fun U1 V1 h=>ZO (X7 N M1 T.Zt 7 _ V1) [] [(0,.bp 0 0),(1,.sl 18),(2,.sl 19),(3,.sl 20),(4,.sl 21),(5,.sl 22)] (wa J 1 (ZK [(17,.sl 23),(18,.sl 24),(19,.sl 25),(20,.sl 26),(21,.sl 27),(22,.sl 7)] (j30 (U1.l',U1.p'.Zt,U1.p'.ZD,U1.p'.ZE,U1.p'.ZF,U1.calls',U1.first'.ZH,U1.first'.Zt,U1.first'.ZI,e,f) h)))
  exact eB h (fun h=>wa J 6 (ZK [] (j29 (e.length:Int) h))) fun h=>wa J 2 (ZK [] (j29 g h))
 exact ZK [(8,.sl 1),(9,.sl 2),(10,.sl 3),(11,.sl 4),(12,.sl 5)] (ih N (c.l',c.p'.Zt,c.p'.ZD,c.p'.ZE,c.p'.ZF,c.calls',c.first'.ZH,c.first'.Zt,c.first'.ZI,0) h)
theorem ZsX:∀ (N:Nat) (c:ZZ) (d:(List ZT)) (e:(List ByteArray)) (f:Int) (g:Int) (r:ZZ) (h:UU N c d e f g=some r),Fn Tryz.prog 51 ⟨8,[.B 0 0,.S 6,.S 7,.I f,.I g],((1,.sl Yp c.l')::YV 2 3 4 c.p' [(6,.sl Yo d),(7,.sl rS e)]),[(0,.box (Wr 1 2 3 4 5 c) 117),(5,.own rS c.calls' false)],13,.t [],((8,.sl Yp r.l')::YV 9 10 11 r.p' []),[(5,.gone),(12,.own rS r.calls' false),(0,.box (Wr 8 9 10 11 12 r) 117)]⟩:=by
 intro N
 induction N with
 | zero=>intros;rename_i h;cases h
 | succ N ih=>intro c d e f g r h;exact ZsV N (UU N) ih c d e f g r h
theorem ZsW (N:Nat) (c:ZZ) (d:(List ZT)) (e:(List ByteArray)) (f:Int) (g:Int) (r:ZZ) (h:z51 N c d e f g=some r):Fn Tryz.prog 51 ⟨8,[.B 0 0,.S 6,.S 7,.I f,.I g],((1,.sl Yp c.l')::YV 2 3 4 c.p' [(6,.sl Yo d),(7,.sl rS e)]),[(0,.box (Wr 1 2 3 4 5 c) 117),(5,.own rS c.calls' false)],13,.t [],((8,.sl Yp r.l')::YV 9 10 11 r.p' []),[(5,.gone),(12,.own rS r.calls' false),(0,.box (Wr 8 9 10 11 12 r) 117)]⟩:=ZsX N c d e f g r h
theorem Zkr (N:Nat) (c:ZZ) (d:Yi) (r:ZZ) (h:Lu N c d=some r) :
 Fn Tryz.prog 115 ⟨8,[.B 0 0,.a [.s d.Zt,.sl 6,.sl 7]],((1,.sl Yp c.l')::YV 2 3 4 c.p' (Wk 6 7 d [])),[(0,.box (Wr 1 2 3 4 5 c) 117),(5,.own rS c.calls' false)],13,.t [],((8,.sl Yp r.l')::YV 9 10 11 r.p' []),[(5,.gone),(12,.own rS r.calls' false),(0,.box (Wr 8 9 10 11 12 r) 117)]⟩:=by
 refine Z5 func115 rfl (fun E F w=>?_)
 unfold Lu at h
 refine wa J 8 (Z2 (σ:=(List ZU) × ByteArray × (List ByteArray) × (List Yi) × (List ZT) × (List ByteArray) × ByteArray × ByteArray × Int) (fun st=>⟨[],[(0,.box [.sl 9,.s st.2.1,.sl 10,.sl 11,.sl 12,.sl 13,.s st.2.2.2.2.2.2.1,.s st.2.2.2.2.2.2.2.1,.I st.2.2.2.2.2.2.2.2] 117),(13,.own rS st.2.2.2.2.2.1 false)],((1,.sl Yp c.l')::YV 2 3 4 c.p' (Wk 6 7 d [(9,.sl Yp st.1),(10,.sl rS st.2.2.1),(11,.sl Xp st.2.2.2.1),(12,.sl Yo st.2.2.2.2.1)])),14⟩) (fun st=>Gw st.1 st.2.1 st.2.2.1 st.2.2.2.1 st.2.2.2.2.1 st.2.2.2.2.2.1 st.2.2.2.2.2.2.1 st.2.2.2.2.2.2.2.1 st.2.2.2.2.2.2.2.2=some r) ?_ (fun j1=>?_))
 ·rintro ⟨e,f,g,i,j,k,l,m,o⟩ h
  unfold Gw at h
  cases h
  exact Y7 J func115 [(8,.sl 9),(9,.sl 10),(10,.sl 11),(11,.sl 12),(12,.sl 13)]
 refine wa J 1 (Yc (σ:=(List ZU) × ByteArray × (List ByteArray) × (List Yi) × (List ZT) × (List ByteArray) × ByteArray × ByteArray × Int × Int) (fun st=>⟨[(0,.B 0 0),(3,.B 8 0),(4,.I st.2.2.2.2.2.2.2.2.2)],[(0,.box [.sl 9,.s st.2.1,.sl 10,.sl 11,.sl 12,.sl 13,.s st.2.2.2.2.2.2.1,.s st.2.2.2.2.2.2.2.1,.I st.2.2.2.2.2.2.2.2.1] 117),(8,.box [.s d.Zt,.sl 6,.sl 7] 71),(13,.own rS st.2.2.2.2.2.1 false)],((1,.sl Yp c.l')::YV 2 3 4 c.p' (Wk 6 7 d [(9,.sl Yp st.1),(10,.sl rS st.2.2.1),(11,.sl Xp st.2.2.2.1),(12,.sl Yo st.2.2.2.2.1)])),14⟩) (fun n st=>Uq N d n st.1 st.2.1 st.2.2.1 st.2.2.2.1 st.2.2.2.2.1 st.2.2.2.2.2.1 st.2.2.2.2.2.2.1 st.2.2.2.2.2.2.2.1 st.2.2.2.2.2.2.2.2.1 st.2.2.2.2.2.2.2.2.2) (r:=r) (fun _=>rfl) ?_ (fun ih=>?_))
 ·intro n12 ih15
  rintro ⟨p,q,u,v,x,y,z,A,C,D⟩ h
  unfold Uq at h
  refine ZQ J 9 h (fun h=>wa J 2 (ZK [] (j1 (p,q,u,v,x,y,z,A,C) h))) fun h=>?_
  refine wO J 9 h fun G H h=>Yb J W9 H (wa J 9 (Z2 (σ:=(List ZU) × ByteArray × (List ByteArray) × (List Yi) × (List ZT) × (List ByteArray) × ByteArray × ByteArray × Int) (fun st=>(Zga st.2.1 st.2.2.2.2.2.2.1 st.2.2.2.2.2.2.2.1 st.2.2.2.2.2.2.2.2 d.Zt G st.2.2.2.2.2.1 c.l' c.p' d st.1 st.2.2.1 st.2.2.2.1 st.2.2.2.2.1 [(0,.B 0 0),(3,.B 8 0),(4,.I D),(5,.B 15 0)])) (fun st=>Lw N D (Uq N d n12) G st.1 st.2.1 st.2.2.1 st.2.2.2.1 st.2.2.2.2.1 st.2.2.2.2.2.1 st.2.2.2.2.2.2.1 st.2.2.2.2.2.2.2.1 st.2.2.2.2.2.2.2.2=some r) ?_ (fun j24=>?_)))
  ·rintro ⟨R,T,U,X,Y,Z,a0,b0,c0⟩ h
   unfold Lw at h
   refine wa J 13 (Z2 (σ:=Int × Int) (fun st=>(Zga T a0 b0 c0 d.Zt G Z c.l' c.p' d R U X Y [(0,.B 0 0),(3,.B 8 0),(4,.I D),(5,.B 15 0),(7,.I st.1),(8,.I st.2)])) (fun st=>Lv N D (Uq N d n12) G R T U X Y Z a0 b0 c0 st.1 st.2=some r) ?_ (fun j26=>?_))
   ·rintro ⟨e0,g0⟩ h
    unfold Lv at h
    refine wB J 8 h (fun h=>?_) fun h=>?_
    ·exact wO J 21 h fun i0 j0 h=>ZO (X7 N (⟨R,(⟨T,U,X,Y⟩:ZU),Z,(⟨a0,b0,c0⟩:T6)⟩:ZZ) G.Zt 2 _ j0) [] [(0,.bp 0 0),(1,.sl 16),(2,.sl 17),(3,.sl 18),(4,.sl 19),(5,.sl 20)] (wa J 7 (ZK [(9,.sl 21),(10,.sl 22),(11,.sl 23),(12,.sl 24),(13,.sl 25)] (ih15 (i0.l',i0.p'.Zt,i0.p'.ZD,i0.p'.ZE,i0.p'.ZF,i0.calls',i0.first'.ZH,i0.first'.Zt,i0.first'.ZI,(ZM (D+1))) h)))
    refine wB J 7 h (fun h=>?_) fun h=>?_
    ·exact wO J 14 h fun k0 l0 h=>ZO (X7 N (⟨R,(⟨T,U,X,Y⟩:ZU),Z,(⟨a0,b0,c0⟩:T6)⟩:ZZ) G.Zt 2 _ l0) [] [(0,.bp 0 0),(1,.sl 16),(2,.sl 17),(3,.sl 18),(4,.sl 19),(5,.sl 20)] (wa J 7 (ZK [(9,.sl 21),(10,.sl 22),(11,.sl 23),(12,.sl 24),(13,.sl 25)] (ih15 (k0.l',k0.p'.Zt,k0.p'.ZD,k0.p'.ZE,k0.p'.ZF,k0.calls',k0.first'.ZH,k0.first'.Zt,k0.first'.ZI,(ZM (D+1))) h)))
    refine ZQ J 9 h (fun h=>wa J 8 (ZK [(9,.sl 16),(10,.sl 17),(11,.sl 18),(12,.sl 19),(13,.sl 20)] (ih15 (R,T,U,X,Y,Z,a0,b0,c0,(ZM (D+1))) h))) fun h=>?_
    exact wO J 5 h fun m0 o0 h=>ZO (X7 N (⟨R,(⟨T,U,X,Y⟩:ZU),Z,(⟨a0,b0,c0⟩:T6)⟩:ZZ) G.Zt 2 _ o0) [] [(0,.bp 0 0),(1,.sl 16),(2,.sl 17),(3,.sl 18),(4,.sl 19),(5,.sl 20)] (wa J 7 (ZK [(9,.sl 21),(10,.sl 22),(11,.sl 23),(12,.sl 24),(13,.sl 25)] (ih15 (m0.l',m0.p'.Zt,m0.p'.ZD,m0.p'.ZE,m0.p'.ZF,m0.calls',m0.first'.ZH,m0.first'.Zt,m0.first'.ZI,(ZM (D+1))) h)))
   exact eB h (fun h=>wa J 5 (ZK [] (j26 (0,40) h))) fun h=>wa J 2 (ZK [] (j26 ((-1000),1000) h))
  refine wa J 1 (Yc (σ:=(List ZU) × ByteArray × (List ByteArray) × (List Yi) × (List ZT) × (List ByteArray) × ByteArray × ByteArray × Int × Int) (fun st=>(Zga st.2.1 st.2.2.2.2.2.2.1 st.2.2.2.2.2.2.2.1 st.2.2.2.2.2.2.2.2.1 d.Zt G st.2.2.2.2.2.1 c.l' c.p' d st.1 st.2.2.1 st.2.2.2.1 st.2.2.2.2.1 [(0,.B 0 0),(3,.B 8 0),(4,.I D),(5,.B 15 0),(6,.I st.2.2.2.2.2.2.2.2.2)])) (fun n st=>R9 N d D (Uq N d n12) G n st.1 st.2.1 st.2.2.1 st.2.2.2.1 st.2.2.2.2.1 st.2.2.2.2.2.1 st.2.2.2.2.2.2.1 st.2.2.2.2.2.2.2.1 st.2.2.2.2.2.2.2.2.1 st.2.2.2.2.2.2.2.2.2) (r:=r) (fun _=>rfl) ?_ (fun ih=>?_))
  ·intro n14 ih27
   rintro ⟨p0,q0,s0,t0,u0,v0,x0,y0,z0,A0⟩ h
   unfold R9 at h
   refine ZQ J 7 h (fun h=>wa J 2 (ZK [] (j24 (p0,q0,s0,t0,u0,v0,x0,y0,z0) h))) fun h=>?_
   refine wO J 9 h fun B0 C0 h=>Yb J W9 C0 (wa J 5 (Yr ?_))
   refine YZ h (fun h=>wa J 8 (ZK [] (ih27 (p0,q0,s0,t0,u0,v0,x0,y0,z0,(ZM (A0+1))) h))) fun h=>?_
   exact wO J 5 h fun D0 G0 h=>ZO (X7 N (⟨p0,(⟨q0,s0,t0,u0⟩:ZU),v0,(⟨x0,y0,z0⟩:T6)⟩:ZZ) G.Zt 9 _ G0) [] [(0,.bp 0 0),(1,.sl 16),(2,.sl 17),(3,.sl 18),(4,.sl 19),(5,.sl 20)] (wa J 7 (ZK [(16,.sl 22),(17,.sl 23),(18,.sl 24),(19,.sl 25),(20,.sl 26)] (ih27 (D0.l',D0.p'.Zt,D0.p'.ZD,D0.p'.ZE,D0.p'.ZF,D0.calls',D0.first'.ZH,D0.first'.Zt,D0.first'.ZI,(ZM (A0+1))) h)))
  exact ZK [(16,.sl 9),(17,.sl 10),(18,.sl 11),(19,.sl 12),(20,.sl 13)] (ih N (p,q,u,v,x,y,z,A,C,0) h)
 exact ZK [(9,.sl 1),(10,.sl 2),(11,.sl 3),(12,.sl 4),(13,.sl 5)] (ih N (c.l',c.p'.Zt,c.p'.ZD,c.p'.ZE,c.p'.ZF,c.calls',c.first'.ZH,c.first'.Zt,c.first'.ZI,0) h)
theorem Zrg (N:Nat) (c:ZZ) (d:Yi) (e:T9) (r:ZZ) (h:Gy N c d e=some r) :
 Fn Tryz.prog 116 ⟨8,[.B 0 0,.a [.s d.Zt,.sl 6,.sl 7],.a [.I e.Zw.Zq,.s e.Zw.Zv,.s e.Zw.Field,.I e.Zw.N,.s e.Op,.I e.Zx.Zq,.s e.Zx.Zv,.s e.Zx.Field,.I e.Zx.N]],((1,.sl Yp c.l')::YV 2 3 4 c.p' (Wk 6 7 d [])),[(0,.box (Wr 1 2 3 4 5 c) 117),(5,.own rS c.calls' false)],13,.t [],((8,.sl Yp r.l')::YV 9 10 11 r.p' []),[(5,.gone),(12,.own rS r.calls' false),(0,.box (Wr 8 9 10 11 12 r) 117)]⟩:=by
 refine Z5 func116 rfl (fun E F w=>?_)
 unfold Gy at h
 refine wa J 25 (Z2 (σ:=(List ZU) × ByteArray × (List ByteArray) × (List Yi) × (List ZT) × (List ByteArray) × ByteArray × ByteArray × Int × Int × Bool) (fun st=>⟨[(0,.B 0 0),(4,.B 8 0),(5,.B 9 0),(6,.I st.2.2.2.2.2.2.2.2.2.1),(7,.O st.2.2.2.2.2.2.2.2.2.2)],[(0,.box [.sl 11,.s st.2.1,.sl 12,.sl 13,.sl 14,.sl 15,.s st.2.2.2.2.2.2.1,.s st.2.2.2.2.2.2.2.1,.I st.2.2.2.2.2.2.2.2.1] 117),(8,.box [.s d.Zt,.sl 6,.sl 7] 71),(9,.box [.I e.Zw.Zq,.s e.Zw.Zv,.s e.Zw.Field,.I e.Zw.N,.s e.Op,.I e.Zx.Zq,.s e.Zx.Zv,.s e.Zx.Field,.I e.Zx.N] 75),(15,.own rS st.2.2.2.2.2.1 false)],((1,.sl Yp c.l')::YV 2 3 4 c.p' (Wk 6 7 d [(11,.sl Yp st.1),(12,.sl rS st.2.2.1),(13,.sl Xp st.2.2.2.1),(14,.sl Yo st.2.2.2.2.1)])),16⟩) (fun st=>Gz N d e st.1 st.2.1 st.2.2.1 st.2.2.2.1 st.2.2.2.2.1 st.2.2.2.2.2.1 st.2.2.2.2.2.2.1 st.2.2.2.2.2.2.2.1 st.2.2.2.2.2.2.2.2.1 st.2.2.2.2.2.2.2.2.2.1 st.2.2.2.2.2.2.2.2.2.2=some r) ?_ (fun j1=>?_))
 ·rintro ⟨f,g,i,j,k,l,m,o,p,q,u⟩ h
  unfold Gz at h
  refine wa J 5 (Z2 (σ:=(List ZU) × ByteArray × (List ByteArray) × (List Yi) × (List ZT) × (List ByteArray) × ByteArray × ByteArray × Int) (fun st=>⟨[(0,.B 0 0),(4,.B 8 0),(5,.B 9 0),(6,.I q)],[(0,.box [.sl 16,.s st.2.1,.sl 17,.sl 18,.sl 19,.sl 20,.s st.2.2.2.2.2.2.1,.s st.2.2.2.2.2.2.2.1,.I st.2.2.2.2.2.2.2.2] 117),(8,.box [.s d.Zt,.sl 6,.sl 7] 71),(9,.box [.I e.Zw.Zq,.s e.Zw.Zv,.s e.Zw.Field,.I e.Zw.N,.s e.Op,.I e.Zx.Zq,.s e.Zx.Zv,.s e.Zx.Field,.I e.Zx.N] 75),(20,.own rS st.2.2.2.2.2.1 false)],((1,.sl Yp c.l')::YV 2 3 4 c.p' (Wk 6 7 d [(16,.sl Yp st.1),(17,.sl rS st.2.2.1),(18,.sl Xp st.2.2.2.1),(19,.sl Yo st.2.2.2.2.1)])),21⟩) (fun st=>Pj N d e q st.1 st.2.1 st.2.2.1 st.2.2.2.1 st.2.2.2.2.1 st.2.2.2.2.2.1 st.2.2.2.2.2.2.1 st.2.2.2.2.2.2.2.1 st.2.2.2.2.2.2.2.2=some r) ?_ (fun j8=>?_))
  ·rintro ⟨v,x,y,z,A,C,D,G,H⟩ h
   unfold Pj at h
   refine ZQ J 5 h (fun h=>oi h▸wr J 23 func116 [(8,.sl 16),(9,.sl 17),(10,.sl 18),(11,.sl 19),(12,.sl 20)]) fun h=>?_
   refine wB J 3 h (fun h=>?_) fun h=>?_
   ·refine wO J 23 h fun R T h=>ZO (X7 N (⟨v,(⟨x,y,z,A⟩:ZU),C,(⟨D,G,H⟩:T6)⟩:ZZ) d.Zt 11 _ T) [] [(0,.bp 0 0),(1,.sl 16),(2,.sl 17),(3,.sl 18),(4,.sl 19),(5,.sl 20)] ?_
    exact oi h▸wr J 1 func116 [(8,.sl 21),(9,.sl 22),(10,.sl 23),(11,.sl 24),(12,.sl 25)]
   refine wB J 5 h (fun h=>?_) fun h=>?_
   ·refine wO J 18 h fun U X h=>ZO (X7 N (⟨v,(⟨x,y,z,A⟩:ZU),C,(⟨D,G,H⟩:T6)⟩:ZZ) d.Zt 11 _ X) [] [(0,.bp 0 0),(1,.sl 16),(2,.sl 17),(3,.sl 18),(4,.sl 19),(5,.sl 20)] ?_
    exact oi h▸wr J 1 func116 [(8,.sl 21),(9,.sl 22),(10,.sl 23),(11,.sl 24),(12,.sl 25)]
   refine wB J 6 h (fun h=>?_) fun h=>?_
   ·refine wO J 12 h fun Y Z h=>ZO (X7 N (⟨v,(⟨x,y,z,A⟩:ZU),C,(⟨D,G,H⟩:T6)⟩:ZZ) d.Zt 11 _ Z) [] [(0,.bp 0 0),(1,.sl 16),(2,.sl 17),(3,.sl 18),(4,.sl 19),(5,.sl 20)] ?_
    exact oi h▸wr J 1 func116 [(8,.sl 21),(9,.sl 22),(10,.sl 23),(11,.sl 24),(12,.sl 25)]
   refine ZQ J 7 h (fun h=>oi h▸wr J 2 func116 [(8,.sl 16),(9,.sl 17),(10,.sl 18),(11,.sl 19),(12,.sl 20)]) fun h=>?_
   refine wO J 5 h fun a0 b0 h=>ZO (X7 N (⟨v,(⟨x,y,z,A⟩:ZU),C,(⟨D,G,H⟩:T6)⟩:ZZ) d.Zt 11 _ b0) [] [(0,.bp 0 0),(1,.sl 16),(2,.sl 17),(3,.sl 18),(4,.sl 19),(5,.sl 20)] ?_
   exact oi h▸wr J 1 func116 [(8,.sl 21),(9,.sl 22),(10,.sl 23),(11,.sl 24),(12,.sl 25)]
  refine YZ h (fun h=>wa J 2 (ZK [(16,.sl 11),(17,.sl 12),(18,.sl 13),(19,.sl 14),(20,.sl 15)] (j8 (f,g,i,j,k,l,m,o,p) h))) fun h=>?_
  exact wO J 5 h fun c0 e0 h=>ZO (X7 N (⟨f,(⟨g,i,j,k⟩:ZU),l,(⟨m,o,p⟩:T6)⟩:ZZ) d.Zt 11 _ e0) [] [(0,.bp 0 0),(1,.sl 11),(2,.sl 12),(3,.sl 13),(4,.sl 14),(5,.sl 15)] (wa J 1 (ZK [] (j8 (c0.l',c0.p'.Zt,c0.p'.ZD,c0.p'.ZE,c0.p'.ZF,c0.calls',c0.first'.ZH,c0.first'.Zt,c0.first'.ZI) h)))
 refine wa J 1 (Yc (σ:=(List ZU) × ByteArray × (List ByteArray) × (List Yi) × (List ZT) × (List ByteArray) × ByteArray × ByteArray × Int × Int × Bool × Int) (fun st=>⟨[(0,.B 0 0),(4,.B 8 0),(5,.B 9 0),(6,.I st.2.2.2.2.2.2.2.2.2.1),(7,.O st.2.2.2.2.2.2.2.2.2.2.1),(8,.B 10 0),(9,.I st.2.2.2.2.2.2.2.2.2.2.2)],[(0,.box [.sl 11,.s st.2.1,.sl 12,.sl 13,.sl 14,.sl 15,.s st.2.2.2.2.2.2.1,.s st.2.2.2.2.2.2.2.1,.I st.2.2.2.2.2.2.2.2.1] 117),(8,.box [.s d.Zt,.sl 6,.sl 7] 71),(9,.box [.I e.Zw.Zq,.s e.Zw.Zv,.s e.Zw.Field,.I e.Zw.N,.s e.Op,.I e.Zx.Zq,.s e.Zx.Zv,.s e.Zx.Field,.I e.Zx.N] 75),(10,.box [.I e.Zw.Zq,.s e.Zw.Zv,.s e.Zw.Field,.I e.Zw.N,.I e.Zx.Zq,.s e.Zx.Zv,.s e.Zx.Field,.I e.Zx.N] 230),(15,.own rS st.2.2.2.2.2.1 false)],((1,.sl Yp c.l')::YV 2 3 4 c.p' (Wk 6 7 d [(11,.sl Yp st.1),(12,.sl rS st.2.2.1),(13,.sl Xp st.2.2.2.1),(14,.sl Yo st.2.2.2.2.1)])),16⟩) (fun n st=>UQ N d e n st.1 st.2.1 st.2.2.1 st.2.2.2.1 st.2.2.2.2.1 st.2.2.2.2.2.1 st.2.2.2.2.2.2.1 st.2.2.2.2.2.2.2.1 st.2.2.2.2.2.2.2.2.1 st.2.2.2.2.2.2.2.2.2.1 st.2.2.2.2.2.2.2.2.2.2.1 st.2.2.2.2.2.2.2.2.2.2.2) (r:=r) (fun _=>rfl) ?_ (fun ih=>?_))
 ·intro n2 ih9
  rintro ⟨g0,i0,j0,k0,l0,m0,o0,p0,q0,s0,t0,u0⟩ h
  unfold UQ at h
  refine ZQ J 6 h (fun h=>wa J 2 (ZK [] (j1 (g0,i0,j0,k0,l0,m0,o0,p0,q0,s0,t0) h))) fun h=>?_
  refine wa J 7 (Z2 (σ:=Int × ByteArray × ByteArray × Int) (fun st=>⟨[(0,.B 0 0),(4,.B 8 0),(5,.B 9 0),(6,.I s0),(7,.O t0),(8,.B 10 0),(9,.I u0),(10,.B 16 0)],[(0,.box [.sl 11,.s i0,.sl 12,.sl 13,.sl 14,.sl 15,.s o0,.s p0,.I q0] 117),(8,.box [.s d.Zt,.sl 6,.sl 7] 71),(9,.box [.I e.Zw.Zq,.s e.Zw.Zv,.s e.Zw.Field,.I e.Zw.N,.s e.Op,.I e.Zx.Zq,.s e.Zx.Zv,.s e.Zx.Field,.I e.Zx.N] 75),(10,.box [.I e.Zw.Zq,.s e.Zw.Zv,.s e.Zw.Field,.I e.Zw.N,.I e.Zx.Zq,.s e.Zx.Zv,.s e.Zx.Field,.I e.Zx.N] 230),(15,.own rS m0 false),(16,.box [.I st.1,.s st.2.1,.s st.2.2.1,.I st.2.2.2] 73)],((1,.sl Yp c.l')::YV 2 3 4 c.p' (Wk 6 7 d [(11,.sl Yp g0),(12,.sl rS j0),(13,.sl Xp k0),(14,.sl Yo l0)])),17⟩) (fun st=>Ly N d g0 i0 j0 k0 l0 m0 o0 p0 q0 s0 t0 u0 (UQ N d e n2) st.1 st.2.1 st.2.2.1 st.2.2.2=some r) ?_ (fun j13=>?_))
  ·rintro ⟨v0,x0,y0,z0⟩ h
   unfold Ly at h
   refine wB J 7 h (fun h=>wa J 7 (ZK [] (ih9 (g0,i0,j0,k0,l0,m0,o0,p0,q0,s0,t0,(ZM (u0+1))) h))) fun h=>?_
   refine wO J 10 h fun A0 B0 h=>ZO (ZrS N (⟨i0,j0,k0,l0⟩:ZU) d (⟨v0,x0,y0,z0⟩:Ys) _ B0) [] [(0,.sl 12),(1,.sl 13),(2,.sl 14),(3,.sl 6),(4,.sl 7)] (wa J 6 (Yr ?_))
   refine wB J 7 h (fun h=>?_) fun h=>?_
   ·exact wO J 5 h fun C0 D0 h=>ZO (X7 N (⟨g0,(⟨i0,j0,k0,l0⟩:ZU),m0,(⟨o0,p0,q0⟩:T6)⟩:ZZ) d.Zt 10 _ D0) [] [(0,.bp 0 0),(1,.sl 11),(2,.sl 12),(3,.sl 13),(4,.sl 14),(5,.sl 15)] (wa J 8 (ZK [(11,.sl 18),(12,.sl 19),(13,.sl 20),(14,.sl 21),(15,.sl 22)] (ih9 (C0.l',C0.p'.Zt,C0.p'.ZD,C0.p'.ZE,C0.p'.ZF,C0.calls',C0.first'.ZH,C0.first'.Zt,C0.first'.ZI,s0,t0,(ZM (u0+1))) h)))
   refine wa J 7 (Z2 (σ:=Bool) (fun st=>⟨[(0,.B 0 0),(4,.B 8 0),(5,.B 9 0),(6,.I s0),(7,.O t0),(8,.B 10 0),(9,.I u0),(10,.B 16 0),(11,.B 17 0),(45,.O st)],[(0,.box [.sl 11,.s i0,.sl 12,.sl 13,.sl 14,.sl 15,.s o0,.s p0,.I q0] 117),(8,.box [.s d.Zt,.sl 6,.sl 7] 71),(9,.box [.I e.Zw.Zq,.s e.Zw.Zv,.s e.Zw.Field,.I e.Zw.N,.s e.Op,.I e.Zx.Zq,.s e.Zx.Zv,.s e.Zx.Field,.I e.Zx.N] 75),(10,.box [.I e.Zw.Zq,.s e.Zw.Zv,.s e.Zw.Field,.I e.Zw.N,.I e.Zx.Zq,.s e.Zx.Zv,.s e.Zx.Field,.I e.Zx.N] 230),(15,.own rS m0 false),(16,.box [.I v0,.s x0,.s y0,.I z0] 73),(17,.box (Wz A0.1) 128)],((1,.sl Yp c.l')::YV 2 3 4 c.p' (Wk 6 7 d [(11,.sl Yp g0),(12,.sl rS j0),(13,.sl Xp k0),(14,.sl Yo l0)])),18⟩) (fun st=>GA g0 i0 j0 k0 l0 m0 o0 p0 q0 s0 t0 u0 (UQ N d e n2) v0 A0 st=some r) ?_ (fun j14=>?_))
   ·intro G0 h
    unfold GA at h
    refine eB h (fun h=>wa J 11 (ZK [] (ih9 (g0,i0,j0,k0,l0,m0,o0,p0,q0,s0,true,(ZM (u0+1))) h))) fun h=>?_
    refine ZQ J 7 h (fun h=>wa J 16 (ZK [] (ih9 (g0,i0,j0,k0,l0,m0,o0,p0,q0,s0,t0,(ZM (u0+1))) h))) fun h=>?_
    exact wB J 7 h (fun h=>wa J 13 (ZK [] (ih9 (g0,i0,j0,k0,l0,m0,o0,p0,q0,(ZM (s0+1)),t0,(ZM (u0+1))) h))) fun h=>wa J 9 (ZK [] (ih9 (g0,i0,j0,k0,l0,m0,o0,p0,q0,s0,t0,(ZM (u0+1))) h))
   exact eB h (fun h=>wa J 7 (ZK [] (j14 (A0.1.Zu.Zq != 2) h))) fun h=>wa J 7 (ZK [] (j14 false h))
  obtain ⟨K,h⟩|⟨K,h⟩:=oc h
  ·exact UB 0 (by exact eq_of_beq K) (wa J 4 (ZK [] (j13 (e.Zw.Zq,e.Zw.Zv,e.Zw.Field,e.Zw.N) h)))
  obtain ⟨K,h⟩|⟨K,h⟩:=oc h
  ·exact UB 1 (by exact eq_of_beq K) (wa J 4 (ZK [] (j13 (e.Zx.Zq,e.Zx.Zv,e.Zx.Field,e.Zx.N) h)))
  cases h
 exact ZK [(11,.sl 1),(12,.sl 2),(13,.sl 3),(14,.sl 4),(15,.sl 5)] (ih N (c.l',c.p'.Zt,c.p'.ZD,c.p'.ZE,c.p'.ZF,c.calls',c.first'.ZH,c.first'.Zt,c.first'.ZI,0,false,0) h)
theorem ZsU (N:Nat) (c:ZZ) (r:ZZ) (h:DF N c=some r) :
 Fn Tryz.prog 50 ⟨6,[.B 0 0],((1,.sl Yp c.l')::YV 2 3 4 c.p' []),[(0,.box (Wr 1 2 3 4 5 c) 117),(5,.own rS c.calls' false)],11,.t [],((6,.sl Yp r.l')::YV 7 8 9 r.p' []),[(5,.gone),(10,.own rS r.calls' false),(0,.box (Wr 6 7 8 9 10 r) 117)]⟩:=by
 refine Z5 func50 rfl (fun E F w=>?_)
 unfold DF at h
 refine wa J 9 (Z2 (σ:=(List ZU) × ByteArray × (List ByteArray) × (List Yi) × (List ZT) × (List ByteArray) × ByteArray × ByteArray × Int) (fun st=>⟨[(0,.B 0 0)],[(0,.box [.sl 6,.s st.2.1,.sl 7,.sl 8,.sl 9,.sl 10,.s st.2.2.2.2.2.2.1,.s st.2.2.2.2.2.2.2.1,.I st.2.2.2.2.2.2.2.2] 117),(10,.own rS st.2.2.2.2.2.1 false)],((1,.sl Yp c.l')::YV 2 3 4 c.p' [(6,.sl Yp st.1),(7,.sl rS st.2.2.1),(8,.sl Xp st.2.2.2.1),(9,.sl Yo st.2.2.2.2.1)]),11⟩) (fun st=>P8 N st.1 st.2.1 st.2.2.1 st.2.2.2.1 st.2.2.2.2.1 st.2.2.2.2.2.1 st.2.2.2.2.2.2.1 st.2.2.2.2.2.2.2.1 st.2.2.2.2.2.2.2.2=some r) ?_ (fun j1=>?_))
 ·rintro ⟨d,e,f,g,i,j,k,l,m⟩ h
  unfold P8 at h
  refine wa J 4 (Z2 (σ:=(List ZU) × ByteArray × (List ByteArray) × (List Yi) × (List ZT) × (List ByteArray) × ByteArray × ByteArray × Int) (fun st=>(Zlm st.2.1 st.2.2.2.2.2.2.1 st.2.2.2.2.2.2.2.1 st.2.2.2.2.2.2.2.2 st.2.2.2.2.2.1 c.l' c.p' st.1 st.2.2.1 st.2.2.2.1 st.2.2.2.2.1 [])) (fun st=>DG st.1 st.2.1 st.2.2.1 st.2.2.2.1 st.2.2.2.2.1 st.2.2.2.2.2.1 st.2.2.2.2.2.2.1 st.2.2.2.2.2.2.2.1 st.2.2.2.2.2.2.2.2=some r) ?_ (fun j3=>?_))
  ·rintro ⟨o,p,q,u,v,x,y,z,A⟩ h
   unfold DG at h
   cases h
   exact Y7 J func50 [(6,.sl 11),(7,.sl 12),(8,.sl 13),(9,.sl 14),(10,.sl 15)]
  refine wa J 1 (Yc (σ:=(List ZU) × ByteArray × (List ByteArray) × (List Yi) × (List ZT) × (List ByteArray) × ByteArray × ByteArray × Int × Int) (fun st=>(Zlm st.2.1 st.2.2.2.2.2.2.1 st.2.2.2.2.2.2.2.1 st.2.2.2.2.2.2.2.2.1 st.2.2.2.2.2.1 c.l' c.p' st.1 st.2.2.1 st.2.2.2.1 st.2.2.2.2.1 [(0,.B 0 0),(5,.I st.2.2.2.2.2.2.2.2.2)])) (fun n st=>TB N n st.1 st.2.1 st.2.2.1 st.2.2.2.1 st.2.2.2.2.1 st.2.2.2.2.2.1 st.2.2.2.2.2.2.1 st.2.2.2.2.2.2.2.1 st.2.2.2.2.2.2.2.2.1 st.2.2.2.2.2.2.2.2.2) (r:=r) (fun _=>rfl) ?_ (fun ih=>?_))
  ·intro n13 ih14
   rintro ⟨C,D,G,H,R,T,U,X,Y,Z⟩ h
   unfold TB at h
   refine ZQ J 12 h (fun h=>wa J 2 (ZK [] (j3 (C,D,G,H,R,T,U,X,Y) h))) fun h=>?_
   refine wO J 12 h fun a0 b0 h=>Yb J SL b0 (wa J 8 (Z2 (σ:=(List ZU) × ByteArray × (List ByteArray) × (List Yi) × (List ZT) × (List ByteArray) × ByteArray × ByteArray × Int) (fun st=>⟨[(0,.B 0 0),(5,.I Z)],[(0,.box [.sl 20,.s st.2.1,.sl 21,.sl 22,.sl 23,.sl 24,.s st.2.2.2.2.2.2.1,.s st.2.2.2.2.2.2.2.1,.I st.2.2.2.2.2.2.2.2] 117),(24,.own rS st.2.2.2.2.2.1 false)],((1,.sl Yp c.l')::YV 2 3 4 c.p' [(20,.sl Yp st.1),(21,.sl rS st.2.2.1),(22,.sl Xp st.2.2.2.1),(23,.sl Yo st.2.2.2.2.1)]),25⟩) (fun st=>DH Z (TB N n13) st.1 st.2.1 st.2.2.1 st.2.2.2.1 st.2.2.2.2.1 st.2.2.2.2.2.1 st.2.2.2.2.2.2.1 st.2.2.2.2.2.2.2.1 st.2.2.2.2.2.2.2.2=some r) ?_ (fun j21=>?_)))
   ·rintro ⟨c0,e0,g0,i0,j0,k0,l0,m0,o0⟩ h
    unfold DH at h
    exact wa J 6 (ZK [(11,.sl 20),(12,.sl 21),(13,.sl 22),(14,.sl 23),(15,.sl 24)] (ih14 (c0,e0,g0,i0,j0,k0,l0,m0,o0,(ZM (Z+1))) h))
   refine wa J 1 (Yc (σ:=(List ZU) × ByteArray × (List ByteArray) × (List Yi) × (List ZT) × (List ByteArray) × ByteArray × ByteArray × Int × Int) (fun st=>⟨[(0,.B 0 0),(5,.I Z),(6,.B 19 0),(7,.I st.2.2.2.2.2.2.2.2.2)],[(0,.box [.sl 20,.s st.2.1,.sl 21,.sl 22,.sl 23,.sl 24,.s st.2.2.2.2.2.2.1,.s st.2.2.2.2.2.2.2.1,.I st.2.2.2.2.2.2.2.2.1] 117),(19,.box [.s a0.Zt,.sl 17,.sl 18] 71),(24,.own rS st.2.2.2.2.2.1 false)],((1,.sl Yp c.l')::YV 2 3 4 c.p' (Wk 17 18 a0 [(20,.sl Yp st.1),(21,.sl rS st.2.2.1),(22,.sl Xp st.2.2.2.1),(23,.sl Yo st.2.2.2.2.1)])),25⟩) (fun n st=>P9 N Z (TB N n13) a0 n st.1 st.2.1 st.2.2.1 st.2.2.2.1 st.2.2.2.2.1 st.2.2.2.2.2.1 st.2.2.2.2.2.2.1 st.2.2.2.2.2.2.2.1 st.2.2.2.2.2.2.2.2.1 st.2.2.2.2.2.2.2.2.2) (r:=r) (fun _=>rfl) ?_ (fun ih=>?_))
   ·intro n15 ih23
    rintro ⟨p0,q0,s0,t0,u0,v0,x0,y0,z0,A0⟩ h
    unfold P9 at h
    refine ZQ J 9 h (fun h=>wa J 2 (ZK [] (j21 (p0,q0,s0,t0,u0,v0,x0,y0,z0) h))) fun h=>?_
    refine wO J 10 h fun B0 C0 h=>Yb J MY C0 ?_
    exact wO J 1 h fun D0 G0 h=>ZO (Zrg N (⟨p0,(⟨q0,s0,t0,u0⟩:ZU),v0,(⟨x0,y0,z0⟩:T6)⟩:ZZ) a0 B0 _ G0) [] [(0,.bp 0 0),(1,.sl 20),(2,.sl 21),(3,.sl 22),(4,.sl 23),(5,.sl 24),(6,.sl 17),(7,.sl 18)] (Yr (wa J 6 (ZK [(20,.sl 26),(21,.sl 27),(22,.sl 28),(23,.sl 29),(24,.sl 30)] (ih23 (D0.l',D0.p'.Zt,D0.p'.ZD,D0.p'.ZE,D0.p'.ZF,D0.calls',D0.first'.ZH,D0.first'.Zt,D0.first'.ZI,(ZM (A0+1))) h))))
   exact ZK [(20,.sl 11),(21,.sl 12),(22,.sl 13),(23,.sl 14),(24,.sl 15)] (ih N (C,D,G,H,R,T,U,X,Y,0) h)
  exact ZK [(11,.sl 6),(12,.sl 7),(13,.sl 8),(14,.sl 9),(15,.sl 10)] (ih N (d,e,f,g,i,j,k,l,m,0) h)
 refine wa J 1 (Yc (σ:=(List ZU) × ByteArray × (List ByteArray) × (List Yi) × (List ZT) × (List ByteArray) × ByteArray × ByteArray × Int × (List ByteArray) × Int) (fun st=>⟨[(0,.B 0 0),(2,.S 11),(3,.I st.2.2.2.2.2.2.2.2.2.2)],[(0,.box [.sl 6,.s st.2.1,.sl 7,.sl 8,.sl 9,.sl 10,.s st.2.2.2.2.2.2.1,.s st.2.2.2.2.2.2.2.1,.I st.2.2.2.2.2.2.2.2.1] 117),(10,.own rS st.2.2.2.2.2.1 false),(11,.own rS st.2.2.2.2.2.2.2.2.2.1 true)],((1,.sl Yp c.l')::YV 2 3 4 c.p' [(6,.sl Yp st.1),(7,.sl rS st.2.2.1),(8,.sl Xp st.2.2.2.1),(9,.sl Yo st.2.2.2.2.1)]),12⟩) (fun n st=>Qu N n st.1 st.2.1 st.2.2.1 st.2.2.2.1 st.2.2.2.2.1 st.2.2.2.2.2.1 st.2.2.2.2.2.2.1 st.2.2.2.2.2.2.2.1 st.2.2.2.2.2.2.2.2.1 st.2.2.2.2.2.2.2.2.2.1 st.2.2.2.2.2.2.2.2.2.2) (r:=r) (fun _=>rfl) ?_ (fun ih=>?_))
 ·intro n16 ih24
  rintro ⟨H0,I0,L0,M0,O0,R0,S0,U0,V0,X0,Y0⟩ h
  unfold Qu at h
  refine ZQ J 12 h (fun h=>wa J 2 (ZK [] (j1 (H0,I0,L0,M0,O0,R0,S0,U0,V0) h))) fun h=>?_
  refine wO J 12 h fun Z0 a1 h=>Yb J SL a1 ?_
  refine wO J 10 h fun b1 c1 h=>Wo (Rp N X0 Z0.Zt _ c1) [] [(0,.sl 11)] [11] (.inr ⟨rfl,trivial⟩) ?_
  refine ZQ J 2 h (fun h=>wa J 7 (YB J [] oS ([Z0.Zt]:List ByteArray) ?_)) fun h=>?_
  ·have ⟨e1,g1,h⟩:=ob h
   refine YK J rS g1 ?_
   exact wO J 5 h fun i1 k1 h=>ZO (Zkr N (⟨H0,(⟨I0,L0,M0,O0⟩:ZU),R0,(⟨S0,U0,V0⟩:T6)⟩:ZZ) Z0 _ k1) [] [(0,.bp 0 0),(1,.sl 6),(2,.sl 7),(3,.sl 8),(4,.sl 9),(5,.sl 10),(6,.sl 13),(7,.sl 14)] (wa J 7 (ZK [(6,.sl 18),(7,.sl 19),(8,.sl 20),(9,.sl 21),(10,.sl 22),(11,.sl 17)] (ih24 (i1.l',i1.p'.Zt,i1.p'.ZD,i1.p'.ZE,i1.p'.ZF,i1.calls',i1.first'.ZH,i1.first'.Zt,i1.first'.ZI,e1,(ZM (Y0+1))) h)))
  refine wO J 5 h fun l1 m1 h=>ZO (X7 N (⟨H0,(⟨I0,L0,M0,O0⟩:ZU),R0,(⟨S0,U0,V0⟩:T6)⟩:ZZ) Z0.Zt 9 _ m1) [] [(0,.bp 0 0),(1,.sl 6),(2,.sl 7),(3,.sl 8),(4,.sl 9),(5,.sl 10)] (wa J 6 (YB J [] oS ([Z0.Zt]:List ByteArray) ?_))
  have ⟨o1,p1,h⟩:=ob h
  refine YK J rS p1 ?_
  exact wO J 5 h fun q1 s1 h=>ZO (Zkr N l1 Z0 _ s1) [] [(0,.bp 0 0),(1,.sl 16),(2,.sl 17),(3,.sl 18),(4,.sl 19),(5,.sl 20),(6,.sl 13),(7,.sl 14)] (wa J 7 (ZK [(6,.sl 23),(7,.sl 24),(8,.sl 25),(9,.sl 26),(10,.sl 27),(11,.sl 22)] (ih24 (q1.l',q1.p'.Zt,q1.p'.ZD,q1.p'.ZE,q1.p'.ZF,q1.calls',q1.first'.ZH,q1.first'.Zt,q1.first'.ZI,o1,(ZM (Y0+1))) h)))
 exact ZK [(6,.sl 1),(7,.sl 2),(8,.sl 3),(9,.sl 4),(10,.sl 5),(11,.nil)] (ih N (c.l',c.p'.Zt,c.p'.ZD,c.p'.ZE,c.p'.ZF,c.calls',c.first'.ZH,c.first'.Zt,c.first'.ZI,([]:List ByteArray),0) h)
theorem Zrj (N:Nat) (rc:(List ZT)->Option (List ByteArray)) (rcT:(∀ (c:(List ZT)) (r:(List ByteArray)),rc c=some r->Fn Tryz.prog 121 ⟨1,[.S 0],[(0,.sl Yo c)],[],2,.S 1,[],[(1,.own rS r true)]⟩)) (c:(List ZT)) (r:(List ByteArray)) (h:GD N rc c=some r) :
 Fn Tryz.prog 121 ⟨1,[.S 0],[(0,.sl Yo c)],[],2,.S 1,[],[(1,.own rS r true)]⟩:=by
 refine Z5 func121 rfl (fun E F w=>?_)
 unfold GD at h
 refine wa J 13 (Z2 (σ:=(List ByteArray)) (fun st=>⟨[(3,.S 1)],[(1,.own rS st true)],[(0,.sl Yo c)],2⟩) (fun st=>ZaZ st=some r) ?_ (fun j1=>?_))
 ·intro d h
  unfold ZaZ at h
  exact oi h▸wr J 5 func121 [(1,.sl 1)]
 refine wa J 1 (Yc (σ:=(List ByteArray) × Int) (fun st=>⟨[(0,.S 0),(3,.S 1),(4,.I st.2)],[(1,.own rS st.1 true)],[(0,.sl Yo c)],2⟩) (fun n st=>Tr N rc c n st.1 st.2) (r:=r) (fun _=>rfl) ?_ (fun ih=>?_))
 ·intro n12 ih15
  rintro ⟨e,f⟩ h
  unfold Tr at h
  refine ZQ J 8 h (fun h=>wa J 2 (ZK [] (j1 e h))) fun h=>?_
  refine wO J 9 h fun g i h=>Yb J VT i (wa J 4 (Z2 (σ:=(List ByteArray)) (fun st=>⟨[(0,.S 0),(3,.S 5),(4,.I f)],[(5,.own rS st true)],[(0,.sl Yo c)],6⟩) (fun st=>LB N rc c f (Tr N rc c n12) st=some r) ?_ (fun j24=>?_)))
  ·intro j h
   unfold LB at h
   refine wa J 4 (Z2 (σ:=(List ByteArray)) (fun st=>⟨[(0,.S 0),(3,.S 6),(4,.I f)],[(6,.own rS st true)],[(0,.sl Yo c)],7⟩) (fun st=>Za0 f (Tr N rc c n12) st=some r) ?_ (fun j25=>?_))
   ·intro k h
    unfold Za0 at h
    exact wa J 6 (ZK [(1,.sl 6)] (ih15 (k,(ZM (f+1))) h))
   refine wa J 1 (Yc (σ:=(List ByteArray) × Int) (fun st=>⟨[(0,.S 0),(3,.S 6),(4,.I f),(5,.I st.2)],[(6,.own rS st.1 true)],[(0,.sl Yo c)],7⟩) (fun n st=>Po rc c f (Tr N rc c n12) n st.1 st.2) (r:=r) (fun _=>rfl) ?_ (fun ih=>?_))
   ·intro n14 ih27
    rintro ⟨l,m⟩ h
    unfold Po at h
    refine wO J 6 h fun o p h=>Yb J VT p ?_
    refine ZQ J 5 h (fun h=>wa J 2 (ZK [] (j25 l h))) fun h=>?_
    refine wO J 8 h fun q s h=>Yb J VT s ?_
    refine wO J 3 h fun t u h=>Yb J (YQ Yo) u ?_
    refine wO J 1 h fun v x h=>ZO (rcT t _ x) [] [(0,.sl 14)] ?_
    have ⟨y,z,h⟩:=ob h
    exact YK J rS z (wa J 8 (ZK [(6,.sl 16)] (ih27 (y,(ZM (m+1))) h)))
   exact ZK [(6,.sl 5)] (ih N (j,0) h)
  refine YZ h (fun h=>wa J 2 (ZK [(5,.sl 1)] (j24 e h))) fun h=>?_
  refine wO J 5 h fun A C h=>Yb J VT C (wa J 2 (YB J [] oS ([A.Zt]:List ByteArray) ?_))
  have ⟨D,G,h⟩:=ob h
  exact YK J rS G (wa J 2 (ZK [(5,.sl 9)] (j24 D h)))
 exact ZK [(1,.nil)] (ih N (([]:List ByteArray),0) h)
theorem Zrl:∀ (N:Nat) (c:(List ZT)) (r:(List ByteArray)) (h:S5 N c=some r),Fn Tryz.prog 121 ⟨1,[.S 0],[(0,.sl Yo c)],[],2,.S 1,[],[(1,.own rS r true)]⟩:=by
 intro N
 induction N with
 | zero=>intros;rename_i h;cases h
 | succ N ih=>intro c r h;exact Zrj N (S5 N) ih c r h
theorem Zrk (N:Nat) (c:(List ZT)) (r:(List ByteArray)) (h:ZaY N c=some r):Fn Tryz.prog 121 ⟨1,[.S 0],[(0,.sl Yo c)],[],2,.S 1,[],[(1,.own rS r true)]⟩:=Zrl N c r h
theorem ZsY (N:Nat) (rc:(List ZU)->ByteArray->Int->Option Bool) (rcT:(∀ (d:(List ZU)) (e:ByteArray) (f:Int) (r:Bool),rc d e f=some r->Fn Tryz.prog 52 ⟨1,[.S 0,.c (.s e),.I f],[(0,.sl Yp d)],[],1,.O r,[],[]⟩)) (d:(List ZU)) (e:ByteArray) (f:Int) (r:Bool) (h:Mb N rc d e f=some r) :
 Fn Tryz.prog 52 ⟨1,[.S 0,.c (.s e),.I f],[(0,.sl Yp d)],[],1,.O r,[],[]⟩:=by
 refine Z5 func52 rfl (fun E F w=>?_)
 unfold Mb at h
 refine wO J 8 h fun g i h=>ZO (Zkt N d e _ i) [] [(0,.sl 0)] ?_
 refine wB J 13 h (fun h=>oi h▸wr J 5 func52 []) fun h=>?_
 refine wO J 6 h fun j k h=>ZO (Zrk N g.1.ZF _ k) [] [(0,.sl 3)] (wa J 7 (Z2 (σ:=Unit) (fun st=>⟨[],[],[(0,.sl Yp d)],6⟩) (fun st=>Zcv=some r) ?_ (fun j1=>?_)))
 ·intro _ h
  unfold Zcv at h
  exact oi h▸wr J 4 func52 []
 refine wa J 1 (Yc (σ:=Int) (fun st=>⟨[(0,.S 0),(2,.I f),(9,.S 5),(10,.I st)],[(5,.own rS j true)],[(0,.sl Yp d)],6⟩) (fun n st=>Qv rc d f j n st) (r:=r) (fun _=>rfl) ?_ (fun ih=>?_))
 ·intro n2 ih3
  intro l h
  unfold Qv at h
  refine ZQ J 8 h (fun h=>wa J 2 (ZK [] (j1 () h))) fun h=>?_
  refine wB J 9 h (fun h=>oi h▸wr J 15 func52 []) fun h=>?_
  refine wO J 3 h fun m o h=>Vm J rS o (MI J oS o ?_)
  refine wO J 2 h fun p q h=>ZO (rcT d m (ZM (f-1)) _ q) [] [(0,.sl 0)] ?_
  exact wB J 2 h (fun h=>oi h▸wr J 5 func52 []) fun h=>wa J 8 (ZK [] (ih3 (ZM (l+1)) h))
 exact ZK [] (ih N 0 h)
theorem Zs0:∀ (N:Nat) (d:(List ZU)) (e:ByteArray) (f:Int) (r:Bool) (h:Qw N d e f=some r),Fn Tryz.prog 52 ⟨1,[.S 0,.c (.s e),.I f],[(0,.sl Yp d)],[],1,.O r,[],[]⟩:=by
 intro N
 induction N with
 | zero=>intros;rename_i h;cases h
 | succ N ih=>intro d e f r h;exact ZsY N (Qw N) ih d e f r h
theorem ZsZ (N:Nat) (d:(List ZU)) (e:ByteArray) (f:Int) (r:Bool) (h:z52 N d e f=some r):Fn Tryz.prog 52 ⟨1,[.S 0,.c (.s e),.I f],[(0,.sl Yp d)],[],1,.O r,[],[]⟩:=Zs0 N d e f r h
theorem Zsk (N:Nat) (c:(List ZU)) (r:T6) (h:L4 N c=some r) :
 Fn Tryz.prog 21 ⟨1,[.S 0],[(0,.sl Yp c)],[],1,.a (cC6 r),[],[]⟩:=by
 refine Z5 func21 rfl (fun E F w=>?_)
 unfold L4 at h
 refine wO J 8 h fun d e h=>ZO (ZsT N c _ e) [] [(0,.sl 0)] ?_
 refine wB J 2 h (fun h=>oi h▸wr J 6 func21 []) fun h=>wa J 7 (Z2 (σ:=Unit) (fun st=>⟨[(2,.B 1 0)],[(1,.box [.s (str []),.s (str []),.I 0] 79)],[(0,.sl Yp c)],2⟩) (fun st=>Zfz=some r) ?_ (fun j1=>?_))
 ·intro _ h
  unfold Zfz at h
  exact oi h▸wr J 5 func21 []
 refine wa J 1 (Yc (σ:=Int) (fun st=>⟨[(0,.S 0),(2,.B 1 0),(3,.I st)],[(1,.box [.s (str []),.s (str []),.I 0] 79)],[(0,.sl Yp c)],2⟩) (fun n st=>Vz N c n st) (r:=r) (fun _=>rfl) ?_ (fun ih=>?_))
 ·intro n22 ih24
  intro f h
  unfold Vz at h
  refine ZQ J 8 h (fun h=>wa J 2 (ZK [] (j1 () h))) fun h=>?_
  refine wO J 9 h fun g i h=>Yb J Wv i (wa J 10 (Z2 (σ:=(List ZU) × ByteArray × (List ByteArray) × (List Yi) × (List ZT) × (List ByteArray) × ByteArray × ByteArray × Int) (fun st=>(Zln st.2.1 st.2.2.2.2.2.2.1 st.2.2.2.2.2.2.2.1 st.2.2.2.2.2.2.2.2 st.2.2.2.2.2.1 c st.1 st.2.2.1 st.2.2.2.1 st.2.2.2.2.1 [(0,.S 0),(2,.B 1 0),(3,.I f),(4,.B 6 0)])) (fun st=>L6 N c f (Vz N c n22) st.1 st.2.1 st.2.2.1 st.2.2.2.1 st.2.2.2.2.1 st.2.2.2.2.2.1 st.2.2.2.2.2.2.1 st.2.2.2.2.2.2.2.1 st.2.2.2.2.2.2.2.2=some r) ?_ (fun j39=>?_)))
  ·rintro ⟨j,k,l,m,o,p,q,t,u⟩ h
   unfold L6 at h
   refine wa J 5 (Z2 (σ:=(List ZU) × ByteArray × (List ByteArray) × (List Yi) × (List ZT) × (List ByteArray) × ByteArray × ByteArray × Int) (fun st=>(Zlo st.2.1 st.2.2.2.2.2.2.1 st.2.2.2.2.2.2.2.1 st.2.2.2.2.2.2.2.2 st.2.2.2.2.2.1 c st.1 st.2.2.1 st.2.2.2.1 st.2.2.2.2.1 [(0,.S 0),(2,.B 1 0),(3,.I f),(4,.B 6 0)])) (fun st=>L5 N c f (Vz N c n22) st.1 st.2.1 st.2.2.1 st.2.2.2.1 st.2.2.2.2.1 st.2.2.2.2.2.1 st.2.2.2.2.2.2.1 st.2.2.2.2.2.2.2.1 st.2.2.2.2.2.2.2.2=some r) ?_ (fun j41=>?_))
   ·rintro ⟨v,x,y,z,A,C,D,G,H⟩ h
    unfold L5 at h
    refine wO J 3 h fun R T h=>ZO (ZsU N (⟨v,(⟨x,y,z,A⟩:ZU),C,(⟨D,G,H⟩:T6)⟩:ZZ) _ T) [] [(0,.bp 6 0),(1,.sl 12),(2,.sl 13),(3,.sl 14),(4,.sl 15),(5,.sl 16)] ?_
    refine wO J 9 h fun U X h=>ZO (ZsW N R R.p'.ZF ([]:List ByteArray) 0 0 _ X) [] [(0,.bp 6 0),(1,.sl 17),(2,.sl 18),(3,.sl 19),(4,.sl 20),(5,.sl 21),(6,.sl 20),(7,.nil)] ?_
    refine wO J 10 h fun Y Z h=>ZO (ZsZ N c U.p'.Zt 4 _ Z) [] [(0,.sl 0)] (wa J 1 (Z2 (σ:=(List ZU) × ByteArray × (List ByteArray) × (List Yi) × (List ZT) × (List ByteArray) × ByteArray × ByteArray × Int) (fun st=>⟨[(0,.S 0),(2,.B 1 0),(3,.I f),(4,.B 6 0)],[(1,.box [.s (str []),.s (str []),.I 0] 79),(6,.box [.sl 27,.s st.2.1,.sl 28,.sl 29,.sl 30,.sl 31,.s st.2.2.2.2.2.2.1,.s st.2.2.2.2.2.2.2.1,.I st.2.2.2.2.2.2.2.2] 117),(31,.own rS st.2.2.2.2.2.1 true)],[(0,.sl Yp c),(27,.sl Yp st.1),(28,.sl rS st.2.2.1),(29,.sl Xp st.2.2.2.1),(30,.sl Yo st.2.2.2.2.1)],32⟩) (fun st=>G9 f (Vz N c n22) st.1 st.2.1 st.2.2.1 st.2.2.2.1 st.2.2.2.2.1 st.2.2.2.2.2.1 st.2.2.2.2.2.2.1 st.2.2.2.2.2.2.2.1 st.2.2.2.2.2.2.2.2=some r) ?_ (fun j43=>?_)))
    ·rintro ⟨a0,b0,c0,e0,g0,i0,j0,k0,l0⟩ h
     unfold G9 at h
     exact wB J 9 h (fun h=>oi h▸wr J 9 func21 []) fun h=>wa J 8 (ZK [] (ih24 (ZM (f+1)) h))
    refine YZ h (fun h=>wa J 2 (ZK [(27,.sl 22),(28,.sl 23),(29,.sl 24),(30,.sl 25),(31,.sl 26)] (j43 (U.l',U.p'.Zt,U.p'.ZD,U.p'.ZE,U.p'.ZF,U.calls',U.first'.ZH,U.first'.Zt,U.first'.ZI) h))) fun h=>?_
    exact wO J 8 h fun m0 o0 h=>ZO (X7 N U U.p'.Zt 6 _ o0) [] [(0,.bp 6 0),(1,.sl 22),(2,.sl 23),(3,.sl 24),(4,.sl 25),(5,.sl 26)] (wa J 1 (ZK [] (j43 (m0.l',m0.p'.Zt,m0.p'.ZD,m0.p'.ZE,m0.p'.ZF,m0.calls',m0.first'.ZH,m0.first'.Zt,m0.first'.ZI) h)))
   refine wa J 1 (Yc (σ:=(List ZU) × ByteArray × (List ByteArray) × (List Yi) × (List ZT) × (List ByteArray) × ByteArray × ByteArray × Int × Int) (fun st=>(Zlo st.2.1 st.2.2.2.2.2.2.1 st.2.2.2.2.2.2.2.1 st.2.2.2.2.2.2.2.2.1 st.2.2.2.2.2.1 c st.1 st.2.2.1 st.2.2.2.1 st.2.2.2.2.1 [(0,.S 0),(2,.B 1 0),(3,.I f),(4,.B 6 0),(6,.I st.2.2.2.2.2.2.2.2.2)])) (fun n st=>Qo N c f (Vz N c n22) n st.1 st.2.1 st.2.2.1 st.2.2.2.1 st.2.2.2.2.1 st.2.2.2.2.2.1 st.2.2.2.2.2.2.1 st.2.2.2.2.2.2.2.1 st.2.2.2.2.2.2.2.2.1 st.2.2.2.2.2.2.2.2.2) (r:=r) (fun _=>rfl) ?_ (fun ih=>?_))
   ·intro n25 ih44
    rintro ⟨p0,q0,s0,t0,u0,v0,x0,y0,z0,A0⟩ h
    unfold Qo at h
    refine ZQ J 12 h (fun h=>wa J 2 (ZK [] (j41 (p0,q0,s0,t0,u0,v0,x0,y0,z0) h))) fun h=>?_
    refine wO J 12 h fun B0 C0 h=>QU J rS C0 ?_
    refine wO J 6 h fun D0 G0 h=>Yb J oS G0 ?_
    refine wO J 1 h fun H0 I0 h=>ZO (Rp N B0 D0 _ I0) [] [(0,.sl 17)] (wa J 1 (Yr ?_))
    refine YZ h (fun h=>wa J 8 (ZK [] (ih44 (p0,q0,s0,t0,u0,v0,x0,y0,z0,(ZM (A0+1))) h))) fun h=>?_
    refine wO J 9 h fun L0 M0 h=>Yb J oS M0 ?_
    exact wO J 1 h fun O0 R0 h=>ZO (X7 N (⟨p0,(⟨q0,s0,t0,u0⟩:ZU),v0,(⟨x0,y0,z0⟩:T6)⟩:ZZ) L0 9 _ R0) [] [(0,.bp 6 0),(1,.sl 12),(2,.sl 13),(3,.sl 14),(4,.sl 15),(5,.sl 16)] (wa J 7 (ZK [(12,.sl 20),(13,.sl 21),(14,.sl 22),(15,.sl 23),(16,.sl 24)] (ih44 (O0.l',O0.p'.Zt,O0.p'.ZD,O0.p'.ZE,O0.p'.ZF,O0.calls',O0.first'.ZH,O0.first'.Zt,O0.first'.ZI,(ZM (A0+1))) h)))
   exact ZK [(12,.sl 7),(13,.sl 8),(14,.sl 9),(15,.sl 10),(16,.sl 11)] (ih N (j,k,l,m,o,p,q,t,u,0) h)
  refine wa J 1 (Yc (σ:=(List ZU) × ByteArray × (List ByteArray) × (List Yi) × (List ZT) × (List ByteArray) × ByteArray × ByteArray × Int × Int) (fun st=>(Zln st.2.1 st.2.2.2.2.2.2.1 st.2.2.2.2.2.2.2.1 st.2.2.2.2.2.2.2.2.1 st.2.2.2.2.2.1 c st.1 st.2.2.1 st.2.2.2.1 st.2.2.2.2.1 [(0,.S 0),(2,.B 1 0),(3,.I f),(4,.B 6 0),(5,.I st.2.2.2.2.2.2.2.2.2)])) (fun n st=>Rg N c f (Vz N c n22) n st.1 st.2.1 st.2.2.1 st.2.2.2.1 st.2.2.2.2.1 st.2.2.2.2.2.1 st.2.2.2.2.2.2.1 st.2.2.2.2.2.2.2.1 st.2.2.2.2.2.2.2.2.1 st.2.2.2.2.2.2.2.2.2) (r:=r) (fun _=>rfl) ?_ (fun ih=>?_))
  ·intro n26 ih45
   rintro ⟨S0,U0,V0,X0,Y0,Z0,a1,b1,c1,e1⟩ h
   unfold Rg at h
   refine ZQ J 7 h (fun h=>wa J 2 (ZK [] (j39 (S0,U0,V0,X0,Y0,Z0,a1,b1,c1) h))) fun h=>?_
   refine wO J 8 h fun g1 i1 h=>Yb J Wv i1 (wa J 8 (Yr ?_))
   refine YZ h (fun h=>wa J 8 (ZK [] (ih45 (S0,U0,V0,X0,Y0,Z0,a1,b1,c1,(ZM (e1+1))) h))) fun h=>?_
   exact wO J 8 h fun k1 l1 h=>ZO (X7 N (⟨S0,(⟨U0,V0,X0,Y0⟩:ZU),Z0,(⟨a1,b1,c1⟩:T6)⟩:ZZ) U0 9 _ l1) [] [(0,.bp 6 0),(1,.sl 7),(2,.sl 8),(3,.sl 9),(4,.sl 10),(5,.sl 11)] (wa J 7 (ZK [(7,.sl 16),(8,.sl 17),(9,.sl 18),(10,.sl 19),(11,.sl 20)] (ih45 (k1.l',k1.p'.Zt,k1.p'.ZD,k1.p'.ZE,k1.p'.ZF,k1.calls',k1.first'.ZH,k1.first'.Zt,k1.first'.ZI,(ZM (e1+1))) h)))
  exact ZK [(7,.sl 0),(8,.sl 3),(9,.sl 4),(10,.sl 5),(11,.nil)] (ih N (c,g.Zt,g.ZD,g.ZE,g.ZF,([]:List ByteArray),(str []),(str []),0,0) h)
 exact ZK [] (ih N 0 h)
theorem Zri (N:Nat) (c:(List ZU)) (r:Bool) (h:Gn N c=some r) :
 Fn Tryz.prog 11 ⟨1,[.S 0],[(0,.sl Yp c)],[],1,.O r,[],[]⟩:=by
 refine Z5 func11 rfl (fun E F w=>?_)
 unfold Gn at h
 refine wO J 7 h fun d e h=>ZO (Zsk N c _ e) [] [(0,.sl 0)] ?_
 exact oi h▸wr J 4 func11 []
theorem ZnZ (N:Nat) (d:(List ZU)) (e:ByteArray) (r:Bool) (h:SI N d e=some r) :
 Fn Tryz.prog 4 ⟨2,[.S 0,.c (.s e)],[(0,.sl Yp d)],[(1,.abs powT)],2,.O r,[],[(1,.abs powT)]⟩:=by
 refine Z5 func4 rfl (fun E F w=>?_)
 unfold SI at h
 refine wO J 7 h fun f g h=>ZO (ZfQ N _ g) [] [(0,.sl 1)] ?_
 refine wB J 2 h (fun h=>?_) fun h=>?_
 ·refine wO J 8 h fun i j h=>ZO (ZfQ N _ j) [] [(0,.sl 1)] ?_
  exact oi h▸wr J 2 func4 []
 refine wO J 1 h fun k l h=>ZO (ZtH N d _ l) [] [(0,.sl 0)] ?_
 refine wB J 3 h (fun h=>?_) fun h=>?_
 ·refine wO J 3 h fun m o h=>ZO (ZfQ N _ o) [] [(0,.sl 1)] ?_
  exact oi h▸wr J 2 func4 []
 refine wO J 5 h fun p q h=>ZO (Zq7 N d _ q) [] [(0,.sl 0)] ?_
 refine wO J 1 h fun t u h=>ZO (ZkN N p e _ u) [2] [(0,.sl 2),(1,.sl 1)] (wa J 18 (Z2 (σ:=Bool) (fun st=>⟨[(0,.S 0),(6,.I t.2),(7,.O st)],[(1,.abs powT)],[(0,.sl Yp d)],7⟩) (fun st=>HR N d t st=some r) ?_ (fun j1=>?_)))
 ·intro v h
  unfold HR at h
  refine wO J 3 h fun x y h=>ZO (Zri N d _ y) [] [(0,.sl 0)] ?_
  refine ZQ J 10 h (fun h=>oi h▸wr J 11 func4 []) fun h=>?_
  exact wB J 4 h (fun h=>oi h▸wr J 7 func4 []) fun h=>oi h▸wr J 7 func4 []
 refine wa J 1 (Yc (σ:=Bool × Int) (fun st=>⟨[(0,.S 0),(1,.c (.s e)),(6,.I t.2),(7,.O st.1),(26,.S 0),(27,.I (d.length:Int)),(28,.I st.2)],[(1,.abs powT)],[(0,.sl Yp d)],7⟩) (fun n st=>RK N d e t n st.1 st.2) (r:=r) (fun _=>rfl) ?_ (fun ih=>?_))
 ·intro n2 ih3
  rintro ⟨z,A⟩ h
  unfold RK at h
  refine ZQ J 5 h (fun h=>wa J 2 (ZK [] (j1 z h))) fun h=>?_
  refine wO J 6 h fun C D h=>Yb J Wv D ?_
  exact wB J 7 h (fun h=>wa J 12 (ZK [] (ih3 (true,(ZM (A+1))) h))) fun h=>wa J 12 (ZK [] (ih3 ((C.Zt.toList==e.toList),(ZM (A+1))) h))
 exact ZK [] (ih N (false,0) h)
end Gx
end
