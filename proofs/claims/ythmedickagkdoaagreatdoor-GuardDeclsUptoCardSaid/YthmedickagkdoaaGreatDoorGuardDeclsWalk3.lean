/- Each function of the statement computes what its plain definition says, part 3. -/
import Derived.Test.YthmedickagkdoaaGreatDoorGuardDeclsWalk2
set_option linter.all false
section
set_option maxRecDepth 10000
set_option maxHeartbeats 4000000
open Go Go.Kx Go.Proofs Tryz
namespace Gx
theorem Zu1 (N:Nat) (c:(List Z3)) (r:Bool) (h:Bi N c=some r) :
 Fn Tryz.prog 52 ⟨1,[.S 0],[(0,.sl Yw c)],[],1,.O r,[],[]⟩:=by
 refine Z5 func52 rfl (fun E F w=>?_)
 unfold Bi at h
 refine wB J 11 h (fun h=>oi h▸wr J 5 func52 []) fun h=>wa J 7 (Z4 (σ:=Unit) (fun st=>(HU c [(0,.S 0)])) (fun st=>Zdd N c=some r) ?_ (fun j1=>?_))
 ·intro _ h
  unfold Zdd at h
  refine wO J 3 h fun d e h=>ZR (Ztm N c _ e) [] [(0,.sl 0)] ?_
  exact oi h▸wr J 4 func52 []
 refine wa J 1 (Ye (σ:=Int) (fun st=>(HU c [(0,.S 0),(3,.I st)])) (fun n st=>Ry N c n st) (r:=r) (fun _=>rfl) ?_ (fun ih=>?_))
 ·intro n12 ih12
  intro f h
  unfold Ry at h
  refine ZU J 8 h (fun h=>wa J 2 (ZO [] (j1 () h))) fun h=>?_
  refine wO J 8 h fun g i h=>Ya J WQ i ?_
  refine wO J 9 h fun j k h=>ZR (Sn N g.Zt _ k) [] [] ?_
  refine wB J 2 h (fun h=>oi h▸wr J 35 func52 []) fun h=>?_
  refine wO J 2 h fun l m h=>ZR (Zf4 N g.ZD 6 _ m) [] [(0,.sl 2)] ?_
  refine wB J 3 h (fun h=>oi h▸wr J 29 func52 []) fun h=>?_
  refine wB J 6 h (fun h=>oi h▸wr J 23 func52 []) fun h=>?_
  refine wO J 2 h fun o p h=>ZR (Ztg N g.ZF _ p) [] [(0,.sl 4)] ?_
  refine wB J 3 h (fun h=>oi h▸wr J 17 func52 []) fun h=>?_
  refine wO J 2 h fun q t h=>ZR (ZlZ N g.ZF _ t) [] [(0,.sl 4)] ?_
  refine wB J 3 h (fun h=>oi h▸wr J 11 func52 []) fun h=>?_
  refine wO J 2 h fun u v h=>ZR (Ztj N g.ZF _ v) [] [(0,.sl 4)] ?_
  refine wB J 3 h (fun h=>oi h▸wr J 5 func52 []) fun h=>wa J 6 (Z4 (σ:=Unit) (fun st=>⟨[(0,.S 0),(3,.I f)],[],[(0,.sl Yw c)],6⟩) (fun st=>Zde f (Ry N c n12)=some r) ?_ (fun j19=>?_))
  ·intro _ h
   unfold Zde at h
   exact wa J 6 (ZO [] (ih12 (ZN (f+1)) h))
  refine wa J 1 (Ye (σ:=Int) (fun st=>⟨[(0,.S 0),(3,.I f),(4,.B 5 0),(5,.I st)],[(5,.box [.s g.Zt,.sl 2,.sl 3,.sl 4] 26)],((0,.sl Yw c)::Xa 2 3 4 g []),6⟩) (fun n st=>Mm N f (Ry N c n12) g n st) (r:=r) (fun _=>rfl) ?_ (fun ih=>?_))
  ·intro n14 ih21
   intro x h
   unfold Mm at h
   refine ZU J 9 h (fun h=>wa J 2 (ZO [] (j19 () h))) fun h=>?_
   refine wO J 9 h fun y z h=>Ya J VJ z ?_
   refine wO J 1 h fun A C h=>ZR (Ztl N y _ C) [] [(0,.sl 7),(1,.sl 8)] ?_
   exact wB J 2 h (fun h=>oi h▸wr J 5 func52 []) fun h=>wa J 8 (ZO [] (ih21 (ZN (x+1)) h))
  exact ZO [] (ih N 0 h)
 exact ZO [] (ih N 0 h)
theorem Rz (N:Nat) (d:(List ByteArray)) (e:ByteArray) (r:Int) (h:Uf N d e=some r) :
 Fn Tryz.prog 54 ⟨1,[.S 0,.c (.s e)],[(0,.sl rS d)],[],1,.I r,[],[]⟩:=by
 refine Z5 func54 rfl (fun E F w=>?_)
 unfold Uf at h
 refine wa J 9 (Z4 (σ:=Unit) (fun st=>(Ug d [])) (fun st=>Zdf=some r) ?_ (fun j1=>?_))
 ·intro _ h
  unfold Zdf at h
  exact oi h▸wr J 4 func54 []
 refine wa J 1 (Ye (σ:=Int) (fun st=>(Ug d [(0,.S 0),(1,.c (.s e)),(5,.I st)])) (fun n st=>Mn d e n st) (r:=r) (fun _=>rfl) ?_ (fun ih=>?_))
 ·intro n2 ih3
  intro f h
  unfold Mn at h
  refine ZU J 8 h (fun h=>wa J 2 (ZO [] (j1 () h))) fun h=>?_
  refine wO J 8 h fun g i h=>Ya J oS i ?_
  exact wB J 4 h (fun h=>oi h▸wr J 6 func54 []) fun h=>wa J 8 (ZO [] (ih3 (ZN (f+1)) h))
 exact ZO [] (ih N 0 h)
theorem ZlV (N:Nat) (d:Z3) (e:ByteArray) (r:Yg × Bool) (h:z131 N d e=some r) :
 Fn Tryz.prog 131 ⟨3,[.a [.s d.Zt,.sl 0,.sl 1,.sl 2],.c (.s e)],(Xa 0 1 2 d []),[],5,.t [.inr [.s r.1.Zt,.sl 3,.sl 4],.inl (.b r.2)],(WA 3 4 r.1 []),[]⟩:=by
 refine Z5 func131 rfl (fun E F w=>?_)
 unfold z131 at h
 refine wa J 11 (Z4 (σ:=Unit) (fun st=>⟨[(4,.B 4 0)],[(4,.box [.s (str []),.nil,.nil] 58)],(Xa 0 1 2 d []),5⟩) (fun st=>Zbx=some r) ?_ (fun j1=>?_))
 ·intro _ h
  unfold Zbx at h
  exact oi h▸wr J 6 func131 [(3,.nil),(4,.nil)]
 refine wa J 1 (Ye (σ:=Int) (fun st=>⟨[(1,.c (.s e)),(2,.B 3 0),(4,.B 4 0),(6,.I st)],[(3,.box [.s d.Zt,.sl 0,.sl 1,.sl 2] 26),(4,.box [.s (str []),.nil,.nil] 58)],(Xa 0 1 2 d []),5⟩) (fun n st=>Pz d e n st) (r:=r) (fun _=>rfl) ?_ (fun ih=>?_))
 ·intro n2 ih3
  intro f h
  unfold Pz at h
  refine ZU J 9 h (fun h=>wa J 2 (ZO [] (j1 () h))) fun h=>?_
  refine wO J 9 h fun g i h=>Ya J VJ i ?_
  refine ZU J 5 h (fun h=>wa J 8 (ZO [] (ih3 (ZN (f+1)) h))) fun h=>?_
  refine wO J 6 h fun j k h=>Ya J VJ k ?_
  exact oi h▸wr J 4 func131 [(3,.sl 9),(4,.sl 10)]
 exact ZO [] (ih N 0 h)
theorem Zub (N:Nat) (c:Z3) (d:Yg) (e:Yq) (r:T2 × Bool) (h:DI N c d e=some r) :
 Fn Tryz.prog 187 ⟨5,[.a [.s c.Zt,.sl 0,.sl 1,.sl 2],.a [.s d.Zt,.sl 3,.sl 4],.a (Xp e)],(Xa 0 1 2 c (WA 3 4 d [])),[],5,.t [.inr (XZ r.1),.inl (.b r.2)],[],[]⟩:=by
 refine Z5 func187 rfl (fun E F w=>?_)
 unfold DI at h
 refine wa J 15 (Z4 (σ:=ByteArray × (List T2) × (List Wu)) (fun st=>(Zm1 st.1 e c d st.2.1 st.2.2 [(4,.B 6 0),(5,.B 7 0),(6,.B 8 0)])) (fun st=>L7 N e st.1 st.2.1 st.2.2=some r) ?_ (fun j1=>?_))
 ·rintro ⟨f,g,i⟩ h
  unfold L7 at h
  refine wa J 5 (Z4 (σ:=Unit) (fun st=>⟨[(6,.B 8 0)],[(8,.box [.s (str []),.I 0,.I 0,.I 0] 69)],(Xa 0 1 2 c (WA 3 4 d [])),11⟩) (fun st=>Zcg=some r) ?_ (fun j2=>?_))
  ·intro _ h
   unfold Zcg at h
   exact oi h▸wr J 6 func187 []
  refine wa J 1 (Ye (σ:=Int) (fun st=>(Zm1 f e c d g i [(4,.B 6 0),(5,.B 7 0),(6,.B 8 0),(10,.I st)])) (fun n st=>PV e g n st) (r:=r) (fun _=>rfl) ?_ (fun ih=>?_))
  ·intro n2 ih4
   intro j h
   unfold PV at h
   refine ZU J 9 h (fun h=>wa J 2 (ZO [] (j2 () h))) fun h=>?_
   refine wO J 9 h fun k l h=>Ya J XK l (wa J 5 (Yn ?_))
   refine Xf h (fun h=>wa J 8 (ZO [] (ih4 (ZN (j+1)) h))) fun h=>?_
   refine wO J 6 h fun m o h=>Ya J XK o ?_
   exact oi h▸wr J 4 func187 []
  exact ZO [] (ih N 0 h)
 refine Xf h (fun h=>wa J 2 (ZO [(9,.sl 3),(10,.sl 4)] (j1 (d.Zt,d.Zy,d.Zz) h))) fun h=>?_
 refine wO J 6 h fun p q h=>ZR (ZlV N c e.Zv _ q) [] [(0,.sl 0),(1,.sl 1),(2,.sl 2)] ?_
 exact wB J 13 h (fun h=>oi h▸wr J 7 func187 []) fun h=>wa J 6 (ZO [] (j1 (p.1.Zt,p.1.Zy,p.1.Zz) h))
theorem ZlW (N:Nat) (d:(List Z3)) (e:ByteArray) (r:Z3 × Bool) (h:LN N d e=some r) :
 Fn Tryz.prog 133 ⟨1,[.S 0,.c (.s e)],[(0,.sl Yw d)],[],4,.t [.inr [.s r.1.Zt,.sl 1,.sl 2,.sl 3],.inl (.b r.2)],(Xa 1 2 3 r.1 []),[]⟩:=by
 refine Z5 func133 rfl (fun E F w=>?_)
 unfold LN at h
 refine wa J 10 (Z4 (σ:=Unit) (fun st=>⟨[(4,.B 1 0)],[(1,.box [.s (str []),.nil,.nil,.nil] 26)],[(0,.sl Yw d)],2⟩) (fun st=>Zby=some r) ?_ (fun j1=>?_))
 ·intro _ h
  unfold Zby at h
  exact oi h▸wr J 6 func133 [(1,.nil),(2,.nil),(3,.nil)]
 refine wa J 1 (Ye (σ:=Int) (fun st=>⟨[(0,.S 0),(1,.c (.s e)),(4,.B 1 0),(6,.I st)],[(1,.box [.s (str []),.nil,.nil,.nil] 26)],[(0,.sl Yw d)],2⟩) (fun n st=>PB d e n st) (r:=r) (fun _=>rfl) ?_ (fun ih=>?_))
 ·intro n2 ih3
  intro f h
  unfold PB at h
  refine ZU J 8 h (fun h=>wa J 2 (ZO [] (j1 () h))) fun h=>?_
  refine wO J 8 h fun g i h=>Ya J WQ i ?_
  refine ZU J 5 h (fun h=>wa J 8 (ZO [] (ih3 (ZN (f+1)) h))) fun h=>?_
  refine wO J 5 h fun j k h=>Ya J WQ k ?_
  exact oi h▸wr J 4 func133 [(1,.sl 7),(2,.sl 8),(3,.sl 9)]
 exact ZO [] (ih N 0 h)
theorem Wo (N:Nat) (d:Z7) (e:ByteArray) (f:Int) (r:Z7) (h:z53 N d e f=some r) :
 Fn Tryz.prog 53 ⟨6,[.B 0 0,.c (.s e),.I f],((1,.sl Yw d.l')::Xa 2 3 4 d.p' []),[(0,.box (WJ 1 2 3 4 5 d) 143),(5,.own rS d.calls' false)],11,.t [],((6,.sl Yw r.l')::Xa 7 8 9 r.p' []),[(5,.gone),(10,.own rS r.calls' false),(0,.box (WJ 6 7 8 9 10 r) 143)]⟩:=by
 refine Z5 func53 rfl (fun E F w=>?_)
 unfold z53 at h
 exact wB J 9 h (fun h=>oi h▸wr J 15 func53 [(6,.sl 1),(7,.sl 2),(8,.sl 3),(9,.sl 4),(10,.sl 5)]) fun h=>oi h▸wr J 2 func53 [(6,.sl 1),(7,.sl 2),(8,.sl 3),(9,.sl 4),(10,.sl 5)]
theorem Zf9 (N:Nat) (c:Z7) (d:(List ByteArray)) (r:Z7) (h:R9 N c d=some r) :
 Fn Tryz.prog 130 ⟨7,[.B 0 0,.S 6],((1,.sl Yw c.l')::Xa 2 3 4 c.p' [(6,.sl rS d)]),[(0,.box (WJ 1 2 3 4 5 c) 143),(5,.own rS c.calls' false)],12,.t [],((7,.sl Yw r.l')::Xa 8 9 10 r.p' []),[(5,.gone),(11,.own rS r.calls' false),(0,.box (WJ 7 8 9 10 11 r) 143)]⟩:=by
 refine Z5 func130 rfl (fun E F w=>?_)
 unfold R9 at h
 refine wa J 4 (Z4 (σ:=(List Z3) × ByteArray × (List ByteArray) × (List Yg) × (List ZY) × (List ByteArray) × ByteArray × ByteArray × Int) (fun st=>(Zm2 st.2.1 st.2.2.2.2.2.2.1 st.2.2.2.2.2.2.2.1 st.2.2.2.2.2.2.2.2 st.2.2.2.2.2.1 c.l' c.p' d st.1 st.2.2.1 st.2.2.2.1 st.2.2.2.2.1 [])) (fun st=>Dh st.1 st.2.1 st.2.2.1 st.2.2.2.1 st.2.2.2.2.1 st.2.2.2.2.2.1 st.2.2.2.2.2.2.1 st.2.2.2.2.2.2.2.1 st.2.2.2.2.2.2.2.2=some r) ?_ (fun j1=>?_))
 ·rintro ⟨e,f,g,i,j,k,l,m,o⟩ h
  unfold Dh at h
  cases h
  exact Y2 J func130 [(7,.sl 7),(8,.sl 8),(9,.sl 9),(10,.sl 10),(11,.sl 11)]
 refine wa J 1 (Ye (σ:=(List Z3) × ByteArray × (List ByteArray) × (List Yg) × (List ZY) × (List ByteArray) × ByteArray × ByteArray × Int × Int) (fun st=>(Zm2 st.2.1 st.2.2.2.2.2.2.1 st.2.2.2.2.2.2.2.1 st.2.2.2.2.2.2.2.2.1 st.2.2.2.2.2.1 c.l' c.p' d st.1 st.2.2.1 st.2.2.2.1 st.2.2.2.2.1 [(0,.B 0 0),(1,.S 6),(4,.I st.2.2.2.2.2.2.2.2.2)])) (fun n st=>Ri N d n st.1 st.2.1 st.2.2.1 st.2.2.2.1 st.2.2.2.2.1 st.2.2.2.2.2.1 st.2.2.2.2.2.2.1 st.2.2.2.2.2.2.2.1 st.2.2.2.2.2.2.2.2.1 st.2.2.2.2.2.2.2.2.2) (r:=r) (fun _=>rfl) ?_ (fun ih=>?_))
 ·intro n2 ih3
  rintro ⟨p,q,u,v,x,y,z,A,C,D⟩ h
  unfold Ri at h
  refine ZU J 8 h (fun h=>wa J 2 (ZO [] (j1 (p,q,u,v,x,y,z,A,C) h))) fun h=>?_
  refine wO J 13 h fun G H h=>Ya J oS H ?_
  refine wO J 1 h fun R T h=>ZR (Rz N u G _ T) [] [(0,.sl 8)] ?_
  refine wB J 2 h (fun h=>wa J 10 (Yn ?_)) fun h=>?_
  ·refine wO J 5 h fun U X h=>Ya J oS X ?_
   exact wO J 1 h fun Y Z h=>ZR (Wo N (⟨p,(⟨q,u,v,x⟩:Z3),y,(⟨z,A,C⟩:T9)⟩:Z7) U 12 _ Z) [] [(0,.bp 0 0),(1,.sl 7),(2,.sl 8),(3,.sl 9),(4,.sl 10),(5,.sl 11)] (wa J 7 (ZO [(7,.sl 14),(8,.sl 15),(9,.sl 16),(10,.sl 17),(11,.sl 18)] (ih3 (Y.l',Y.p'.Zt,Y.p'.ZD,Y.p'.ZE,Y.p'.ZF,Y.calls',Y.first'.ZL,Y.first'.Zt,Y.first'.ZM,(ZN (D+1))) h)))
  refine wO J 2 h fun a0 b0 h=>SU J rS b0 ?_
  refine wO J 2 h fun c0 e0 h=>Ya J oS e0 ?_
  refine wO J 1 h fun g0 i0 h=>ZR (Rz N a0 c0 _ i0) [] [(0,.sl 13)] (wa J 2 (Yn ?_))
  refine Xf h (fun h=>wa J 8 (ZO [] (ih3 (p,q,u,v,x,y,z,A,C,(ZN (D+1))) h))) fun h=>?_
  refine wO J 5 h fun j0 k0 h=>Ya J oS k0 ?_
  exact wO J 1 h fun l0 m0 h=>ZR (Wo N (⟨p,(⟨q,u,v,x⟩:Z3),y,(⟨z,A,C⟩:T9)⟩:Z7) j0 12 _ m0) [] [(0,.bp 0 0),(1,.sl 7),(2,.sl 8),(3,.sl 9),(4,.sl 10),(5,.sl 11)] (wa J 7 (ZO [(7,.sl 16),(8,.sl 17),(9,.sl 18),(10,.sl 19),(11,.sl 20)] (ih3 (l0.l',l0.p'.Zt,l0.p'.ZD,l0.p'.ZE,l0.p'.ZF,l0.calls',l0.first'.ZL,l0.first'.Zt,l0.first'.ZM,(ZN (D+1))) h)))
 exact ZO [(7,.sl 1),(8,.sl 2),(9,.sl 3),(10,.sl 4),(11,.sl 5)] (ih N (c.l',c.p'.Zt,c.p'.ZD,c.p'.ZE,c.p'.ZF,c.calls',c.first'.ZL,c.first'.Zt,c.first'.ZM,0) h)
theorem Ztp (N:Nat) (c:Z7) (d:ZY) (r:Z7) (h:Di N c d=some r) :
 Fn Tryz.prog 132 ⟨8,[.B 0 0,.a [.I d.Zq,.s d.ZA,.sl 6,.s d.Zt,.s d.As,.I d.ZB,.sl 7]],((1,.sl Yw c.l')::Xa 2 3 4 c.p' [(6,.sl rS d.To),(7,.sl (Yx YA) d.ZC)]),[(0,.box (WJ 1 2 3 4 5 c) 143),(5,.own rS c.calls' false)],13,.t [],((8,.sl Yw r.l')::Xa 9 10 11 r.p' []),[(5,.gone),(12,.own rS r.calls' false),(0,.box (WJ 8 9 10 11 12 r) 143)]⟩:=by
 refine Z5 func132 rfl (fun E F w=>?_)
 unfold Di at h
 refine wO J 12 h fun e f h=>ZR (ZlW N c.l' d.Zt _ f) [] [(0,.sl 1)] (wa J 6 (Yn (wa J 8 (Z4 (σ:=(List Z3) × ByteArray × (List ByteArray) × (List Yg) × (List ZY) × (List ByteArray) × ByteArray × ByteArray × Int) (fun st=>⟨[(0,.B 0 0),(3,.B 8 0)],[(0,.box [.sl 13,.s st.2.1,.sl 14,.sl 15,.sl 16,.sl 17,.s st.2.2.2.2.2.2.1,.s st.2.2.2.2.2.2.2.1,.I st.2.2.2.2.2.2.2.2] 143),(8,.box [.I d.Zq,.s d.ZA,.sl 6,.s d.Zt,.s d.As,.I d.ZB,.sl 7] 128),(17,.own rS st.2.2.2.2.2.1 false)],((1,.sl Yw c.l')::Xa 2 3 4 c.p' [(6,.sl rS d.To),(7,.sl (Yx YA) d.ZC),(13,.sl Yw st.1),(14,.sl rS st.2.2.1),(15,.sl Xm st.2.2.2.1),(16,.sl YA st.2.2.2.2.1)]),18⟩) (fun st=>PA N d st.1 st.2.1 st.2.2.1 st.2.2.2.1 st.2.2.2.2.1 st.2.2.2.2.2.1 st.2.2.2.2.2.2.1 st.2.2.2.2.2.2.2.1 st.2.2.2.2.2.2.2.2=some r) ?_ (fun j1=>?_)))))
 ·rintro ⟨g,i,j,k,l,m,o,p,q⟩ h
  unfold PA at h
  refine wO J 6 h fun u v h=>ZR (Zf9 N (⟨g,(⟨i,j,k,l⟩:Z3),m,(⟨o,p,q⟩:T9)⟩:Z7) d.To _ v) [] [(0,.bp 0 0),(1,.sl 13),(2,.sl 14),(3,.sl 15),(4,.sl 16),(5,.sl 17),(6,.sl 6)] ?_
  refine wO J 10 h fun x y h=>XA (Rz N u.calls' d.As _ y) [] [(0,.sl 22)] [22] (.inr ⟨rfl,trivial⟩) (wa J 1 (Yn ?_))
  refine Xf h (fun h=>wa J 10 (Yy J [] oS ([d.As]:List ByteArray) ?_)) fun h=>?_
  ·have ⟨z,A,h⟩:=ob h
   refine YR J rS A (wa J 3 (Yn ?_))
   cases h
   exact Y2 J func132 [(8,.sl 18),(9,.sl 19),(10,.sl 20),(11,.sl 21),(12,.sl 24)]
  refine wO J 5 h fun C D h=>ZR (Wo N u d.As 9 _ D) [] [(0,.bp 0 0),(1,.sl 18),(2,.sl 19),(3,.sl 20),(4,.sl 21),(5,.sl 22)] (wa J 9 (Yy J [] oS ([d.As]:List ByteArray) ?_))
  have ⟨G,H,h⟩:=ob h
  refine YR J rS H (wa J 3 (Yn ?_))
  cases h
  exact Y2 J func132 [(8,.sl 23),(9,.sl 24),(10,.sl 25),(11,.sl 26),(12,.sl 29)]
 refine eB h (fun h=>?_) fun h=>?_
 ·exact wO J 5 h fun R T h=>ZR (Wo N c d.Zt 10 _ T) [] [(0,.bp 0 0),(1,.sl 1),(2,.sl 2),(3,.sl 3),(4,.sl 4),(5,.sl 5)] (wa J 1 (ZO [] (j1 (R.l',R.p'.Zt,R.p'.ZD,R.p'.ZE,R.p'.ZF,R.calls',R.first'.ZL,R.first'.Zt,R.first'.ZM) h)))
 refine ZU J 12 h (fun h=>wa J 2 (ZO [(13,.sl 1),(14,.sl 2),(15,.sl 3),(16,.sl 4),(17,.sl 5)] (j1 (c.l',c.p'.Zt,c.p'.ZD,c.p'.ZE,c.p'.ZF,c.calls',c.first'.ZL,c.first'.Zt,c.first'.ZM) h))) fun h=>?_
 exact wO J 5 h fun U X h=>ZR (Wo N c d.Zt 1 _ X) [] [(0,.bp 0 0),(1,.sl 1),(2,.sl 2),(3,.sl 3),(4,.sl 4),(5,.sl 5)] (wa J 1 (ZO [] (j1 (U.l',U.p'.Zt,U.p'.ZD,U.p'.ZE,U.p'.ZF,U.calls',U.first'.ZL,U.first'.Zt,U.first'.ZM) h)))
theorem Zu3 (N:Nat) (rc:Z7->(List ZY)->(List ByteArray)->Int->Int->Option Z7) (rcT:(∀ (c:Z7) (d:(List ZY)) (e:(List ByteArray)) (f:Int) (g:Int) (r:Z7),rc c d e f g=some r->Fn Tryz.prog 56 ⟨8,[.B 0 0,.S 6,.S 7,.I f,.I g],((1,.sl Yw c.l')::Xa 2 3 4 c.p' [(6,.sl YA d),(7,.sl rS e)]),[(0,.box (WJ 1 2 3 4 5 c) 143),(5,.own rS c.calls' false)],13,.t [],((8,.sl Yw r.l')::Xa 9 10 11 r.p' []),[(5,.gone),(12,.own rS r.calls' false),(0,.box (WJ 8 9 10 11 12 r) 143)]⟩)) (c:Z7) (d:(List ZY)) (e:(List ByteArray)) (f:Int) (g:Int) (r:Z7) (h:Bn N rc c d e f g=some r) :
 Fn Tryz.prog 56 ⟨8,[.B 0 0,.S 6,.S 7,.I f,.I g],((1,.sl Yw c.l')::Xa 2 3 4 c.p' [(6,.sl YA d),(7,.sl rS e)]),[(0,.box (WJ 1 2 3 4 5 c) 143),(5,.own rS c.calls' false)],13,.t [],((8,.sl Yw r.l')::Xa 9 10 11 r.p' []),[(5,.gone),(12,.own rS r.calls' false),(0,.box (WJ 8 9 10 11 12 r) 143)]⟩:=by
 refine Z5 func56 rfl (fun E F w=>?_)
 unfold Bn at h
 refine wa J 4 (Z4 (σ:=(List Z3) × ByteArray × (List ByteArray) × (List Yg) × (List ZY) × (List ByteArray) × ByteArray × ByteArray × Int) (fun st=>(Zm3 st.2.1 st.2.2.2.2.2.2.1 st.2.2.2.2.2.2.2.1 st.2.2.2.2.2.2.2.2 st.2.2.2.2.2.1 c.l' c.p' d e st.1 st.2.2.1 st.2.2.2.1 st.2.2.2.2.1 [])) (fun st=>Bo st.1 st.2.1 st.2.2.1 st.2.2.2.1 st.2.2.2.2.1 st.2.2.2.2.2.1 st.2.2.2.2.2.2.1 st.2.2.2.2.2.2.2.1 st.2.2.2.2.2.2.2.2=some r) ?_ (fun j1=>?_))
 ·rintro ⟨i,j,k,l,m,o,p,q,u⟩ h
  unfold Bo at h
  cases h
  exact Y2 J func56 [(8,.sl 8),(9,.sl 9),(10,.sl 10),(11,.sl 11),(12,.sl 12)]
 refine wa J 1 (Ye (σ:=(List Z3) × ByteArray × (List ByteArray) × (List Yg) × (List ZY) × (List ByteArray) × ByteArray × ByteArray × Int × Int) (fun st=>(Zm3 st.2.1 st.2.2.2.2.2.2.1 st.2.2.2.2.2.2.2.1 st.2.2.2.2.2.2.2.2.1 st.2.2.2.2.2.1 c.l' c.p' d e st.1 st.2.2.1 st.2.2.2.1 st.2.2.2.2.1 [(0,.B 0 0),(1,.S 6),(2,.S 7),(3,.I f),(4,.I g),(10,.I st.2.2.2.2.2.2.2.2.2)])) (fun n st=>Uy N rc d e f g n st.1 st.2.1 st.2.2.1 st.2.2.2.1 st.2.2.2.2.1 st.2.2.2.2.2.1 st.2.2.2.2.2.2.1 st.2.2.2.2.2.2.2.1 st.2.2.2.2.2.2.2.2.1 st.2.2.2.2.2.2.2.2.2) (r:=r) (fun _=>rfl) ?_ (fun ih=>?_))
 ·intro n12 ih18
  rintro ⟨v,x,y,z,A,C,D,G,H,R⟩ h
  unfold Uy at h
  refine ZU J 8 h (fun h=>wa J 2 (ZO [] (j1 (v,x,y,z,A,C,D,G,H) h))) fun h=>?_
  refine wO J 8 h fun T U h=>Ya J Us U (wa J 22 (Z4 (σ:=Int) (fun st=>⟨[(0,.B 0 0),(1,.S 6),(2,.S 7),(3,.I f),(4,.I g),(10,.I R),(11,.B 16 0),(12,.S 7),(13,.I f),(14,.I st)],[(0,.box [.sl 8,.s x,.sl 9,.sl 10,.sl 11,.sl 12,.s D,.s G,.I H] 143),(12,.own rS C false),(16,.box [.I T.Zq,.s T.ZA,.sl 14,.s T.Zt,.s T.As,.I T.ZB,.sl 15] 128)],((1,.sl Yw c.l')::Xa 2 3 4 c.p' [(6,.sl YA d),(7,.sl rS e),(8,.sl Yw v),(9,.sl rS y),(10,.sl Xm z),(11,.sl YA A),(14,.sl rS T.To),(15,.sl (Yx YA) T.ZC)]),17⟩) (fun st=>HE N rc e f v x y z A C D G H R (Uy N rc d e f g n12) T st=some r) ?_ (fun j29=>?_)))
  ·intro X h
   unfold HE at h
   refine wa J 12 (Z4 (σ:=(List Z3) × ByteArray × (List ByteArray) × (List Yg) × (List ZY) × (List ByteArray) × ByteArray × ByteArray × Int × (List ByteArray) × Int) (fun st=>⟨[(0,.B 0 0),(1,.S 6),(2,.S 7),(3,.I f),(4,.I g),(10,.I R),(11,.B 16 0),(12,.S 22),(13,.I st.2.2.2.2.2.2.2.2.2.2),(14,.I X)],[(0,.box [.sl 17,.s st.2.1,.sl 18,.sl 19,.sl 20,.sl 21,.s st.2.2.2.2.2.2.1,.s st.2.2.2.2.2.2.2.1,.I st.2.2.2.2.2.2.2.2.1] 143),(16,.box [.I T.Zq,.s T.ZA,.sl 14,.s T.Zt,.s T.As,.I T.ZB,.sl 15] 128),(21,.own rS st.2.2.2.2.2.1 false)],((1,.sl Yw c.l')::Xa 2 3 4 c.p' [(6,.sl YA d),(7,.sl rS e),(14,.sl rS T.To),(15,.sl (Yx YA) T.ZC),(17,.sl Yw st.1),(18,.sl rS st.2.2.1),(19,.sl Xm st.2.2.2.1),(20,.sl YA st.2.2.2.2.1),(22,.sl rS st.2.2.2.2.2.2.2.2.2.1)]),23⟩) (fun st=>Vh N rc R (Uy N rc d e f g n12) T X st.1 st.2.1 st.2.2.1 st.2.2.2.1 st.2.2.2.2.1 st.2.2.2.2.2.1 st.2.2.2.2.2.2.1 st.2.2.2.2.2.2.2.1 st.2.2.2.2.2.2.2.2.1 st.2.2.2.2.2.2.2.2.2.1 st.2.2.2.2.2.2.2.2.2.2=some r) ?_ (fun j30=>?_))
   ·rintro ⟨Y,Z,a0,b0,c0,e0,g0,i0,j0,k0,l0⟩ h
    unfold Vh at h
    refine wa J 5 (Z4 (σ:=(List Z3) × ByteArray × (List ByteArray) × (List Yg) × (List ZY) × (List ByteArray) × ByteArray × ByteArray × Int) (fun st=>⟨[(0,.B 0 0),(1,.S 6),(2,.S 7),(3,.I f),(4,.I g),(10,.I R)],[(0,.box [.sl 23,.s st.2.1,.sl 24,.sl 25,.sl 26,.sl 27,.s st.2.2.2.2.2.2.1,.s st.2.2.2.2.2.2.2.1,.I st.2.2.2.2.2.2.2.2] 143),(27,.own rS st.2.2.2.2.2.1 false)],((1,.sl Yw c.l')::Xa 2 3 4 c.p' [(6,.sl YA d),(7,.sl rS e),(23,.sl Yw st.1),(24,.sl rS st.2.2.1),(25,.sl Xm st.2.2.2.1),(26,.sl YA st.2.2.2.2.1)]),28⟩) (fun st=>Bp R (Uy N rc d e f g n12) st.1 st.2.1 st.2.2.1 st.2.2.2.1 st.2.2.2.2.1 st.2.2.2.2.2.1 st.2.2.2.2.2.2.1 st.2.2.2.2.2.2.2.1 st.2.2.2.2.2.2.2.2=some r) ?_ (fun j31=>?_))
    ·rintro ⟨m0,o0,p0,q0,s0,t0,u0,v0,x0⟩ h
     unfold Bp at h
     exact wa J 6 (ZO [(8,.sl 23),(9,.sl 24),(10,.sl 25),(11,.sl 26),(12,.sl 27)] (ih18 (m0,o0,p0,q0,s0,t0,u0,v0,x0,(ZN (R+1))) h))
    refine wa J 1 (Ye (σ:=(List Z3) × ByteArray × (List ByteArray) × (List Yg) × (List ZY) × (List ByteArray) × ByteArray × ByteArray × Int × Int) (fun st=>⟨[(0,.B 0 0),(1,.S 6),(2,.S 7),(3,.I f),(4,.I g),(10,.I R),(11,.B 16 0),(12,.S 22),(13,.I l0),(14,.I X),(17,.I st.2.2.2.2.2.2.2.2.2)],[(0,.box [.sl 23,.s st.2.1,.sl 24,.sl 25,.sl 26,.sl 27,.s st.2.2.2.2.2.2.1,.s st.2.2.2.2.2.2.2.1,.I st.2.2.2.2.2.2.2.2.1] 143),(16,.box [.I T.Zq,.s T.ZA,.sl 14,.s T.Zt,.s T.As,.I T.ZB,.sl 15] 128),(27,.own rS st.2.2.2.2.2.1 false)],((1,.sl Yw c.l')::Xa 2 3 4 c.p' [(6,.sl YA d),(7,.sl rS e),(14,.sl rS T.To),(15,.sl (Yx YA) T.ZC),(22,.sl rS k0),(23,.sl Yw st.1),(24,.sl rS st.2.2.1),(25,.sl Xm st.2.2.2.1),(26,.sl YA st.2.2.2.2.1)]),28⟩) (fun n st=>Mq rc R (Uy N rc d e f g n12) T X k0 l0 n st.1 st.2.1 st.2.2.1 st.2.2.2.1 st.2.2.2.2.1 st.2.2.2.2.2.1 st.2.2.2.2.2.2.1 st.2.2.2.2.2.2.2.1 st.2.2.2.2.2.2.2.2.1 st.2.2.2.2.2.2.2.2.2) (r:=r) (fun _=>rfl) ?_ (fun ih=>?_))
    ·intro n14 ih33
     rintro ⟨y0,z0,A0,B0,C0,D0,G0,H0,I0,L0⟩ h
     unfold Mq at h
     refine ZU J 9 h (fun h=>wa J 2 (ZO [] (j31 (y0,z0,A0,B0,C0,D0,G0,H0,I0) h))) fun h=>?_
     refine wO J 9 h fun M0 O0 h=>Ya J (Y8 YA) O0 ?_
     exact wO J 4 h fun R0 S0 h=>ZR (rcT (⟨y0,(⟨z0,A0,B0,C0⟩:Z3),D0,(⟨G0,H0,I0⟩:T9)⟩:Z7) M0 k0 l0 X _ S0) [] [(0,.bp 0 0),(1,.sl 23),(2,.sl 24),(3,.sl 25),(4,.sl 26),(5,.sl 27),(6,.sl 29),(7,.sl 22)] (wa J 7 (ZO [(23,.sl 30),(24,.sl 31),(25,.sl 32),(26,.sl 33),(27,.sl 34)] (ih33 (R0.l',R0.p'.Zt,R0.p'.ZD,R0.p'.ZE,R0.p'.ZF,R0.calls',R0.first'.ZL,R0.first'.Zt,R0.first'.ZM,(ZN (L0+1))) h)))
    exact ZO [(23,.sl 17),(24,.sl 18),(25,.sl 19),(26,.sl 20),(27,.sl 21)] (ih N (Y,Z,a0,b0,c0,e0,g0,i0,j0,0) h)
   refine eB h (fun h=>wa J 6 (Yy J [] oS ([T.ZA]:List ByteArray) ?_)) fun h=>?_
   ·refine wO J 2 h fun U0 V0 h=>YR J rS V0 ?_
    have ⟨X0,Y0,h⟩:=ob h
    refine ZR (Zf9 N (⟨v,(⟨x,y,z,A⟩:Z3),C,(⟨D,G,H⟩:T9)⟩:Z7) U0 _ Y0) [18] [(0,.bp 0 0),(1,.sl 8),(2,.sl 9),(3,.sl 10),(4,.sl 11),(5,.sl 12),(6,.sl 18)] ?_
    refine wO J 9 h fun Z0 a1 h=>ZR (ZlV N X0.p' T.Zt _ a1) [] [(0,.sl 20),(1,.sl 21),(2,.sl 22)] (wa J 6 (Yn ?_))
    refine ZU J 5 h (fun h=>wa J 2 (ZO [(17,.sl 19),(18,.sl 20),(19,.sl 21),(20,.sl 22),(21,.sl 23),(22,.sl 7)] (j30 (X0.l',X0.p'.Zt,X0.p'.ZD,X0.p'.ZE,X0.p'.ZF,X0.calls',X0.first'.ZL,X0.first'.Zt,X0.first'.ZM,e,f) h))) fun h=>?_
    exact wO J 5 h fun b1 c1 h=>ZR (Wo N X0 T.Zt 10 _ c1) [] [(0,.bp 0 0),(1,.sl 19),(2,.sl 20),(3,.sl 21),(4,.sl 22),(5,.sl 23)] (wa J 1 (ZO [(17,.sl 27),(18,.sl 28),(19,.sl 29),(20,.sl 30),(21,.sl 31),(22,.sl 7)] (j30 (b1.l',b1.p'.Zt,b1.p'.ZD,b1.p'.ZE,b1.p'.ZF,b1.calls',b1.first'.ZL,b1.first'.Zt,b1.first'.ZM,e,f) h)))
   refine wB J 6 h (fun h=>wa J 5 (Yy J [] oS ([T.ZA]:List ByteArray) ?_)) fun h=>?_
   ·have ⟨e1,g1,h⟩:=ob h
    exact ZR (Zf9 N (⟨v,(⟨x,y,z,A⟩:Z3),C,(⟨D,G,H⟩:T9)⟩:Z7) ([T.ZA]:List ByteArray) _ g1) [17] [(0,.bp 0 0),(1,.sl 8),(2,.sl 9),(3,.sl 10),(4,.sl 11),(5,.sl 12),(6,.sl 17)] (wa J 1 (ZO [(17,.sl 18),(18,.sl 19),(19,.sl 20),(20,.sl 21),(21,.sl 22),(22,.sl 7)] (j30 (e1.l',e1.p'.Zt,e1.p'.ZD,e1.p'.ZE,e1.p'.ZF,e1.calls',e1.first'.ZL,e1.first'.Zt,e1.first'.ZM,e,f) h)))
   refine wB J 6 h (fun h=>?_) fun h=>?_
   ·refine wO J 7 h fun i1 k1 h=>ZR (Rz N e T.Zt _ k1) [] [(0,.sl 7)] ?_
    refine ZU J 2 h (fun h=>wa J 3 (Yy J [] oS ([]:List ByteArray) ?_)) fun h=>?_
    ·refine wO J 1 h fun l1 m1 h=>YR J rS m1 (wa J 2 (Yy J [] oS ([T.Zt]:List ByteArray) ?_))
     have ⟨o1,p1,h⟩:=ob h
     exact YR J rS p1 (wa J 1 (Yn (WK [20] (ZO [(17,.sl 8),(18,.sl 9),(19,.sl 10),(20,.sl 11),(21,.sl 12),(22,.sl 20)] (j30 (v,x,y,z,A,C,D,G,H,o1,f) h)))))
    refine wO J 5 h fun q1 s1 h=>ZR (Wo N (⟨v,(⟨x,y,z,A⟩:Z3),C,(⟨D,G,H⟩:T9)⟩:Z7) T.Zt 9 _ s1) [] [(0,.bp 0 0),(1,.sl 8),(2,.sl 9),(3,.sl 10),(4,.sl 11),(5,.sl 12)] (wa J 2 (Yy J [] oS ([]:List ByteArray) ?_))
    refine wO J 1 h fun t1 u1 h=>YR J rS u1 (wa J 2 (Yy J [] oS ([T.Zt]:List ByteArray) ?_))
    have ⟨v1,x1,h⟩:=ob h
    exact YR J rS x1 (wa J 1 (Yn (WK [25] (ZO [(22,.sl 25)] (j30 (q1.l',q1.p'.Zt,q1.p'.ZD,q1.p'.ZE,q1.p'.ZF,q1.calls',q1.first'.ZL,q1.first'.Zt,q1.first'.ZM,v1,f) h)))))
   refine ZU J 6 h (fun h=>?_) fun h=>?_
   ·refine wB J 6 h (fun h=>wa J 6 (ZO [(17,.sl 8),(18,.sl 9),(19,.sl 10),(20,.sl 11),(21,.sl 12),(22,.sl 7)] (j30 (v,x,y,z,A,C,D,G,H,e,(e.length:Int)) h))) fun h=>?_
    refine ZU J 6 h (fun h=>wa J 2 (ZO [(17,.sl 8),(18,.sl 9),(19,.sl 10),(20,.sl 11),(21,.sl 12),(22,.sl 7)] (j30 (v,x,y,z,A,C,D,G,H,e,f) h))) fun h=>?_
    exact wO J 4 h fun y1 z1 h=>ZR (Ztp N (⟨v,(⟨x,y,z,A⟩:Z3),C,(⟨D,G,H⟩:T9)⟩:Z7) T _ z1) [] [(0,.bp 0 0),(1,.sl 8),(2,.sl 9),(3,.sl 10),(4,.sl 11),(5,.sl 12),(6,.sl 14),(7,.sl 15)] (wa J 1 (ZO [(22,.sl 7)] (j30 (y1.l',y1.p'.Zt,y1.p'.ZD,y1.p'.ZE,y1.p'.ZF,y1.calls',y1.first'.ZL,y1.first'.Zt,y1.first'.ZM,e,f) h)))
   refine wO J 6 h fun A1 B1 h=>SU J rS B1 ?_
   refine wO J 2 h fun C1 D1 h=>ZR (Rz N A1 T.Zt _ D1) [] [(0,.sl 17)] (wa J 1 (Yn ?_))
   refine Xf h (fun h=>?_) fun h=>?_
   ·refine wO J 7 h fun G1 H1 h=>ZR (Rz N e T.Zt _ H1) [] [(0,.sl 7)] ?_
    refine ZU J 3 h (fun h=>wa J 2 (ZO [(17,.sl 8),(18,.sl 9),(19,.sl 10),(20,.sl 11),(21,.sl 12),(22,.sl 7)] (j30 (v,x,y,z,A,C,D,G,H,e,f) h))) fun h=>?_
    exact wO J 5 h fun I1 L1 h=>ZR (Wo N (⟨v,(⟨x,y,z,A⟩:Z3),C,(⟨D,G,H⟩:T9)⟩:Z7) T.Zt 7 _ L1) [] [(0,.bp 0 0),(1,.sl 8),(2,.sl 9),(3,.sl 10),(4,.sl 11),(5,.sl 12)] (wa J 1 (ZO [(17,.sl 18),(18,.sl 19),(19,.sl 20),(20,.sl 21),(21,.sl 22),(22,.sl 7)] (j30 (I1.l',I1.p'.Zt,I1.p'.ZD,I1.p'.ZE,I1.p'.ZF,I1.calls',I1.first'.ZL,I1.first'.Zt,I1.first'.ZM,e,f) h)))
   refine wO J 5 h fun M1 O1 h=>ZR (Wo N (⟨v,(⟨x,y,z,A⟩:Z3),C,(⟨D,G,H⟩:T9)⟩:Z7) T.Zt 10 _ O1) [] [(0,.bp 0 0),(1,.sl 8),(2,.sl 9),(3,.sl 10),(4,.sl 11),(5,.sl 12)] ?_
   refine wO J 6 h fun R1 S1 h=>ZR (Rz N e T.Zt _ S1) [] [(0,.sl 7)] ?_
   refine ZU J 3 h (fun h=>wa J 2 (ZO [(17,.sl 18),(18,.sl 19),(19,.sl 20),(20,.sl 21),(21,.sl 22),(22,.sl 7)] (j30 (M1.l',M1.p'.Zt,M1.p'.ZD,M1.p'.ZE,M1.p'.ZF,M1.calls',M1.first'.ZL,M1.first'.Zt,M1.first'.ZM,e,f) h))) fun h=>?_
   exact wO J 5 h fun U1 V1 h=>ZR (Wo N M1 T.Zt 7 _ V1) [] [(0,.bp 0 0),(1,.sl 18),(2,.sl 19),(3,.sl 20),(4,.sl 21),(5,.sl 22)] (wa J 1 (ZO [(17,.sl 23),(18,.sl 24),(19,.sl 25),(20,.sl 26),(21,.sl 27),(22,.sl 7)] (j30 (U1.l',U1.p'.Zt,U1.p'.ZD,U1.p'.ZE,U1.p'.ZF,U1.calls',U1.first'.ZL,U1.first'.Zt,U1.first'.ZM,e,f) h)))
  exact eB h (fun h=>wa J 6 (ZO [] (j29 (e.length:Int) h))) fun h=>wa J 2 (ZO [] (j29 g h))
 exact ZO [(8,.sl 1),(9,.sl 2),(10,.sl 3),(11,.sl 4),(12,.sl 5)] (ih N (c.l',c.p'.Zt,c.p'.ZD,c.p'.ZE,c.p'.ZF,c.calls',c.first'.ZL,c.first'.Zt,c.first'.ZM,0) h)
theorem Zu5:∀ (N:Nat) (c:Z7) (d:(List ZY)) (e:(List ByteArray)) (f:Int) (g:Int) (r:Z7) (h:U5 N c d e f g=some r),Fn Tryz.prog 56 ⟨8,[.B 0 0,.S 6,.S 7,.I f,.I g],((1,.sl Yw c.l')::Xa 2 3 4 c.p' [(6,.sl YA d),(7,.sl rS e)]),[(0,.box (WJ 1 2 3 4 5 c) 143),(5,.own rS c.calls' false)],13,.t [],((8,.sl Yw r.l')::Xa 9 10 11 r.p' []),[(5,.gone),(12,.own rS r.calls' false),(0,.box (WJ 8 9 10 11 12 r) 143)]⟩:=by
 intro N
 induction N with
 | zero=>intros;rename_i h;cases h
 | succ N ih=>intro c d e f g r h;exact Zu3 N (U5 N) ih c d e f g r h
theorem Zu4 (N:Nat) (c:Z7) (d:(List ZY)) (e:(List ByteArray)) (f:Int) (g:Int) (r:Z7) (h:z56 N c d e f g=some r):Fn Tryz.prog 56 ⟨8,[.B 0 0,.S 6,.S 7,.I f,.I g],((1,.sl Yw c.l')::Xa 2 3 4 c.p' [(6,.sl YA d),(7,.sl rS e)]),[(0,.box (WJ 1 2 3 4 5 c) 143),(5,.own rS c.calls' false)],13,.t [],((8,.sl Yw r.l')::Xa 9 10 11 r.p' []),[(5,.gone),(12,.own rS r.calls' false),(0,.box (WJ 8 9 10 11 12 r) 143)]⟩:=Zu5 N c d e f g r h
theorem ZlU (N:Nat) (c:Z7) (d:Yg) (r:Z7) (h:LJ N c d=some r) :
 Fn Tryz.prog 128 ⟨8,[.B 0 0,.a [.s d.Zt,.sl 6,.sl 7]],((1,.sl Yw c.l')::Xa 2 3 4 c.p' (WA 6 7 d [])),[(0,.box (WJ 1 2 3 4 5 c) 143),(5,.own rS c.calls' false)],13,.t [],((8,.sl Yw r.l')::Xa 9 10 11 r.p' []),[(5,.gone),(12,.own rS r.calls' false),(0,.box (WJ 8 9 10 11 12 r) 143)]⟩:=by
 refine Z5 func128 rfl (fun E F w=>?_)
 unfold LJ at h
 refine wa J 8 (Z4 (σ:=(List Z3) × ByteArray × (List ByteArray) × (List Yg) × (List ZY) × (List ByteArray) × ByteArray × ByteArray × Int) (fun st=>⟨[],[(0,.box [.sl 9,.s st.2.1,.sl 10,.sl 11,.sl 12,.sl 13,.s st.2.2.2.2.2.2.1,.s st.2.2.2.2.2.2.2.1,.I st.2.2.2.2.2.2.2.2] 143),(13,.own rS st.2.2.2.2.2.1 false)],((1,.sl Yw c.l')::Xa 2 3 4 c.p' (WA 6 7 d [(9,.sl Yw st.1),(10,.sl rS st.2.2.1),(11,.sl Xm st.2.2.2.1),(12,.sl YA st.2.2.2.2.1)])),14⟩) (fun st=>Dc st.1 st.2.1 st.2.2.1 st.2.2.2.1 st.2.2.2.2.1 st.2.2.2.2.2.1 st.2.2.2.2.2.2.1 st.2.2.2.2.2.2.2.1 st.2.2.2.2.2.2.2.2=some r) ?_ (fun j1=>?_))
 ·rintro ⟨e,f,g,i,j,k,l,m,o⟩ h
  unfold Dc at h
  cases h
  exact Y2 J func128 [(8,.sl 9),(9,.sl 10),(10,.sl 11),(11,.sl 12),(12,.sl 13)]
 refine wa J 1 (Ye (σ:=(List Z3) × ByteArray × (List ByteArray) × (List Yg) × (List ZY) × (List ByteArray) × ByteArray × ByteArray × Int × Int) (fun st=>⟨[(0,.B 0 0),(3,.B 8 0),(4,.I st.2.2.2.2.2.2.2.2.2)],[(0,.box [.sl 9,.s st.2.1,.sl 10,.sl 11,.sl 12,.sl 13,.s st.2.2.2.2.2.2.1,.s st.2.2.2.2.2.2.2.1,.I st.2.2.2.2.2.2.2.2.1] 143),(8,.box [.s d.Zt,.sl 6,.sl 7] 58),(13,.own rS st.2.2.2.2.2.1 false)],((1,.sl Yw c.l')::Xa 2 3 4 c.p' (WA 6 7 d [(9,.sl Yw st.1),(10,.sl rS st.2.2.1),(11,.sl Xm st.2.2.2.1),(12,.sl YA st.2.2.2.2.1)])),14⟩) (fun n st=>Uw N d n st.1 st.2.1 st.2.2.1 st.2.2.2.1 st.2.2.2.2.1 st.2.2.2.2.2.1 st.2.2.2.2.2.2.1 st.2.2.2.2.2.2.2.1 st.2.2.2.2.2.2.2.2.1 st.2.2.2.2.2.2.2.2.2) (r:=r) (fun _=>rfl) ?_ (fun ih=>?_))
 ·intro n12 ih15
  rintro ⟨p,q,u,v,x,y,z,A,C,D⟩ h
  unfold Uw at h
  refine ZU J 9 h (fun h=>wa J 2 (ZO [] (j1 (p,q,u,v,x,y,z,A,C) h))) fun h=>?_
  refine wO J 9 h fun G H h=>Ya J XK H (wa J 9 (Z4 (σ:=(List Z3) × ByteArray × (List ByteArray) × (List Yg) × (List ZY) × (List ByteArray) × ByteArray × ByteArray × Int) (fun st=>(ZhH st.2.1 st.2.2.2.2.2.2.1 st.2.2.2.2.2.2.2.1 st.2.2.2.2.2.2.2.2 d.Zt G st.2.2.2.2.2.1 c.l' c.p' d st.1 st.2.2.1 st.2.2.2.1 st.2.2.2.2.1 [(0,.B 0 0),(3,.B 8 0),(4,.I D),(5,.B 15 0)])) (fun st=>LL N D (Uw N d n12) G st.1 st.2.1 st.2.2.1 st.2.2.2.1 st.2.2.2.2.1 st.2.2.2.2.2.1 st.2.2.2.2.2.2.1 st.2.2.2.2.2.2.2.1 st.2.2.2.2.2.2.2.2=some r) ?_ (fun j24=>?_)))
  ·rintro ⟨R,T,U,X,Y,Z,a0,b0,c0⟩ h
   unfold LL at h
   refine wa J 13 (Z4 (σ:=Int × Int) (fun st=>(ZhH T a0 b0 c0 d.Zt G Z c.l' c.p' d R U X Y [(0,.B 0 0),(3,.B 8 0),(4,.I D),(5,.B 15 0),(7,.I st.1),(8,.I st.2)])) (fun st=>LK N D (Uw N d n12) G R T U X Y Z a0 b0 c0 st.1 st.2=some r) ?_ (fun j26=>?_))
   ·rintro ⟨e0,g0⟩ h
    unfold LK at h
    refine wB J 8 h (fun h=>?_) fun h=>?_
    ·exact wO J 21 h fun i0 j0 h=>ZR (Wo N (⟨R,(⟨T,U,X,Y⟩:Z3),Z,(⟨a0,b0,c0⟩:T9)⟩:Z7) G.Zt 2 _ j0) [] [(0,.bp 0 0),(1,.sl 16),(2,.sl 17),(3,.sl 18),(4,.sl 19),(5,.sl 20)] (wa J 7 (ZO [(9,.sl 21),(10,.sl 22),(11,.sl 23),(12,.sl 24),(13,.sl 25)] (ih15 (i0.l',i0.p'.Zt,i0.p'.ZD,i0.p'.ZE,i0.p'.ZF,i0.calls',i0.first'.ZL,i0.first'.Zt,i0.first'.ZM,(ZN (D+1))) h)))
    refine wB J 7 h (fun h=>?_) fun h=>?_
    ·exact wO J 14 h fun k0 l0 h=>ZR (Wo N (⟨R,(⟨T,U,X,Y⟩:Z3),Z,(⟨a0,b0,c0⟩:T9)⟩:Z7) G.Zt 2 _ l0) [] [(0,.bp 0 0),(1,.sl 16),(2,.sl 17),(3,.sl 18),(4,.sl 19),(5,.sl 20)] (wa J 7 (ZO [(9,.sl 21),(10,.sl 22),(11,.sl 23),(12,.sl 24),(13,.sl 25)] (ih15 (k0.l',k0.p'.Zt,k0.p'.ZD,k0.p'.ZE,k0.p'.ZF,k0.calls',k0.first'.ZL,k0.first'.Zt,k0.first'.ZM,(ZN (D+1))) h)))
    refine ZU J 9 h (fun h=>wa J 8 (ZO [(9,.sl 16),(10,.sl 17),(11,.sl 18),(12,.sl 19),(13,.sl 20)] (ih15 (R,T,U,X,Y,Z,a0,b0,c0,(ZN (D+1))) h))) fun h=>?_
    exact wO J 5 h fun m0 o0 h=>ZR (Wo N (⟨R,(⟨T,U,X,Y⟩:Z3),Z,(⟨a0,b0,c0⟩:T9)⟩:Z7) G.Zt 2 _ o0) [] [(0,.bp 0 0),(1,.sl 16),(2,.sl 17),(3,.sl 18),(4,.sl 19),(5,.sl 20)] (wa J 7 (ZO [(9,.sl 21),(10,.sl 22),(11,.sl 23),(12,.sl 24),(13,.sl 25)] (ih15 (m0.l',m0.p'.Zt,m0.p'.ZD,m0.p'.ZE,m0.p'.ZF,m0.calls',m0.first'.ZL,m0.first'.Zt,m0.first'.ZM,(ZN (D+1))) h)))
   exact eB h (fun h=>wa J 5 (ZO [] (j26 (0,40) h))) fun h=>wa J 2 (ZO [] (j26 ((-1000),1000) h))
  refine wa J 1 (Ye (σ:=(List Z3) × ByteArray × (List ByteArray) × (List Yg) × (List ZY) × (List ByteArray) × ByteArray × ByteArray × Int × Int) (fun st=>(ZhH st.2.1 st.2.2.2.2.2.2.1 st.2.2.2.2.2.2.2.1 st.2.2.2.2.2.2.2.2.1 d.Zt G st.2.2.2.2.2.1 c.l' c.p' d st.1 st.2.2.1 st.2.2.2.1 st.2.2.2.2.1 [(0,.B 0 0),(3,.B 8 0),(4,.I D),(5,.B 15 0),(6,.I st.2.2.2.2.2.2.2.2.2)])) (fun n st=>R8 N d D (Uw N d n12) G n st.1 st.2.1 st.2.2.1 st.2.2.2.1 st.2.2.2.2.1 st.2.2.2.2.2.1 st.2.2.2.2.2.2.1 st.2.2.2.2.2.2.2.1 st.2.2.2.2.2.2.2.2.1 st.2.2.2.2.2.2.2.2.2) (r:=r) (fun _=>rfl) ?_ (fun ih=>?_))
  ·intro n14 ih27
   rintro ⟨p0,q0,s0,t0,u0,v0,x0,y0,z0,A0⟩ h
   unfold R8 at h
   refine ZU J 7 h (fun h=>wa J 2 (ZO [] (j24 (p0,q0,s0,t0,u0,v0,x0,y0,z0) h))) fun h=>?_
   refine wO J 9 h fun B0 C0 h=>Ya J XK C0 (wa J 5 (Yn ?_))
   refine Xf h (fun h=>wa J 8 (ZO [] (ih27 (p0,q0,s0,t0,u0,v0,x0,y0,z0,(ZN (A0+1))) h))) fun h=>?_
   exact wO J 5 h fun D0 G0 h=>ZR (Wo N (⟨p0,(⟨q0,s0,t0,u0⟩:Z3),v0,(⟨x0,y0,z0⟩:T9)⟩:Z7) G.Zt 9 _ G0) [] [(0,.bp 0 0),(1,.sl 16),(2,.sl 17),(3,.sl 18),(4,.sl 19),(5,.sl 20)] (wa J 7 (ZO [(16,.sl 22),(17,.sl 23),(18,.sl 24),(19,.sl 25),(20,.sl 26)] (ih27 (D0.l',D0.p'.Zt,D0.p'.ZD,D0.p'.ZE,D0.p'.ZF,D0.calls',D0.first'.ZL,D0.first'.Zt,D0.first'.ZM,(ZN (A0+1))) h)))
  exact ZO [(16,.sl 9),(17,.sl 10),(18,.sl 11),(19,.sl 12),(20,.sl 13)] (ih N (p,q,u,v,x,y,z,A,C,0) h)
 exact ZO [(9,.sl 1),(10,.sl 2),(11,.sl 3),(12,.sl 4),(13,.sl 5)] (ih N (c.l',c.p'.Zt,c.p'.ZD,c.p'.ZE,c.p'.ZF,c.calls',c.first'.ZL,c.first'.Zt,c.first'.ZM,0) h)
theorem Ztn (N:Nat) (c:Z7) (d:Yg) (e:Wu) (r:Z7) (h:Dd N c d e=some r) :
 Fn Tryz.prog 129 ⟨8,[.B 0 0,.a [.s d.Zt,.sl 6,.sl 7],.a [.I e.Zw.Zq,.s e.Zw.Zv,.s e.Zw.Field,.I e.Zw.N,.s e.Op,.I e.Zx.Zq,.s e.Zx.Zv,.s e.Zx.Field,.I e.Zx.N]],((1,.sl Yw c.l')::Xa 2 3 4 c.p' (WA 6 7 d [])),[(0,.box (WJ 1 2 3 4 5 c) 143),(5,.own rS c.calls' false)],13,.t [],((8,.sl Yw r.l')::Xa 9 10 11 r.p' []),[(5,.gone),(12,.own rS r.calls' false),(0,.box (WJ 8 9 10 11 12 r) 143)]⟩:=by
 refine Z5 func129 rfl (fun E F w=>?_)
 unfold Dd at h
 refine wa J 25 (Z4 (σ:=(List Z3) × ByteArray × (List ByteArray) × (List Yg) × (List ZY) × (List ByteArray) × ByteArray × ByteArray × Int × Int × Bool) (fun st=>⟨[(0,.B 0 0),(4,.B 8 0),(5,.B 9 0),(6,.I st.2.2.2.2.2.2.2.2.2.1),(7,.O st.2.2.2.2.2.2.2.2.2.2)],[(0,.box [.sl 11,.s st.2.1,.sl 12,.sl 13,.sl 14,.sl 15,.s st.2.2.2.2.2.2.1,.s st.2.2.2.2.2.2.2.1,.I st.2.2.2.2.2.2.2.2.1] 143),(8,.box [.s d.Zt,.sl 6,.sl 7] 58),(9,.box [.I e.Zw.Zq,.s e.Zw.Zv,.s e.Zw.Field,.I e.Zw.N,.s e.Op,.I e.Zx.Zq,.s e.Zx.Zv,.s e.Zx.Field,.I e.Zx.N] 95),(15,.own rS st.2.2.2.2.2.1 false)],((1,.sl Yw c.l')::Xa 2 3 4 c.p' (WA 6 7 d [(11,.sl Yw st.1),(12,.sl rS st.2.2.1),(13,.sl Xm st.2.2.2.1),(14,.sl YA st.2.2.2.2.1)])),16⟩) (fun st=>De N d e st.1 st.2.1 st.2.2.1 st.2.2.2.1 st.2.2.2.2.1 st.2.2.2.2.2.1 st.2.2.2.2.2.2.1 st.2.2.2.2.2.2.2.1 st.2.2.2.2.2.2.2.2.1 st.2.2.2.2.2.2.2.2.2.1 st.2.2.2.2.2.2.2.2.2.2=some r) ?_ (fun j1=>?_))
 ·rintro ⟨f,g,i,j,k,l,m,o,p,q,u⟩ h
  unfold De at h
  refine wa J 5 (Z4 (σ:=(List Z3) × ByteArray × (List ByteArray) × (List Yg) × (List ZY) × (List ByteArray) × ByteArray × ByteArray × Int) (fun st=>⟨[(0,.B 0 0),(4,.B 8 0),(5,.B 9 0),(6,.I q)],[(0,.box [.sl 16,.s st.2.1,.sl 17,.sl 18,.sl 19,.sl 20,.s st.2.2.2.2.2.2.1,.s st.2.2.2.2.2.2.2.1,.I st.2.2.2.2.2.2.2.2] 143),(8,.box [.s d.Zt,.sl 6,.sl 7] 58),(9,.box [.I e.Zw.Zq,.s e.Zw.Zv,.s e.Zw.Field,.I e.Zw.N,.s e.Op,.I e.Zx.Zq,.s e.Zx.Zv,.s e.Zx.Field,.I e.Zx.N] 95),(20,.own rS st.2.2.2.2.2.1 false)],((1,.sl Yw c.l')::Xa 2 3 4 c.p' (WA 6 7 d [(16,.sl Yw st.1),(17,.sl rS st.2.2.1),(18,.sl Xm st.2.2.2.1),(19,.sl YA st.2.2.2.2.1)])),21⟩) (fun st=>Pw N d e q st.1 st.2.1 st.2.2.1 st.2.2.2.1 st.2.2.2.2.1 st.2.2.2.2.2.1 st.2.2.2.2.2.2.1 st.2.2.2.2.2.2.2.1 st.2.2.2.2.2.2.2.2=some r) ?_ (fun j8=>?_))
  ·rintro ⟨v,x,y,z,A,C,D,G,H⟩ h
   unfold Pw at h
   refine ZU J 5 h (fun h=>oi h▸wr J 23 func129 [(8,.sl 16),(9,.sl 17),(10,.sl 18),(11,.sl 19),(12,.sl 20)]) fun h=>?_
   refine wB J 3 h (fun h=>?_) fun h=>?_
   ·refine wO J 23 h fun R T h=>ZR (Wo N (⟨v,(⟨x,y,z,A⟩:Z3),C,(⟨D,G,H⟩:T9)⟩:Z7) d.Zt 11 _ T) [] [(0,.bp 0 0),(1,.sl 16),(2,.sl 17),(3,.sl 18),(4,.sl 19),(5,.sl 20)] ?_
    exact oi h▸wr J 1 func129 [(8,.sl 21),(9,.sl 22),(10,.sl 23),(11,.sl 24),(12,.sl 25)]
   refine wB J 5 h (fun h=>?_) fun h=>?_
   ·refine wO J 18 h fun U X h=>ZR (Wo N (⟨v,(⟨x,y,z,A⟩:Z3),C,(⟨D,G,H⟩:T9)⟩:Z7) d.Zt 11 _ X) [] [(0,.bp 0 0),(1,.sl 16),(2,.sl 17),(3,.sl 18),(4,.sl 19),(5,.sl 20)] ?_
    exact oi h▸wr J 1 func129 [(8,.sl 21),(9,.sl 22),(10,.sl 23),(11,.sl 24),(12,.sl 25)]
   refine wB J 6 h (fun h=>?_) fun h=>?_
   ·refine wO J 12 h fun Y Z h=>ZR (Wo N (⟨v,(⟨x,y,z,A⟩:Z3),C,(⟨D,G,H⟩:T9)⟩:Z7) d.Zt 11 _ Z) [] [(0,.bp 0 0),(1,.sl 16),(2,.sl 17),(3,.sl 18),(4,.sl 19),(5,.sl 20)] ?_
    exact oi h▸wr J 1 func129 [(8,.sl 21),(9,.sl 22),(10,.sl 23),(11,.sl 24),(12,.sl 25)]
   refine ZU J 7 h (fun h=>oi h▸wr J 2 func129 [(8,.sl 16),(9,.sl 17),(10,.sl 18),(11,.sl 19),(12,.sl 20)]) fun h=>?_
   refine wO J 5 h fun a0 b0 h=>ZR (Wo N (⟨v,(⟨x,y,z,A⟩:Z3),C,(⟨D,G,H⟩:T9)⟩:Z7) d.Zt 11 _ b0) [] [(0,.bp 0 0),(1,.sl 16),(2,.sl 17),(3,.sl 18),(4,.sl 19),(5,.sl 20)] ?_
   exact oi h▸wr J 1 func129 [(8,.sl 21),(9,.sl 22),(10,.sl 23),(11,.sl 24),(12,.sl 25)]
  refine Xf h (fun h=>wa J 2 (ZO [(16,.sl 11),(17,.sl 12),(18,.sl 13),(19,.sl 14),(20,.sl 15)] (j8 (f,g,i,j,k,l,m,o,p) h))) fun h=>?_
  exact wO J 5 h fun c0 e0 h=>ZR (Wo N (⟨f,(⟨g,i,j,k⟩:Z3),l,(⟨m,o,p⟩:T9)⟩:Z7) d.Zt 11 _ e0) [] [(0,.bp 0 0),(1,.sl 11),(2,.sl 12),(3,.sl 13),(4,.sl 14),(5,.sl 15)] (wa J 1 (ZO [] (j8 (c0.l',c0.p'.Zt,c0.p'.ZD,c0.p'.ZE,c0.p'.ZF,c0.calls',c0.first'.ZL,c0.first'.Zt,c0.first'.ZM) h)))
 refine wa J 1 (Ye (σ:=(List Z3) × ByteArray × (List ByteArray) × (List Yg) × (List ZY) × (List ByteArray) × ByteArray × ByteArray × Int × Int × Bool × Int) (fun st=>⟨[(0,.B 0 0),(4,.B 8 0),(5,.B 9 0),(6,.I st.2.2.2.2.2.2.2.2.2.1),(7,.O st.2.2.2.2.2.2.2.2.2.2.1),(8,.B 10 0),(9,.I st.2.2.2.2.2.2.2.2.2.2.2)],[(0,.box [.sl 11,.s st.2.1,.sl 12,.sl 13,.sl 14,.sl 15,.s st.2.2.2.2.2.2.1,.s st.2.2.2.2.2.2.2.1,.I st.2.2.2.2.2.2.2.2.1] 143),(8,.box [.s d.Zt,.sl 6,.sl 7] 58),(9,.box [.I e.Zw.Zq,.s e.Zw.Zv,.s e.Zw.Field,.I e.Zw.N,.s e.Op,.I e.Zx.Zq,.s e.Zx.Zv,.s e.Zx.Field,.I e.Zx.N] 95),(10,.box [.I e.Zw.Zq,.s e.Zw.Zv,.s e.Zw.Field,.I e.Zw.N,.I e.Zx.Zq,.s e.Zx.Zv,.s e.Zx.Field,.I e.Zx.N] 266),(15,.own rS st.2.2.2.2.2.1 false)],((1,.sl Yw c.l')::Xa 2 3 4 c.p' (WA 6 7 d [(11,.sl Yw st.1),(12,.sl rS st.2.2.1),(13,.sl Xm st.2.2.2.1),(14,.sl YA st.2.2.2.2.1)])),16⟩) (fun n st=>U2 N d e n st.1 st.2.1 st.2.2.1 st.2.2.2.1 st.2.2.2.2.1 st.2.2.2.2.2.1 st.2.2.2.2.2.2.1 st.2.2.2.2.2.2.2.1 st.2.2.2.2.2.2.2.2.1 st.2.2.2.2.2.2.2.2.2.1 st.2.2.2.2.2.2.2.2.2.2.1 st.2.2.2.2.2.2.2.2.2.2.2) (r:=r) (fun _=>rfl) ?_ (fun ih=>?_))
 ·intro n2 ih9
  rintro ⟨g0,i0,j0,k0,l0,m0,o0,p0,q0,s0,t0,u0⟩ h
  unfold U2 at h
  refine ZU J 6 h (fun h=>wa J 2 (ZO [] (j1 (g0,i0,j0,k0,l0,m0,o0,p0,q0,s0,t0) h))) fun h=>?_
  refine wa J 7 (Z4 (σ:=Int × ByteArray × ByteArray × Int) (fun st=>⟨[(0,.B 0 0),(4,.B 8 0),(5,.B 9 0),(6,.I s0),(7,.O t0),(8,.B 10 0),(9,.I u0),(10,.B 16 0)],[(0,.box [.sl 11,.s i0,.sl 12,.sl 13,.sl 14,.sl 15,.s o0,.s p0,.I q0] 143),(8,.box [.s d.Zt,.sl 6,.sl 7] 58),(9,.box [.I e.Zw.Zq,.s e.Zw.Zv,.s e.Zw.Field,.I e.Zw.N,.s e.Op,.I e.Zx.Zq,.s e.Zx.Zv,.s e.Zx.Field,.I e.Zx.N] 95),(10,.box [.I e.Zw.Zq,.s e.Zw.Zv,.s e.Zw.Field,.I e.Zw.N,.I e.Zx.Zq,.s e.Zx.Zv,.s e.Zx.Field,.I e.Zx.N] 266),(15,.own rS m0 false),(16,.box [.I st.1,.s st.2.1,.s st.2.2.1,.I st.2.2.2] 93)],((1,.sl Yw c.l')::Xa 2 3 4 c.p' (WA 6 7 d [(11,.sl Yw g0),(12,.sl rS j0),(13,.sl Xm k0),(14,.sl YA l0)])),17⟩) (fun st=>LM N d g0 i0 j0 k0 l0 m0 o0 p0 q0 s0 t0 u0 (U2 N d e n2) st.1 st.2.1 st.2.2.1 st.2.2.2=some r) ?_ (fun j13=>?_))
  ·rintro ⟨v0,x0,y0,z0⟩ h
   unfold LM at h
   refine wB J 7 h (fun h=>wa J 7 (ZO [] (ih9 (g0,i0,j0,k0,l0,m0,o0,p0,q0,s0,t0,(ZN (u0+1))) h))) fun h=>?_
   refine wO J 10 h fun A0 B0 h=>ZR (Zub N (⟨i0,j0,k0,l0⟩:Z3) d (⟨v0,x0,y0,z0⟩:Yq) _ B0) [] [(0,.sl 12),(1,.sl 13),(2,.sl 14),(3,.sl 6),(4,.sl 7)] (wa J 6 (Yn ?_))
   refine wB J 7 h (fun h=>?_) fun h=>?_
   ·exact wO J 5 h fun C0 D0 h=>ZR (Wo N (⟨g0,(⟨i0,j0,k0,l0⟩:Z3),m0,(⟨o0,p0,q0⟩:T9)⟩:Z7) d.Zt 10 _ D0) [] [(0,.bp 0 0),(1,.sl 11),(2,.sl 12),(3,.sl 13),(4,.sl 14),(5,.sl 15)] (wa J 8 (ZO [(11,.sl 18),(12,.sl 19),(13,.sl 20),(14,.sl 21),(15,.sl 22)] (ih9 (C0.l',C0.p'.Zt,C0.p'.ZD,C0.p'.ZE,C0.p'.ZF,C0.calls',C0.first'.ZL,C0.first'.Zt,C0.first'.ZM,s0,t0,(ZN (u0+1))) h)))
   refine wa J 7 (Z4 (σ:=Bool) (fun st=>⟨[(0,.B 0 0),(4,.B 8 0),(5,.B 9 0),(6,.I s0),(7,.O t0),(8,.B 10 0),(9,.I u0),(10,.B 16 0),(11,.B 17 0),(45,.O st)],[(0,.box [.sl 11,.s i0,.sl 12,.sl 13,.sl 14,.sl 15,.s o0,.s p0,.I q0] 143),(8,.box [.s d.Zt,.sl 6,.sl 7] 58),(9,.box [.I e.Zw.Zq,.s e.Zw.Zv,.s e.Zw.Field,.I e.Zw.N,.s e.Op,.I e.Zx.Zq,.s e.Zx.Zv,.s e.Zx.Field,.I e.Zx.N] 95),(10,.box [.I e.Zw.Zq,.s e.Zw.Zv,.s e.Zw.Field,.I e.Zw.N,.I e.Zx.Zq,.s e.Zx.Zv,.s e.Zx.Field,.I e.Zx.N] 266),(15,.own rS m0 false),(16,.box [.I v0,.s x0,.s y0,.I z0] 93),(17,.box (XZ A0.1) 69)],((1,.sl Yw c.l')::Xa 2 3 4 c.p' (WA 6 7 d [(11,.sl Yw g0),(12,.sl rS j0),(13,.sl Xm k0),(14,.sl YA l0)])),18⟩) (fun st=>Df g0 i0 j0 k0 l0 m0 o0 p0 q0 s0 t0 u0 (U2 N d e n2) v0 A0 st=some r) ?_ (fun j14=>?_))
   ·intro G0 h
    unfold Df at h
    refine eB h (fun h=>wa J 11 (ZO [] (ih9 (g0,i0,j0,k0,l0,m0,o0,p0,q0,s0,true,(ZN (u0+1))) h))) fun h=>?_
    refine ZU J 7 h (fun h=>wa J 16 (ZO [] (ih9 (g0,i0,j0,k0,l0,m0,o0,p0,q0,s0,t0,(ZN (u0+1))) h))) fun h=>?_
    exact wB J 7 h (fun h=>wa J 13 (ZO [] (ih9 (g0,i0,j0,k0,l0,m0,o0,p0,q0,(ZN (s0+1)),t0,(ZN (u0+1))) h))) fun h=>wa J 9 (ZO [] (ih9 (g0,i0,j0,k0,l0,m0,o0,p0,q0,s0,t0,(ZN (u0+1))) h))
   exact eB h (fun h=>wa J 7 (ZO [] (j14 (A0.1.Zu.Zq != 2) h))) fun h=>wa J 7 (ZO [] (j14 false h))
  obtain ⟨K,h⟩|⟨K,h⟩:=oc h
  ·exact XI 0 (by exact eq_of_beq K) (wa J 4 (ZO [] (j13 (e.Zw.Zq,e.Zw.Zv,e.Zw.Field,e.Zw.N) h)))
  obtain ⟨K,h⟩|⟨K,h⟩:=oc h
  ·exact XI 1 (by exact eq_of_beq K) (wa J 4 (ZO [] (j13 (e.Zx.Zq,e.Zx.Zv,e.Zx.Field,e.Zx.N) h)))
  cases h
 exact ZO [(11,.sl 1),(12,.sl 2),(13,.sl 3),(14,.sl 4),(15,.sl 5)] (ih N (c.l',c.p'.Zt,c.p'.ZD,c.p'.ZE,c.p'.ZF,c.calls',c.first'.ZL,c.first'.Zt,c.first'.ZM,0,false,0) h)
theorem Zu2 (N:Nat) (c:Z7) (r:Z7) (h:Bj N c=some r) :
 Fn Tryz.prog 55 ⟨6,[.B 0 0],((1,.sl Yw c.l')::Xa 2 3 4 c.p' []),[(0,.box (WJ 1 2 3 4 5 c) 143),(5,.own rS c.calls' false)],11,.t [],((6,.sl Yw r.l')::Xa 7 8 9 r.p' []),[(5,.gone),(10,.own rS r.calls' false),(0,.box (WJ 6 7 8 9 10 r) 143)]⟩:=by
 refine Z5 func55 rfl (fun E F w=>?_)
 unfold Bj at h
 refine wa J 9 (Z4 (σ:=(List Z3) × ByteArray × (List ByteArray) × (List Yg) × (List ZY) × (List ByteArray) × ByteArray × ByteArray × Int) (fun st=>⟨[(0,.B 0 0)],[(0,.box [.sl 6,.s st.2.1,.sl 7,.sl 8,.sl 9,.sl 10,.s st.2.2.2.2.2.2.1,.s st.2.2.2.2.2.2.2.1,.I st.2.2.2.2.2.2.2.2] 143),(10,.own rS st.2.2.2.2.2.1 false)],((1,.sl Yw c.l')::Xa 2 3 4 c.p' [(6,.sl Yw st.1),(7,.sl rS st.2.2.1),(8,.sl Xm st.2.2.2.1),(9,.sl YA st.2.2.2.2.1)]),11⟩) (fun st=>Mo N st.1 st.2.1 st.2.2.1 st.2.2.2.1 st.2.2.2.2.1 st.2.2.2.2.2.1 st.2.2.2.2.2.2.1 st.2.2.2.2.2.2.2.1 st.2.2.2.2.2.2.2.2=some r) ?_ (fun j1=>?_))
 ·rintro ⟨d,e,f,g,i,j,k,l,m⟩ h
  unfold Mo at h
  refine wa J 4 (Z4 (σ:=(List Z3) × ByteArray × (List ByteArray) × (List Yg) × (List ZY) × (List ByteArray) × ByteArray × ByteArray × Int) (fun st=>(Zm4 st.2.1 st.2.2.2.2.2.2.1 st.2.2.2.2.2.2.2.1 st.2.2.2.2.2.2.2.2 st.2.2.2.2.2.1 c.l' c.p' st.1 st.2.2.1 st.2.2.2.1 st.2.2.2.2.1 [])) (fun st=>Bl st.1 st.2.1 st.2.2.1 st.2.2.2.1 st.2.2.2.2.1 st.2.2.2.2.2.1 st.2.2.2.2.2.2.1 st.2.2.2.2.2.2.2.1 st.2.2.2.2.2.2.2.2=some r) ?_ (fun j3=>?_))
  ·rintro ⟨o,p,q,u,v,x,y,z,A⟩ h
   unfold Bl at h
   cases h
   exact Y2 J func55 [(6,.sl 11),(7,.sl 12),(8,.sl 13),(9,.sl 14),(10,.sl 15)]
  refine wa J 1 (Ye (σ:=(List Z3) × ByteArray × (List ByteArray) × (List Yg) × (List ZY) × (List ByteArray) × ByteArray × ByteArray × Int × Int) (fun st=>(Zm4 st.2.1 st.2.2.2.2.2.2.1 st.2.2.2.2.2.2.2.1 st.2.2.2.2.2.2.2.2.1 st.2.2.2.2.2.1 c.l' c.p' st.1 st.2.2.1 st.2.2.2.1 st.2.2.2.2.1 [(0,.B 0 0),(5,.I st.2.2.2.2.2.2.2.2.2)])) (fun n st=>TJ N n st.1 st.2.1 st.2.2.1 st.2.2.2.1 st.2.2.2.2.1 st.2.2.2.2.2.1 st.2.2.2.2.2.2.1 st.2.2.2.2.2.2.2.1 st.2.2.2.2.2.2.2.2.1 st.2.2.2.2.2.2.2.2.2) (r:=r) (fun _=>rfl) ?_ (fun ih=>?_))
  ·intro n13 ih14
   rintro ⟨C,D,G,H,R,T,U,X,Y,Z⟩ h
   unfold TJ at h
   refine ZU J 12 h (fun h=>wa J 2 (ZO [] (j3 (C,D,G,H,R,T,U,X,Y) h))) fun h=>?_
   refine wO J 12 h fun a0 b0 h=>Ya J VJ b0 (wa J 8 (Z4 (σ:=(List Z3) × ByteArray × (List ByteArray) × (List Yg) × (List ZY) × (List ByteArray) × ByteArray × ByteArray × Int) (fun st=>⟨[(0,.B 0 0),(5,.I Z)],[(0,.box [.sl 20,.s st.2.1,.sl 21,.sl 22,.sl 23,.sl 24,.s st.2.2.2.2.2.2.1,.s st.2.2.2.2.2.2.2.1,.I st.2.2.2.2.2.2.2.2] 143),(24,.own rS st.2.2.2.2.2.1 false)],((1,.sl Yw c.l')::Xa 2 3 4 c.p' [(20,.sl Yw st.1),(21,.sl rS st.2.2.1),(22,.sl Xm st.2.2.2.1),(23,.sl YA st.2.2.2.2.1)]),25⟩) (fun st=>Bm Z (TJ N n13) st.1 st.2.1 st.2.2.1 st.2.2.2.1 st.2.2.2.2.1 st.2.2.2.2.2.1 st.2.2.2.2.2.2.1 st.2.2.2.2.2.2.2.1 st.2.2.2.2.2.2.2.2=some r) ?_ (fun j21=>?_)))
   ·rintro ⟨c0,e0,g0,i0,j0,k0,l0,m0,o0⟩ h
    unfold Bm at h
    exact wa J 6 (ZO [(11,.sl 20),(12,.sl 21),(13,.sl 22),(14,.sl 23),(15,.sl 24)] (ih14 (c0,e0,g0,i0,j0,k0,l0,m0,o0,(ZN (Z+1))) h))
   refine wa J 1 (Ye (σ:=(List Z3) × ByteArray × (List ByteArray) × (List Yg) × (List ZY) × (List ByteArray) × ByteArray × ByteArray × Int × Int) (fun st=>⟨[(0,.B 0 0),(5,.I Z),(6,.B 19 0),(7,.I st.2.2.2.2.2.2.2.2.2)],[(0,.box [.sl 20,.s st.2.1,.sl 21,.sl 22,.sl 23,.sl 24,.s st.2.2.2.2.2.2.1,.s st.2.2.2.2.2.2.2.1,.I st.2.2.2.2.2.2.2.2.1] 143),(19,.box [.s a0.Zt,.sl 17,.sl 18] 58),(24,.own rS st.2.2.2.2.2.1 false)],((1,.sl Yw c.l')::Xa 2 3 4 c.p' (WA 17 18 a0 [(20,.sl Yw st.1),(21,.sl rS st.2.2.1),(22,.sl Xm st.2.2.2.1),(23,.sl YA st.2.2.2.2.1)])),25⟩) (fun n st=>Mp N Z (TJ N n13) a0 n st.1 st.2.1 st.2.2.1 st.2.2.2.1 st.2.2.2.2.1 st.2.2.2.2.2.1 st.2.2.2.2.2.2.1 st.2.2.2.2.2.2.2.1 st.2.2.2.2.2.2.2.2.1 st.2.2.2.2.2.2.2.2.2) (r:=r) (fun _=>rfl) ?_ (fun ih=>?_))
   ·intro n15 ih23
    rintro ⟨p0,q0,s0,t0,u0,v0,x0,y0,z0,A0⟩ h
    unfold Mp at h
    refine ZU J 9 h (fun h=>wa J 2 (ZO [] (j21 (p0,q0,s0,t0,u0,v0,x0,y0,z0) h))) fun h=>?_
    refine wO J 10 h fun B0 C0 h=>Ya J Q2 C0 ?_
    exact wO J 1 h fun D0 G0 h=>ZR (Ztn N (⟨p0,(⟨q0,s0,t0,u0⟩:Z3),v0,(⟨x0,y0,z0⟩:T9)⟩:Z7) a0 B0 _ G0) [] [(0,.bp 0 0),(1,.sl 20),(2,.sl 21),(3,.sl 22),(4,.sl 23),(5,.sl 24),(6,.sl 17),(7,.sl 18)] (Yn (wa J 6 (ZO [(20,.sl 26),(21,.sl 27),(22,.sl 28),(23,.sl 29),(24,.sl 30)] (ih23 (D0.l',D0.p'.Zt,D0.p'.ZD,D0.p'.ZE,D0.p'.ZF,D0.calls',D0.first'.ZL,D0.first'.Zt,D0.first'.ZM,(ZN (A0+1))) h))))
   exact ZO [(20,.sl 11),(21,.sl 12),(22,.sl 13),(23,.sl 14),(24,.sl 15)] (ih N (C,D,G,H,R,T,U,X,Y,0) h)
  exact ZO [(11,.sl 6),(12,.sl 7),(13,.sl 8),(14,.sl 9),(15,.sl 10)] (ih N (d,e,f,g,i,j,k,l,m,0) h)
 refine wa J 1 (Ye (σ:=(List Z3) × ByteArray × (List ByteArray) × (List Yg) × (List ZY) × (List ByteArray) × ByteArray × ByteArray × Int × (List ByteArray) × Int) (fun st=>⟨[(0,.B 0 0),(2,.S 11),(3,.I st.2.2.2.2.2.2.2.2.2.2)],[(0,.box [.sl 6,.s st.2.1,.sl 7,.sl 8,.sl 9,.sl 10,.s st.2.2.2.2.2.2.1,.s st.2.2.2.2.2.2.2.1,.I st.2.2.2.2.2.2.2.2.1] 143),(10,.own rS st.2.2.2.2.2.1 false),(11,.own rS st.2.2.2.2.2.2.2.2.2.1 true)],((1,.sl Yw c.l')::Xa 2 3 4 c.p' [(6,.sl Yw st.1),(7,.sl rS st.2.2.1),(8,.sl Xm st.2.2.2.1),(9,.sl YA st.2.2.2.2.1)]),12⟩) (fun n st=>Qr N n st.1 st.2.1 st.2.2.1 st.2.2.2.1 st.2.2.2.2.1 st.2.2.2.2.2.1 st.2.2.2.2.2.2.1 st.2.2.2.2.2.2.2.1 st.2.2.2.2.2.2.2.2.1 st.2.2.2.2.2.2.2.2.2.1 st.2.2.2.2.2.2.2.2.2.2) (r:=r) (fun _=>rfl) ?_ (fun ih=>?_))
 ·intro n16 ih24
  rintro ⟨H0,I0,L0,M0,O0,R0,S0,U0,V0,X0,Y0⟩ h
  unfold Qr at h
  refine ZU J 12 h (fun h=>wa J 2 (ZO [] (j1 (H0,I0,L0,M0,O0,R0,S0,U0,V0) h))) fun h=>?_
  refine wO J 12 h fun Z0 a1 h=>Ya J VJ a1 ?_
  refine wO J 10 h fun b1 c1 h=>XA (Rz N X0 Z0.Zt _ c1) [] [(0,.sl 11)] [11] (.inr ⟨rfl,trivial⟩) ?_
  refine ZU J 2 h (fun h=>wa J 7 (Yy J [] oS ([Z0.Zt]:List ByteArray) ?_)) fun h=>?_
  ·have ⟨e1,g1,h⟩:=ob h
   refine YR J rS g1 ?_
   exact wO J 5 h fun i1 k1 h=>ZR (ZlU N (⟨H0,(⟨I0,L0,M0,O0⟩:Z3),R0,(⟨S0,U0,V0⟩:T9)⟩:Z7) Z0 _ k1) [] [(0,.bp 0 0),(1,.sl 6),(2,.sl 7),(3,.sl 8),(4,.sl 9),(5,.sl 10),(6,.sl 13),(7,.sl 14)] (wa J 7 (ZO [(6,.sl 18),(7,.sl 19),(8,.sl 20),(9,.sl 21),(10,.sl 22),(11,.sl 17)] (ih24 (i1.l',i1.p'.Zt,i1.p'.ZD,i1.p'.ZE,i1.p'.ZF,i1.calls',i1.first'.ZL,i1.first'.Zt,i1.first'.ZM,e1,(ZN (Y0+1))) h)))
  refine wO J 5 h fun l1 m1 h=>ZR (Wo N (⟨H0,(⟨I0,L0,M0,O0⟩:Z3),R0,(⟨S0,U0,V0⟩:T9)⟩:Z7) Z0.Zt 9 _ m1) [] [(0,.bp 0 0),(1,.sl 6),(2,.sl 7),(3,.sl 8),(4,.sl 9),(5,.sl 10)] (wa J 6 (Yy J [] oS ([Z0.Zt]:List ByteArray) ?_))
  have ⟨o1,p1,h⟩:=ob h
  refine YR J rS p1 ?_
  exact wO J 5 h fun q1 s1 h=>ZR (ZlU N l1 Z0 _ s1) [] [(0,.bp 0 0),(1,.sl 16),(2,.sl 17),(3,.sl 18),(4,.sl 19),(5,.sl 20),(6,.sl 13),(7,.sl 14)] (wa J 7 (ZO [(6,.sl 23),(7,.sl 24),(8,.sl 25),(9,.sl 26),(10,.sl 27),(11,.sl 22)] (ih24 (q1.l',q1.p'.Zt,q1.p'.ZD,q1.p'.ZE,q1.p'.ZF,q1.calls',q1.first'.ZL,q1.first'.Zt,q1.first'.ZM,o1,(ZN (Y0+1))) h)))
 exact ZO [(6,.sl 1),(7,.sl 2),(8,.sl 3),(9,.sl 4),(10,.sl 5),(11,.nil)] (ih N (c.l',c.p'.Zt,c.p'.ZD,c.p'.ZE,c.p'.ZF,c.calls',c.first'.ZL,c.first'.Zt,c.first'.ZM,([]:List ByteArray),0) h)
theorem Ztq (N:Nat) (rc:(List ZY)->Option (List ByteArray)) (rcT:(∀ (c:(List ZY)) (r:(List ByteArray)),rc c=some r->Fn Tryz.prog 134 ⟨1,[.S 0],[(0,.sl YA c)],[],2,.S 1,[],[(1,.own rS r true)]⟩)) (c:(List ZY)) (r:(List ByteArray)) (h:Dj N rc c=some r) :
 Fn Tryz.prog 134 ⟨1,[.S 0],[(0,.sl YA c)],[],2,.S 1,[],[(1,.own rS r true)]⟩:=by
 refine Z5 func134 rfl (fun E F w=>?_)
 unfold Dj at h
 refine wa J 13 (Z4 (σ:=(List ByteArray)) (fun st=>⟨[(3,.S 1)],[(1,.own rS st true)],[(0,.sl YA c)],2⟩) (fun st=>ZbA st=some r) ?_ (fun j1=>?_))
 ·intro d h
  unfold ZbA at h
  exact oi h▸wr J 5 func134 [(1,.sl 1)]
 refine wa J 1 (Ye (σ:=(List ByteArray) × Int) (fun st=>⟨[(0,.S 0),(3,.S 1),(4,.I st.2)],[(1,.own rS st.1 true)],[(0,.sl YA c)],2⟩) (fun n st=>TC N rc c n st.1 st.2) (r:=r) (fun _=>rfl) ?_ (fun ih=>?_))
 ·intro n12 ih15
  rintro ⟨e,f⟩ h
  unfold TC at h
  refine ZU J 8 h (fun h=>wa J 2 (ZO [] (j1 e h))) fun h=>?_
  refine wO J 9 h fun g i h=>Ya J Us i (wa J 4 (Z4 (σ:=(List ByteArray)) (fun st=>⟨[(0,.S 0),(3,.S 5),(4,.I f)],[(5,.own rS st true)],[(0,.sl YA c)],6⟩) (fun st=>LO N rc c f (TC N rc c n12) st=some r) ?_ (fun j24=>?_)))
  ·intro j h
   unfold LO at h
   refine wa J 4 (Z4 (σ:=(List ByteArray)) (fun st=>⟨[(0,.S 0),(3,.S 6),(4,.I f)],[(6,.own rS st true)],[(0,.sl YA c)],7⟩) (fun st=>ZbB f (TC N rc c n12) st=some r) ?_ (fun j25=>?_))
   ·intro k h
    unfold ZbB at h
    exact wa J 6 (ZO [(1,.sl 6)] (ih15 (k,(ZN (f+1))) h))
   refine wa J 1 (Ye (σ:=(List ByteArray) × Int) (fun st=>⟨[(0,.S 0),(3,.S 6),(4,.I f),(5,.I st.2)],[(6,.own rS st.1 true)],[(0,.sl YA c)],7⟩) (fun n st=>PC rc c f (TC N rc c n12) n st.1 st.2) (r:=r) (fun _=>rfl) ?_ (fun ih=>?_))
   ·intro n14 ih27
    rintro ⟨l,m⟩ h
    unfold PC at h
    refine wO J 6 h fun o p h=>Ya J Us p ?_
    refine ZU J 5 h (fun h=>wa J 2 (ZO [] (j25 l h))) fun h=>?_
    refine wO J 8 h fun q s h=>Ya J Us s ?_
    refine wO J 3 h fun t u h=>Ya J (Y8 YA) u ?_
    refine wO J 1 h fun v x h=>ZR (rcT t _ x) [] [(0,.sl 14)] ?_
    have ⟨y,z,h⟩:=ob h
    exact YR J rS z (wa J 8 (ZO [(6,.sl 16)] (ih27 (y,(ZN (m+1))) h)))
   exact ZO [(6,.sl 5)] (ih N (j,0) h)
  refine Xf h (fun h=>wa J 2 (ZO [(5,.sl 1)] (j24 e h))) fun h=>?_
  refine wO J 5 h fun A C h=>Ya J Us C (wa J 2 (Yy J [] oS ([A.Zt]:List ByteArray) ?_))
  have ⟨D,G,h⟩:=ob h
  exact YR J rS G (wa J 2 (ZO [(5,.sl 9)] (j24 D h)))
 exact ZO [(1,.nil)] (ih N (([]:List ByteArray),0) h)
theorem Zts:∀ (N:Nat) (c:(List ZY)) (r:(List ByteArray)) (h:Rj N c=some r),Fn Tryz.prog 134 ⟨1,[.S 0],[(0,.sl YA c)],[],2,.S 1,[],[(1,.own rS r true)]⟩:=by
 intro N
 induction N with
 | zero=>intros;rename_i h;cases h
 | succ N ih=>intro c r h;exact Ztq N (Rj N) ih c r h
theorem Ztr (N:Nat) (c:(List ZY)) (r:(List ByteArray)) (h:Zbz N c=some r):Fn Tryz.prog 134 ⟨1,[.S 0],[(0,.sl YA c)],[],2,.S 1,[],[(1,.own rS r true)]⟩:=Zts N c r h
theorem Zu6 (N:Nat) (rc:(List Z3)->ByteArray->Int->Option Bool) (rcT:(∀ (d:(List Z3)) (e:ByteArray) (f:Int) (r:Bool),rc d e f=some r->Fn Tryz.prog 57 ⟨1,[.S 0,.c (.s e),.I f],[(0,.sl Yw d)],[],1,.O r,[],[]⟩)) (d:(List Z3)) (e:ByteArray) (f:Int) (r:Bool) (h:Mr N rc d e f=some r) :
 Fn Tryz.prog 57 ⟨1,[.S 0,.c (.s e),.I f],[(0,.sl Yw d)],[],1,.O r,[],[]⟩:=by
 refine Z5 func57 rfl (fun E F w=>?_)
 unfold Mr at h
 refine wO J 8 h fun g i h=>ZR (ZlW N d e _ i) [] [(0,.sl 0)] ?_
 refine wB J 13 h (fun h=>oi h▸wr J 5 func57 []) fun h=>?_
 refine wO J 6 h fun j k h=>ZR (Ztr N g.1.ZF _ k) [] [(0,.sl 3)] (wa J 7 (Z4 (σ:=Unit) (fun st=>⟨[],[],[(0,.sl Yw d)],6⟩) (fun st=>Zdg=some r) ?_ (fun j1=>?_)))
 ·intro _ h
  unfold Zdg at h
  exact oi h▸wr J 4 func57 []
 refine wa J 1 (Ye (σ:=Int) (fun st=>⟨[(0,.S 0),(2,.I f),(9,.S 5),(10,.I st)],[(5,.own rS j true)],[(0,.sl Yw d)],6⟩) (fun n st=>Qs rc d f j n st) (r:=r) (fun _=>rfl) ?_ (fun ih=>?_))
 ·intro n2 ih3
  intro l h
  unfold Qs at h
  refine ZU J 8 h (fun h=>wa J 2 (ZO [] (j1 () h))) fun h=>?_
  refine wB J 9 h (fun h=>oi h▸wr J 15 func57 []) fun h=>?_
  refine wO J 3 h fun m o h=>Y7 J rS o (We J oS o ?_)
  refine wO J 2 h fun p q h=>ZR (rcT d m (ZN (f-1)) _ q) [] [(0,.sl 0)] ?_
  exact wB J 2 h (fun h=>oi h▸wr J 5 func57 []) fun h=>wa J 8 (ZO [] (ih3 (ZN (l+1)) h))
 exact ZO [] (ih N 0 h)
theorem Zu8:∀ (N:Nat) (d:(List Z3)) (e:ByteArray) (f:Int) (r:Bool) (h:Qt N d e f=some r),Fn Tryz.prog 57 ⟨1,[.S 0,.c (.s e),.I f],[(0,.sl Yw d)],[],1,.O r,[],[]⟩:=by
 intro N
 induction N with
 | zero=>intros;rename_i h;cases h
 | succ N ih=>intro d e f r h;exact Zu6 N (Qt N) ih d e f r h
theorem Zu7 (N:Nat) (d:(List Z3)) (e:ByteArray) (f:Int) (r:Bool) (h:z57 N d e f=some r):Fn Tryz.prog 57 ⟨1,[.S 0,.c (.s e),.I f],[(0,.sl Yw d)],[],1,.O r,[],[]⟩:=Zu8 N d e f r h
theorem ZuI (N:Nat) (c:(List Z3)) (r:T9) (h:P9 N c=some r) :
 Fn Tryz.prog 24 ⟨1,[.S 0],[(0,.sl Yw c)],[],1,.a (cC9 r),[],[]⟩:=by
 refine Z5 func24 rfl (fun E F w=>?_)
 unfold P9 at h
 refine wO J 8 h fun d e h=>ZR (Zu1 N c _ e) [] [(0,.sl 0)] ?_
 refine wB J 2 h (fun h=>oi h▸wr J 6 func24 []) fun h=>wa J 7 (Z4 (σ:=Unit) (fun st=>⟨[(2,.B 1 0)],[(1,.box [.s (str []),.s (str []),.I 0] 96)],[(0,.sl Yw c)],2⟩) (fun st=>ZgO=some r) ?_ (fun j1=>?_))
 ·intro _ h
  unfold ZgO at h
  exact oi h▸wr J 5 func24 []
 refine wa J 1 (Ye (σ:=Int) (fun st=>⟨[(0,.S 0),(2,.B 1 0),(3,.I st)],[(1,.box [.s (str []),.s (str []),.I 0] 96)],[(0,.sl Yw c)],2⟩) (fun n st=>VS N c n st) (r:=r) (fun _=>rfl) ?_ (fun ih=>?_))
 ·intro n22 ih24
  intro f h
  unfold VS at h
  refine ZU J 8 h (fun h=>wa J 2 (ZO [] (j1 () h))) fun h=>?_
  refine wO J 9 h fun g i h=>Ya J WQ i (wa J 10 (Z4 (σ:=(List Z3) × ByteArray × (List ByteArray) × (List Yg) × (List ZY) × (List ByteArray) × ByteArray × ByteArray × Int) (fun st=>(Zm5 st.2.1 st.2.2.2.2.2.2.1 st.2.2.2.2.2.2.2.1 st.2.2.2.2.2.2.2.2 st.2.2.2.2.2.1 c st.1 st.2.2.1 st.2.2.2.1 st.2.2.2.2.1 [(0,.S 0),(2,.B 1 0),(3,.I f),(4,.B 6 0)])) (fun st=>Hk N c f (VS N c n22) st.1 st.2.1 st.2.2.1 st.2.2.2.1 st.2.2.2.2.1 st.2.2.2.2.2.1 st.2.2.2.2.2.2.1 st.2.2.2.2.2.2.2.1 st.2.2.2.2.2.2.2.2=some r) ?_ (fun j39=>?_)))
  ·rintro ⟨j,k,l,m,o,p,q,t,u⟩ h
   unfold Hk at h
   refine wa J 5 (Z4 (σ:=(List Z3) × ByteArray × (List ByteArray) × (List Yg) × (List ZY) × (List ByteArray) × ByteArray × ByteArray × Int) (fun st=>(Zm6 st.2.1 st.2.2.2.2.2.2.1 st.2.2.2.2.2.2.2.1 st.2.2.2.2.2.2.2.2 st.2.2.2.2.2.1 c st.1 st.2.2.1 st.2.2.2.1 st.2.2.2.2.1 [(0,.S 0),(2,.B 1 0),(3,.I f),(4,.B 6 0)])) (fun st=>Hj N c f (VS N c n22) st.1 st.2.1 st.2.2.1 st.2.2.2.1 st.2.2.2.2.1 st.2.2.2.2.2.1 st.2.2.2.2.2.2.1 st.2.2.2.2.2.2.2.1 st.2.2.2.2.2.2.2.2=some r) ?_ (fun j41=>?_))
   ·rintro ⟨v,x,y,z,A,C,D,G,H⟩ h
    unfold Hj at h
    refine wO J 3 h fun R T h=>ZR (Zu2 N (⟨v,(⟨x,y,z,A⟩:Z3),C,(⟨D,G,H⟩:T9)⟩:Z7) _ T) [] [(0,.bp 6 0),(1,.sl 12),(2,.sl 13),(3,.sl 14),(4,.sl 15),(5,.sl 16)] ?_
    refine wO J 9 h fun U X h=>ZR (Zu4 N R R.p'.ZF ([]:List ByteArray) 0 0 _ X) [] [(0,.bp 6 0),(1,.sl 17),(2,.sl 18),(3,.sl 19),(4,.sl 20),(5,.sl 21),(6,.sl 20),(7,.nil)] ?_
    refine wO J 10 h fun Y Z h=>ZR (Zu7 N c U.p'.Zt 4 _ Z) [] [(0,.sl 0)] (wa J 1 (Z4 (σ:=(List Z3) × ByteArray × (List ByteArray) × (List Yg) × (List ZY) × (List ByteArray) × ByteArray × ByteArray × Int) (fun st=>⟨[(0,.S 0),(2,.B 1 0),(3,.I f),(4,.B 6 0)],[(1,.box [.s (str []),.s (str []),.I 0] 96),(6,.box [.sl 27,.s st.2.1,.sl 28,.sl 29,.sl 30,.sl 31,.s st.2.2.2.2.2.2.1,.s st.2.2.2.2.2.2.2.1,.I st.2.2.2.2.2.2.2.2] 143),(31,.own rS st.2.2.2.2.2.1 true)],[(0,.sl Yw c),(27,.sl Yw st.1),(28,.sl rS st.2.2.1),(29,.sl Xm st.2.2.2.1),(30,.sl YA st.2.2.2.2.1)],32⟩) (fun st=>DX f (VS N c n22) st.1 st.2.1 st.2.2.1 st.2.2.2.1 st.2.2.2.2.1 st.2.2.2.2.2.1 st.2.2.2.2.2.2.1 st.2.2.2.2.2.2.2.1 st.2.2.2.2.2.2.2.2=some r) ?_ (fun j43=>?_)))
    ·rintro ⟨a0,b0,c0,e0,g0,i0,j0,k0,l0⟩ h
     unfold DX at h
     exact wB J 9 h (fun h=>oi h▸wr J 9 func24 []) fun h=>wa J 8 (ZO [] (ih24 (ZN (f+1)) h))
    refine Xf h (fun h=>wa J 2 (ZO [(27,.sl 22),(28,.sl 23),(29,.sl 24),(30,.sl 25),(31,.sl 26)] (j43 (U.l',U.p'.Zt,U.p'.ZD,U.p'.ZE,U.p'.ZF,U.calls',U.first'.ZL,U.first'.Zt,U.first'.ZM) h))) fun h=>?_
    exact wO J 8 h fun m0 o0 h=>ZR (Wo N U U.p'.Zt 6 _ o0) [] [(0,.bp 6 0),(1,.sl 22),(2,.sl 23),(3,.sl 24),(4,.sl 25),(5,.sl 26)] (wa J 1 (ZO [] (j43 (m0.l',m0.p'.Zt,m0.p'.ZD,m0.p'.ZE,m0.p'.ZF,m0.calls',m0.first'.ZL,m0.first'.Zt,m0.first'.ZM) h)))
   refine wa J 1 (Ye (σ:=(List Z3) × ByteArray × (List ByteArray) × (List Yg) × (List ZY) × (List ByteArray) × ByteArray × ByteArray × Int × Int) (fun st=>(Zm6 st.2.1 st.2.2.2.2.2.2.1 st.2.2.2.2.2.2.2.1 st.2.2.2.2.2.2.2.2.1 st.2.2.2.2.2.1 c st.1 st.2.2.1 st.2.2.2.1 st.2.2.2.2.1 [(0,.S 0),(2,.B 1 0),(3,.I f),(4,.B 6 0),(6,.I st.2.2.2.2.2.2.2.2.2)])) (fun n st=>Qn N c f (VS N c n22) n st.1 st.2.1 st.2.2.1 st.2.2.2.1 st.2.2.2.2.1 st.2.2.2.2.2.1 st.2.2.2.2.2.2.1 st.2.2.2.2.2.2.2.1 st.2.2.2.2.2.2.2.2.1 st.2.2.2.2.2.2.2.2.2) (r:=r) (fun _=>rfl) ?_ (fun ih=>?_))
   ·intro n25 ih44
    rintro ⟨p0,q0,s0,t0,u0,v0,x0,y0,z0,A0⟩ h
    unfold Qn at h
    refine ZU J 12 h (fun h=>wa J 2 (ZO [] (j41 (p0,q0,s0,t0,u0,v0,x0,y0,z0) h))) fun h=>?_
    refine wO J 12 h fun B0 C0 h=>SU J rS C0 ?_
    refine wO J 6 h fun D0 G0 h=>Ya J oS G0 ?_
    refine wO J 1 h fun H0 I0 h=>ZR (Rz N B0 D0 _ I0) [] [(0,.sl 17)] (wa J 1 (Yn ?_))
    refine Xf h (fun h=>wa J 8 (ZO [] (ih44 (p0,q0,s0,t0,u0,v0,x0,y0,z0,(ZN (A0+1))) h))) fun h=>?_
    refine wO J 9 h fun L0 M0 h=>Ya J oS M0 ?_
    exact wO J 1 h fun O0 R0 h=>ZR (Wo N (⟨p0,(⟨q0,s0,t0,u0⟩:Z3),v0,(⟨x0,y0,z0⟩:T9)⟩:Z7) L0 9 _ R0) [] [(0,.bp 6 0),(1,.sl 12),(2,.sl 13),(3,.sl 14),(4,.sl 15),(5,.sl 16)] (wa J 7 (ZO [(12,.sl 20),(13,.sl 21),(14,.sl 22),(15,.sl 23),(16,.sl 24)] (ih44 (O0.l',O0.p'.Zt,O0.p'.ZD,O0.p'.ZE,O0.p'.ZF,O0.calls',O0.first'.ZL,O0.first'.Zt,O0.first'.ZM,(ZN (A0+1))) h)))
   exact ZO [(12,.sl 7),(13,.sl 8),(14,.sl 9),(15,.sl 10),(16,.sl 11)] (ih N (j,k,l,m,o,p,q,t,u,0) h)
  refine wa J 1 (Ye (σ:=(List Z3) × ByteArray × (List ByteArray) × (List Yg) × (List ZY) × (List ByteArray) × ByteArray × ByteArray × Int × Int) (fun st=>(Zm5 st.2.1 st.2.2.2.2.2.2.1 st.2.2.2.2.2.2.2.1 st.2.2.2.2.2.2.2.2.1 st.2.2.2.2.2.1 c st.1 st.2.2.1 st.2.2.2.1 st.2.2.2.2.1 [(0,.S 0),(2,.B 1 0),(3,.I f),(4,.B 6 0),(5,.I st.2.2.2.2.2.2.2.2.2)])) (fun n st=>Rv N c f (VS N c n22) n st.1 st.2.1 st.2.2.1 st.2.2.2.1 st.2.2.2.2.1 st.2.2.2.2.2.1 st.2.2.2.2.2.2.1 st.2.2.2.2.2.2.2.1 st.2.2.2.2.2.2.2.2.1 st.2.2.2.2.2.2.2.2.2) (r:=r) (fun _=>rfl) ?_ (fun ih=>?_))
  ·intro n26 ih45
   rintro ⟨S0,U0,V0,X0,Y0,Z0,a1,b1,c1,e1⟩ h
   unfold Rv at h
   refine ZU J 7 h (fun h=>wa J 2 (ZO [] (j39 (S0,U0,V0,X0,Y0,Z0,a1,b1,c1) h))) fun h=>?_
   refine wO J 8 h fun g1 i1 h=>Ya J WQ i1 (wa J 8 (Yn ?_))
   refine Xf h (fun h=>wa J 8 (ZO [] (ih45 (S0,U0,V0,X0,Y0,Z0,a1,b1,c1,(ZN (e1+1))) h))) fun h=>?_
   exact wO J 8 h fun k1 l1 h=>ZR (Wo N (⟨S0,(⟨U0,V0,X0,Y0⟩:Z3),Z0,(⟨a1,b1,c1⟩:T9)⟩:Z7) U0 9 _ l1) [] [(0,.bp 6 0),(1,.sl 7),(2,.sl 8),(3,.sl 9),(4,.sl 10),(5,.sl 11)] (wa J 7 (ZO [(7,.sl 16),(8,.sl 17),(9,.sl 18),(10,.sl 19),(11,.sl 20)] (ih45 (k1.l',k1.p'.Zt,k1.p'.ZD,k1.p'.ZE,k1.p'.ZF,k1.calls',k1.first'.ZL,k1.first'.Zt,k1.first'.ZM,(ZN (e1+1))) h)))
  exact ZO [(7,.sl 0),(8,.sl 3),(9,.sl 4),(10,.sl 5),(11,.nil)] (ih N (c,g.Zt,g.ZD,g.ZE,g.ZF,([]:List ByteArray),(str []),(str []),0,0) h)
 exact ZO [] (ih N 0 h)
theorem Zmn (N:Nat) (c:(List T0)) (d:Int) (e:Yq) (r:Int) (h:Qu N c d e=some r) :
 Fn Tryz.prog 58 ⟨1,[.S 0,.I d,.a (Xp e)],[(0,.sl rq_api_Decl c)],[],1,.I r,[],[]⟩:=by
 refine Z5 func58 rfl (fun E F w=>?_)
 unfold Qu at h
 refine wB J 12 h (fun h=>oi h▸wr J 5 func58 []) fun h=>wa J 7 (Z4 (σ:=Unit) (fun st=>⟨[],[],[(0,.sl rq_api_Decl c)],2⟩) (fun st=>Zha=some r) ?_ (fun j1=>?_))
 ·intro _ h
  unfold Zha at h
  exact oi h▸wr J 4 func58 []
 refine wa J 1 (Ye (σ:=Int) (fun st=>⟨[(0,.S 0),(1,.I d),(5,.B 1 0),(7,.I st)],[(1,.box (Xp e) 93)],[(0,.sl rq_api_Decl c)],2⟩) (fun n st=>Uz N c d e n st) (r:=r) (fun _=>rfl) ?_ (fun ih=>?_))
 ·intro n12 ih15
  intro f h
  unfold Uz at h
  refine ZU J 8 h (fun h=>wa J 2 (ZO [] (j1 () h))) fun h=>?_
  refine wO J 9 h fun g i h=>Ya J Tt i ?_
  refine wa J 6 (Z4 (σ:=Bool) (fun st=>(ZhI e c [(0,.S 0),(1,.I d),(5,.B 1 0),(7,.I f),(35,.O st)])) (fun st=>Qv N c e f (Uz N c d e n12) st=some r) ?_ (fun j24=>?_))
  ·intro j h
   unfold Qv at h
   refine eB h (fun h=>wa J 7 (ZO [] (ih15 (ZN (f+1)) h))) fun h=>wa J 6 (Z4 (σ:=Unit) (fun st=>(ZhI e c [(0,.S 0),(1,.I d),(5,.B 1 0),(7,.I f)])) (fun st=>Zhb f (Uz N c d e n12)=some r) ?_ (fun j25=>?_))
   ·intro _ h
    unfold Zhb at h
    exact wa J 6 (ZO [] (ih15 (ZN (f+1)) h))
   refine wa J 1 (Ye (σ:=Int) (fun st=>(ZhI e c [(0,.S 0),(1,.I d),(5,.B 1 0),(7,.I f),(8,.I st)])) (fun n st=>Ms c e f (Uz N c d e n12) n st) (r:=r) (fun _=>rfl) ?_ (fun ih=>?_))
   ·intro n14 ih27
    intro k h
    unfold Ms at h
    refine wO J 6 h fun l m h=>Ya J Tt m ?_
    refine ZU J 5 h (fun h=>wa J 2 (ZO [] (j25 () h))) fun h=>?_
    refine wO J 8 h fun o p h=>Ya J Tt p ?_
    refine wO J 3 h fun q s h=>Ya J XK s (wa J 5 (Yn ?_))
    refine Xf h (fun h=>wa J 8 (ZO [] (ih27 (ZN (k+1)) h))) fun h=>?_
    refine wO J 5 h fun t u h=>Ya J Tt u ?_
    exact oi h▸wr J 6 func58 []
   exact ZO [] (ih N 0 h)
  refine Xf h (fun h=>wa J 9 (Yn (ZO [] (j24 false h)))) fun h=>?_
  exact wB J 4 h (fun h=>wa J 5 (Yn (ZO [] (j24 true h)))) fun h=>wa J 5 (Yn (ZO [] (j24 (f != d) h)))
 exact ZO [] (ih N 0 h)
theorem Zmo (N:Nat) (c:(List T0)) (r:Int) (h:HF N c=some r) :
 Fn Tryz.prog 60 ⟨1,[.S 0],[(0,.sl rq_api_Decl c)],[],1,.I r,[],[]⟩:=by
 refine Z5 func60 rfl (fun E F w=>?_)
 unfold HF at h
 refine wa J 13 (Z4 (σ:=Int) (fun st=>⟨[(3,.I st)],[],[(0,.sl rq_api_Decl c)],1⟩) (fun st=>Zdj st=some r) ?_ (fun j1=>?_))
 ·intro d h
  unfold Zdj at h
  exact oi h▸wr J 5 func60 []
 refine wa J 1 (Ye (σ:=Int × Int) (fun st=>⟨[(0,.S 0),(3,.I st.1),(4,.I st.2)],[],[(0,.sl rq_api_Decl c)],1⟩) (fun n st=>Mu c n st.1 st.2) (r:=r) (fun _=>rfl) ?_ (fun ih=>?_))
 ·intro n2 ih3
  rintro ⟨e,f⟩ h
  unfold Mu at h
  refine ZU J 8 h (fun h=>wa J 2 (ZO [] (j1 e h))) fun h=>?_
  exact wO J 8 h fun g i h=>Ya J Tt i (wa J 12 (ZO [] (ih3 ((ZN (e+(g.Zy.length:Int))),(ZN (f+1))) h)))
 exact ZO [] (ih N (0,0) h)
theorem Ztt (N:Nat) (c:(List T0)) (d:Int) (r:T2) (h:Dk N c d=some r) :
 Fn Tryz.prog 135 ⟨1,[.S 0,.I d],[(0,.sl rq_api_Decl c)],[],1,.a (XZ r),[],[]⟩:=by
 refine Z5 func135 rfl (fun E F w=>?_)
 unfold Dk at h
 refine wa J 9 (Z4 (σ:=Unit) (fun st=>(Zm7 c [(4,.B 1 0)])) (fun st=>Zga=some r) ?_ (fun j1=>?_))
 ·intro _ h
  unfold Zga at h
  exact oi h▸wr J 5 func135 []
 refine wa J 1 (Ye (σ:=Int × Int) (fun st=>(Zm7 c [(0,.S 0),(1,.I st.1),(4,.B 1 0),(5,.I st.2)])) (fun n st=>PD c n st.1 st.2) (r:=r) (fun _=>rfl) ?_ (fun ih=>?_))
 ·intro n2 ih3
  rintro ⟨e,f⟩ h
  unfold PD at h
  refine ZU J 8 h (fun h=>wa J 2 (ZO [] (j1 () h))) fun h=>?_
  refine wO J 10 h fun g i h=>Ya J Tt i ?_
  refine ZU J 5 h (fun h=>?_) fun h=>?_
  ·exact wO J 6 h fun j k h=>Ya J Tt k (wa J 12 (ZO [] (ih3 ((ZN (e-(j.Zy.length:Int))),(ZN (f+1))) h)))
  refine wO J 5 h fun l m h=>Ya J Tt m ?_
  refine wO J 3 h fun o p h=>Ya J XK p ?_
  exact oi h▸wr J 3 func135 []
 exact ZO [] (ih N (d,0) h)
theorem Zhc (N:Nat) (c:(List T0)) (d:Int) (r:Bool) (h:VU N c d=some r) :
 Fn Tryz.prog 59 ⟨1,[.S 0,.I d],[(0,.sl rq_api_Decl c)],[],1,.O r,[],[]⟩:=by
 refine Z5 func59 rfl (fun E F w=>?_)
 unfold VU at h
 refine ZU J 9 h (fun h=>oi h▸wr J 15 func59 []) fun h=>?_
 refine wO J 2 h fun e f h=>ZR (Zmo N c _ f) [] [(0,.sl 0)] ?_
 refine ZU J 3 h (fun h=>oi h▸wr J 9 func59 []) fun h=>?_
 refine wO J 2 h fun g i h=>ZR (Ztt N c d _ i) [] [(0,.sl 0)] ?_
 exact oi h▸wr J 6 func59 []
theorem ZuJ (N:Nat) (c:(List T0)) (d:Int) (e:Wu) (f:T3) (r:T3) (h:DY N c d e f=some r) :
 Fn Tryz.prog 25 ⟨3,[.S 0,.I d,.a [.I e.Zw.Zq,.s e.Zw.Zv,.s e.Zw.Field,.I e.Zw.N,.s e.Op,.I e.Zx.Zq,.s e.Zx.Zv,.s e.Zx.Field,.I e.Zx.N],.a [.sl 1,.sl 2]],[(0,.sl rq_api_Decl c)],[(1,.own YV f.ZH false),(2,.own (rP (rI .i64) (rI .i64)) f.ZI false)],5,.a [.sl 3,.sl 4],[],[(3,.own YV r.ZH false),(4,.own (rP (rI .i64) (rI .i64)) r.ZI false),(1,.gone),(2,.gone)]⟩:=by
 refine Z5 func25 rfl (fun E F w=>?_)
 unfold DY at h
 refine wO J 12 h fun g i h=>ZR (Zmn N c d e.Zw _ i) [] [(0,.sl 0)] ?_
 refine wO J 4 h fun j k h=>ZR (Zmn N c d e.Zx _ k) [] [(0,.sl 0)] (wa J 2 (Yn ?_))
 refine wa J 19 (Z4 (σ:=Bool) (fun st=>⟨[(6,.B 3 0),(7,.B 4 0),(8,.B 5 0),(9,.I g),(10,.I j),(11,.I (ZN (e.Zx.N-e.Zw.N))),(37,.O st)],[(1,.own YV f.ZH false),(2,.own (rP (rI .i64) (rI .i64)) f.ZI false),(3,.box [.I e.Zw.Zq,.s e.Zw.Zv,.s e.Zw.Field,.I e.Zw.N,.s e.Op,.I e.Zx.Zq,.s e.Zx.Zv,.s e.Zx.Field,.I e.Zx.N] 95),(4,.box [.sl 1,.sl 2] 72),(5,.box [.nil,.nil] 72)],[(0,.sl rq_api_Decl c)],6⟩) (fun st=>Hl e f g j st=some r) ?_ (fun j1=>?_))
 ·intro l h
  unfold Hl at h
  refine eB h (fun h=>wa J 8 (Yy J [] (oP (oI .i64) (oI .i64)) ([(g,j)]:List (Int × Int)) ?_)) fun h=>?_
  ·have ⟨m,o,h⟩:=ob h
   refine YR J (rP (rI .i64) (rI .i64)) o ?_
   exact oi h▸wr J 8 func25 [(3,.sl 1),(4,.sl 7)]
  refine wB J 14 h (fun h=>wa J 9 (Yy J [] WV ([(⟨g,j,(ZN ((ZN (e.Zx.N-e.Zw.N))-1))⟩:T1)]:List T1) ?_)) fun h=>?_
  ·have ⟨p,q,h⟩:=ob h
   refine YR J YV q ?_
   exact oi h▸wr J 9 func25 [(3,.sl 7),(4,.sl 2)]
  refine wB J 6 h (fun h=>wa J 8 (Yy J [] WV ([(⟨g,j,(ZN (e.Zx.N-e.Zw.N))⟩:T1)]:List T1) ?_)) fun h=>?_
  ·have ⟨t,u,h⟩:=ob h
   refine YR J YV u ?_
   exact oi h▸wr J 9 func25 [(3,.sl 7),(4,.sl 2)]
  refine wB J 6 h (fun h=>wa J 10 (Yy J [] WV ([(⟨j,g,(ZN ((ZN (0-(ZN (e.Zx.N-e.Zw.N))))-1))⟩:T1)]:List T1) ?_)) fun h=>?_
  ·have ⟨v,x,h⟩:=ob h
   refine YR J YV x ?_
   exact oi h▸wr J 9 func25 [(3,.sl 7),(4,.sl 2)]
  refine wB J 6 h (fun h=>wa J 9 (Yy J [] WV ([(⟨j,g,(ZN (0-(ZN (e.Zx.N-e.Zw.N))))⟩:T1)]:List T1) ?_)) fun h=>wa J 13 (Yy J [] WV ([(⟨g,j,(ZN (e.Zx.N-e.Zw.N))⟩:T1),(⟨j,g,(ZN (0-(ZN (e.Zx.N-e.Zw.N))))⟩:T1)]:List T1) ?_)
  ·have ⟨y,z,h⟩:=ob h
   refine YR J YV z ?_
   exact oi h▸wr J 9 func25 [(3,.sl 7),(4,.sl 2)]
  have ⟨A,C,h⟩:=ob h
  refine YR J YV C ?_
  exact oi h▸wr J 9 func25 [(3,.sl 7),(4,.sl 2)]
 refine Xf h (fun h=>wa J 5 (ZO [] (j1 false h))) fun h=>?_
 exact wO J 2 h fun D G h=>ZR (Zhc N c g _ G) [] [(0,.sl 0)] (wa J 2 (ZO [] (j1 D h)))
theorem ZuK (N:Nat) (c:(List T0)) (d:T3) (r:Bool) (h:Ma N c d=some r) :
 Fn Tryz.prog 26 ⟨3,[.S 0,.a [.sl 1,.sl 2]],[(0,.sl rq_api_Decl c),(1,.sl YV d.ZH),(2,.sl (rP (rI .i64) (rI .i64)) d.ZI)],[],3,.O r,[],[]⟩:=by
 refine Z5 func26 rfl (fun E F w=>?_)
 unfold Ma at h
 refine wO J 8 h fun e f h=>ZR (Zmo N c _ f) [] [(0,.sl 0)] (wa J 7 (Z4 (σ:=Unit) (fun st=>(Zd2 c d.ZH d.ZI [(0,.S 0),(3,.B 3 0)])) (fun st=>ZcS N c d=some r) ?_ (fun j1=>?_)))
 ·intro _ h
  unfold ZcS at h
  refine wa J 5 (Z4 (σ:=Unit) (fun st=>(Zd2 c d.ZH d.ZI [(3,.B 3 0)])) (fun st=>ZcR d=some r) ?_ (fun j3=>?_))
  ·intro _ h
   unfold ZcR at h
   exact wB J 7 h (fun h=>oi h▸wr J 7 func26 []) fun h=>oi h▸wr J 7 func26 []
  refine wa J 1 (Ye (σ:=Int) (fun st=>(Zd2 c d.ZH d.ZI [(0,.S 0),(3,.B 3 0),(8,.I st)])) (fun n st=>Mb N c d n st) (r:=r) (fun _=>rfl) ?_ (fun ih=>?_))
  ·intro n3 ih5
   intro g h
   unfold Mb at h
   refine ZU J 9 h (fun h=>wa J 2 (ZO [] (j3 () h))) fun h=>?_
   refine wO J 10 h fun i j h=>Ya J (oP (oI .i64) (oI .i64)) j (eAq 0 rfl ?_)
   refine wO J 1 h fun k l h=>ZR (Zhc N c i.1 _ l) [] [(0,.sl 0)] ?_
   refine wB J 2 h (fun h=>oi h▸wr J 16 func26 []) fun h=>?_
   refine wO J 4 h fun m o h=>Ya J (oP (oI .i64) (oI .i64)) o (eAq 1 rfl ?_)
   refine wO J 1 h fun p q h=>ZR (Zhc N c m.2 _ q) [] [(0,.sl 0)] ?_
   exact wB J 3 h (fun h=>oi h▸wr J 5 func26 []) fun h=>wa J 8 (ZO [] (ih5 (ZN (g+1)) h))
  exact ZO [] (ih N 0 h)
 refine wa J 1 (Ye (σ:=Int) (fun st=>(Zd2 c d.ZH d.ZI [(0,.S 0),(3,.B 3 0),(5,.I e),(6,.I st)])) (fun n st=>Mc N c d e n st) (r:=r) (fun _=>rfl) ?_ (fun ih=>?_))
 ·intro n4 ih6
  intro s h
  unfold Mc at h
  refine ZU J 9 h (fun h=>wa J 2 (ZO [] (j1 () h))) fun h=>?_
  refine wO J 9 h fun t u h=>Ya J WV u ?_
  refine wB J 10 h (fun h=>oi h▸wr J 32 func26 []) fun h=>?_
  refine wB J 6 h (fun h=>oi h▸wr J 26 func26 []) fun h=>?_
  refine wB J 5 h (fun h=>oi h▸wr J 21 func26 []) fun h=>?_
  refine wB J 6 h (fun h=>oi h▸wr J 15 func26 []) fun h=>?_
  refine wB J 5 h (fun h=>oi h▸wr J 10 func26 []) fun h=>?_
  exact wB J 5 h (fun h=>oi h▸wr J 5 func26 []) fun h=>wa J 8 (ZO [] (ih6 (ZN (s+1)) h))
 exact ZO [] (ih N 0 h)
theorem Zvw (N:Nat) (e:(List Yg)) (r:(List T0) × ByteArray × Int) (h:z8 N e=some r) :
 Fn Tryz.prog 8 ⟨1,[.S 0],[(0,.sl Xm e)],[],2,.t [.inl (.sl 1),.inl (.s r.2.1),.inl (.I r.2.2)],[],[(1,.own rR0 r.1 true)]⟩:=by
 refine Z5 func8 rfl (fun E F w=>?_)
 unfold z8 at h
 refine wa J 9 (Yy J [] oS ([(str [65])]:List ByteArray) (wa J 2 (Yy J [1] WQ ([(⟨(str [80]),([(str [65])]:List ByteArray),e,([]:List ZY)⟩:Z3)]:List Z3) ?_)))
 have ⟨f,j,h⟩:=ob h
 refine XA (ZuI N ([(⟨(str [80]),([(str [65])]:List ByteArray),e,([]:List ZY)⟩:Z3)]:List Z3) _ j) [] [(0,.sl 2)] [2] (.inr ⟨rfl,trivial⟩) ?_
 refine wB J 3 h (fun h=>oi h▸wr J 7 func8 [(1,.nil)]) fun h=>wa J 15 (Z4 (σ:=(List T0) × Int) (fun st=>⟨[(0,.S 0),(5,.S 3),(6,.I st.2)],[(3,.own rn_api_Decl st.1 true)],[(0,.sl Xm e)],4⟩) (fun st=>BK N e st.1 st.2=some r) ?_ (fun j1=>?_))
 ·rintro ⟨ds,c⟩ h
  unfold BK at h
  refine wB J 6 h (fun h=>oi h▸wr J 7 func8 [(1,.nil)]) fun h=>QQ (R:=rn_api_Decl) (R':=rg_Decl) (xs:=ds) (fr:=true) (ds.map QU) 3 rfl (by rw [List.length_map]) Zju (wa J 7 (Z4 (σ:=List GG × List T3) (fun st=>⟨[(5,.S 3)],[(3,.own rg_Decl st.1 true)],[(0,.sl Xm e)],4⟩) (fun st=>TX (Vx (ds.map Xg) st.2 st.1) (bif Nat.beq st.2.length (ds.map Xg).length then some (Xv (ds.map Xg) st.2,str [],0) else none)=some r) ?_ (fun j3=>?_)))
  ·rintro ⟨gs,G⟩ h
   have ⟨hI,h⟩:=Zaw h
   replace hI:Vx (ds.map Xg) G gs:=hI
   have ⟨hb,h⟩:=og h
   cases h
   have ⟨e1,e2⟩:=ZjJ hI (Zd hb)
   exact QQ (R:=rg_Decl) (R':=rR0) (xs:=gs) (fr:=true) (Xv (ds.map Xg) G) 3 rfl e1 e2 (wr J 7 func8 [(1,.sl 3)])
  refine wa J 1 (Ye (σ:=List GG × List T3 × Int) (fun st=>⟨[(0,.S 0),(5,.S 3),(8,.I st.2.2)],[(3,.own rg_Decl st.1 true)],[(0,.sl Xm e)],4⟩) (fun n st=>TX (Vx (ds.map Xg) st.2.1 st.1) (SG N e (ds.map Xg) n st.2.2 st.2.1)) (r:=r) (fun _=>ZjG _) ?_ (fun ih=>?_))
  ·intro n13 ih14
   rintro ⟨gs,G,i⟩ h
   have ⟨hI,h⟩:=Zaw h
   replace hI:Vx (ds.map Xg) G gs:=hI
   unfold SG at h
   obtain ⟨K,h⟩|⟨K,h⟩:=US h
   ·exact wH J 8 K (wa J 2 (ZO [] (j3 (gs,G) (M6 hI h))))
   have ⟨hi,h⟩:=og h
   replace hi:i=(G.length:Int):=of_decide_eq_true hi
   have ⟨d,hd,h⟩:=ob h
   have ⟨x,hx,l,hn⟩:=ZjK hI hd hi
   have ⟨p,hp,h⟩:=ob h
   refine wH J 8 K (QQ (R:=rg_Decl) (R':=rg_Decl) (xs:=gs) (fr:=true) (gs.set i.toNat (YM x Wk none Wk none)) 3 rfl (by rw [List.length_set]) (Zjx l hn) ?_)
   refine eZn YV (eZn UV (wa J 9 (Z4 (σ:=G1 × G1 × T3) (fun st=>(Zm8 (gs.set i.toNat (YM x st.1 none st.2.1 none)) st.2.2.ZH st.2.2.ZI e (XR st.1) (XR st.2.1) [(0,.S 0),(5,.S 3),(8,.I i)])) (fun st=>((Ma N (ds.map Xg) st.2.2).bind fun ok=>bif (!ok) then ((ZW e i).bind fun m=>some (([]:List T0),m.Zt,2)) else SG N e (ds.map Xg) n13 (ZN (i+1)) (G++[st.2.2]))=some r) ?_ (fun j21=>?_))))
   ·rintro ⟨u,v,g⟩ h
    have ⟨ok,hok,h⟩:=ob h
    have hv:(gs.set i.toNat (YM x u none v none)).map VK=ds.map Xg:=ZeK hI.1 l rfl
    rw [<- hv] at hok
    refine wa J 5 (Y7 J rg_Decl (UY (y:=YM x u none v none) hx) (wa J 1 (eZm (u:=u) (v:=v) J RT 4 5 (UY (y:=YM x u none v none) hx) ?_)))
    refine XA (Fn.see (R:=rg_Decl) (R':=rq_api_Decl) (φ:=VK) (xs:=gs.set i.toNat (YM x u none v none)) rfl Zau (ZuK N _ g _ hok)) [] [(0,.sl 3),(1,.sl 4),(2,.sl 5)] [3,4,5] (.inr ⟨rfl,trivial⟩) ?_
    obtain ⟨K,h⟩|⟨K,h⟩:=US h
    ·have hs:Vx (ds.map Xg) (G++[g]) (gs.set i.toNat (YM x u (some g.ZH) v (some g.ZI))):=ZjL hI l hi
     refine wH J 2 K (eZd (R:=rg_Decl) (Rb:=YV) (fr:=true) (xs:=gs.set i.toNat (YM x u none v none)) (ys:=g.ZH) (x:=YM x u none v none) (u:=u) (YM x u (some g.ZH) v none) i.toNat 3 4 (M5 l) (fun F w vs hr hs=>Zjv hr hs) rfl ?_)
     refine eZd (R:=rg_Decl) (Rb:=UV) (fr:=true) (xs:=(gs.set i.toNat (YM x u none v none)).set i.toNat (YM x u (some g.ZH) v none)) (ys:=g.ZI) (x:=YM x u (some g.ZH) v none) (u:=v) (YM x u (some g.ZH) v (some g.ZI)) i.toNat 3 5 (M5 (M5 l)) (fun F w vs hr hs=>Zjw hr hs) rfl ?_
     exact Gh (R:=rg_Decl) (fr:=true) (xs:=((gs.set i.toNat (YM x u none v none)).set i.toNat (YM x u (some g.ZH) v none)).set i.toNat (YM x u (some g.ZH) v (some g.ZI))) (gs.set i.toNat (YM x u (some g.ZH) v (some g.ZI))) 3 (by rw [List.set_set,List.set_set]) (wm J (ZO [] (ih14 (gs.set i.toNat (YM x u (some g.ZH) v (some g.ZI)),G++[g],ZN (i+1)) (M6 hs h))))
    refine wH J 2 K ?_
    refine wO J 5 h fun m hm h=>Ya J VJ hm (wa J 5 (Yn ?_))
    cases h
    exact Y2 J func8 [(1,.nil)]
   refine wa J 1 (Ye (σ:=G1 × G1 × T3 × Int) (fun st=>(Zm8 (gs.set i.toNat (YM x st.1 none st.2.1 none)) st.2.2.1.ZH st.2.2.1.ZI e (XR st.1) (XR st.2.1) [(0,.S 0),(5,.S 3),(8,.I i),(9,.I st.2.2.2)]))
    (fun n st=>(UB N e (ds.map Xg) i n st.2.2.2 st.2.2.1).bind fun g=>(Ma N (ds.map Xg) g).bind fun ok=>bif (!ok) then ((ZW e i).bind fun m=>some (([]:List T0),m.Zt,2)) else SG N e (ds.map Xg) n13 (ZN (i+1)) (G++[g])) (r:=r) (fun _=>rfl) ?_ (fun ih=>?_))
   ·intro n15 ih23
    rintro ⟨u,v,g,k⟩ h
    have ⟨p',hp',h⟩:=ob h
    replace hp':UB N e (ds.map Xg) i (n15+1) k g=some p':=hp'
    unfold UB at hp'
    have ⟨m,hm,hp'⟩:=ob hp'
    refine wa J 6 (Ya J VJ hm ?_)
    rcases US hp' with ⟨K,hp'⟩ | ⟨K,hp'⟩
    ·cases hp'
     exact wH J 5 K (wa J 2 (ZO [] (j21 (u,v,g) h)))
    refine wH J 5 K ?_
    have hv:(gs.set i.toNat (YM x u none v none)).map VK=ds.map Xg:=ZeK hI.1 l rfl
    have ⟨a,ha,hp'⟩:=ob hp'
    have ⟨g',hg',hp'⟩:=ob hp'
    rw [<- hv] at hg'
    refine wa J 11 (Ya J VJ hm (wa J 3 (Ya J Q2 ha (wm J (Y7 J rg_Decl (UY (y:=YM x u none v none) hx) (wm J (eZm (u:=u) (v:=v) J RT 4 5 (UY (y:=YM x u none v none) hx) ?_)))))))
    refine XA (Fn.see (R:=rg_Decl) (R':=rq_api_Decl) (φ:=VK) (xs:=gs.set i.toNat (YM x u none v none)) rfl Zau (ZuJ N _ i a g _ hg')) [] [(0,.sl 3),(1,.sl 4),(2,.sl 5)] [3] (.inr ⟨rfl,fun _ _ _ _ _ _ h=>h,fun _ _ _ _ _ _ h=>h,trivial⟩) ?_
    refine wm J (Y7 J rg_Decl (UY (y:=YM x u none v none) hx) (wm J (eTt (Gi 14 (fun u'=>Gi 15 (fun v'=>?_))))))
    refine eSp J [] RT (YM x u' none v' none) (UY (y:=YM x u none v none) hx) (Gh (R:=rg_Decl) (fr:=true) (xs:=YQ (gs.set i.toNat (YM x u none v none)) i (YM x u' none v' none)) (gs.set i.toNat (YM x u' none v' none)) 3 (by rw [YQ,List.set_set]) (wm J (ZO [(4,.sl 14),(5,.sl 15)] (ih23 (u',v',g',ZN (k+1)) ?_))))
    show (UB N e (ds.map Xg) i n15 (ZN (k+1)) g').bind _=some r
    rw [hp'];exact h
   refine ZO [] (ih N (Wk,Wk,⟨[],[]⟩,0) ?_)
   show (UB N e (ds.map Xg) i N 0 ⟨[],[]⟩).bind _=some r
   rw [hp];exact h
  exact ZO [] (ih N (ds.map QU,[],0) (M6 (ZjI ds) h))
 refine wa J 1 (Ye (σ:=(List T0) × Int × Int) (fun st=>⟨[(0,.S 0),(5,.S 3),(6,.I st.2.1),(7,.I st.2.2)],[(3,.own rn_api_Decl st.1 true)],[(0,.sl Xm e)],4⟩) (fun n st=>Qy N e n st.1 st.2.1 st.2.2) (r:=r) (fun _=>rfl) ?_ (fun ih=>?_))
 ·intro n16 ih24
  rintro ⟨ds,c,i⟩ h
  unfold Qy at h
  refine ZU J 8 h (fun h=>wa J 2 (ZO [] (j1 (ds,c) h))) fun h=>?_
  refine wO J 9 h fun m hm h=>Ya J VJ hm (wa J 2 (Yy J [] XK ([]:List T2) (wa J 2 (Ya J VJ hm ?_))))
  refine wO J 2 h fun fs hfs h=>YR J YU hfs (wa J 2 (Yy J [11] ZkC ([(⟨m.Zt,fs,c,(⟨([]:List T1),([]:List (Int × Int))⟩:T3)⟩:T0)]:List T0) ?_))
  have ⟨ds',hds',h⟩:=ob h
  exact YR J rn_api_Decl hds' (wa J 1 (Yn (wa J 4 (Ya J VJ hm (wa J 12 (ZO [(3,.sl 13)] (ih24 (ds',(ZN (c+(m.Zy.length:Int))),(ZN (i+1))) h)))))))
 exact ZO [(3,.nil)] (ih N (([]:List T0),0,0) h)
theorem ZuL (N:Nat) (c:(List T1)) (d:(List T1)) (r:Bool) (h:DZ N c d=some r) :
 Fn Tryz.prog 27 ⟨2,[.S 0,.S 1],[(0,.sl YV c),(1,.sl YV d)],[],2,.O r,[],[]⟩:=by
 refine Z5 func27 rfl (fun E F w=>?_)
 unfold DZ at h
 refine wB J 13 h (fun h=>oi h▸wr J 5 func27 []) fun h=>wa J 7 (Z4 (σ:=Unit) (fun st=>⟨[],[],[(0,.sl YV c),(1,.sl YV d)],2⟩) (fun st=>ZcT=some r) ?_ (fun j1=>?_))
 ·intro _ h
  unfold ZcT at h
  exact oi h▸wr J 4 func27 []
 refine wa J 1 (Ye (σ:=Int) (fun st=>⟨[(0,.S 0),(1,.S 1),(5,.I st)],[],[(0,.sl YV c),(1,.sl YV d)],2⟩) (fun n st=>Hm c d n st) (r:=r) (fun _=>rfl) ?_ (fun ih=>?_))
 ·intro n2 ih3
  intro e h
  unfold Hm at h
  refine ZU J 8 h (fun h=>wa J 2 (ZO [] (j1 () h))) fun h=>?_
  refine wO J 8 h fun f g h=>Ya J WV g ?_
  refine wO J 3 h fun i j h=>Ya J WV j (wa J 1 (eEq (Yn ?_)))
  exact eB h (fun h=>oi h▸wr J 5 func27 []) fun h=>wa J 8 (ZO [] (ih3 (ZN (e+1)) h))
 exact ZO [] (ih N 0 h)
theorem ZvC (N:Nat) (c:(List T0)) (d:(List T0)) (r:Bool) (h:z9 N c d=some r) :
 Fn Tryz.prog 9 ⟨2,[.S 0,.S 1],[(0,.sl rR0 c),(1,.sl rR0 d)],[],2,.O r,[],[]⟩:=by
 refine Z5 func9 rfl (fun E F w=>?_)
 unfold z9 at h
 refine wB J 13 h (fun h=>oi h▸wr J 5 func9 []) fun h=>wa J 7 (Z4 (σ:=Unit) (fun st=>⟨[],[],[(0,.sl rR0 c),(1,.sl rR0 d)],2⟩) (fun st=>ZdQ=some r) ?_ (fun j1=>?_))
 ·intro _ h
  unfold ZdQ at h
  exact oi h▸wr J 4 func9 []
 refine wa J 1 (Ye (σ:=Int) (fun st=>⟨[(0,.S 0),(1,.S 1),(5,.I st)],[],[(0,.sl rR0 c),(1,.sl rR0 d)],2⟩) (fun n st=>SI N c d n st) (r:=r) (fun _=>rfl) ?_ (fun ih=>?_))
 ·intro n22 ih21
  intro e h
  unfold SI at h
  refine ZU J 8 h (fun h=>wa J 2 (ZO [] (j1 () h))) fun h=>?_
  refine wO J 8 h fun f g h=>Ya J S7 g ?_
  refine wO J 3 h fun i j h=>Ya J S7 j (wa J 5 (Yn ?_))
  refine wB J 9 h (fun h=>oi h▸wr J 42 func9 []) fun h=>?_
  refine wB J 7 h (fun h=>oi h▸wr J 35 func9 []) fun h=>?_
  refine wB J 9 h (fun h=>oi h▸wr J 26 func9 []) fun h=>?_
  refine wO J 6 h fun k l h=>ZR (ZuL N f.ZK.ZH i.ZK.ZH _ l) [] [(0,.sl 4),(1,.sl 8)] ?_
  refine wB J 3 h (fun h=>oi h▸wr J 16 func9 []) fun h=>?_
  refine wB J 11 h (fun h=>oi h▸wr J 5 func9 []) fun h=>wa J 7 (Z4 (σ:=Unit) (fun st=>(ZhJ f i c d [(0,.S 0),(1,.S 1),(5,.I e),(6,.B 10 0),(7,.B 11 0)])) (fun st=>ZdS N e (SI N c d n22) f i=some r) ?_ (fun j34=>?_))
  ·intro _ h
   unfold ZdS at h
   refine wa J 4 (Z4 (σ:=Unit) (fun st=>⟨[(0,.S 0),(1,.S 1),(5,.I e)],[],[(0,.sl rR0 c),(1,.sl rR0 d)],12⟩) (fun st=>ZdR e (SI N c d n22)=some r) ?_ (fun j36=>?_))
   ·intro _ h
    unfold ZdR at h
    exact wa J 6 (ZO [] (ih21 (ZN (e+1)) h))
   refine wa J 1 (Ye (σ:=Int) (fun st=>(ZhJ f i c d [(0,.S 0),(1,.S 1),(5,.I e),(6,.B 10 0),(7,.B 11 0),(9,.I st)])) (fun n st=>HQ e (SI N c d n22) f i n st) (r:=r) (fun _=>rfl) ?_ (fun ih=>?_))
   ·intro n25 ih38
    intro m h
    unfold HQ at h
    refine ZU J 10 h (fun h=>wa J 2 (ZO [] (j36 () h))) fun h=>?_
    refine wO J 10 h fun o p h=>Ya J (oP (oI .i64) (oI .i64)) p ?_
    refine wO J 5 h fun q s h=>Ya J (oP (oI .i64) (oI .i64)) s (wa J 1 (eEq (Yn ?_)))
    exact eB h (fun h=>oi h▸wr J 5 func9 []) fun h=>wa J 8 (ZO [] (ih38 (ZN (m+1)) h))
   exact ZO [] (ih N 0 h)
  refine wa J 1 (Ye (σ:=Int) (fun st=>(ZhJ f i c d [(0,.S 0),(1,.S 1),(5,.I e),(6,.B 10 0),(7,.B 11 0),(8,.I st)])) (fun n st=>HR N e (SI N c d n22) f i n st) (r:=r) (fun _=>rfl) ?_ (fun ih=>?_))
  ·intro n26 ih39
   intro t h
   unfold HR at h
   refine ZU J 9 h (fun h=>wa J 2 (ZO [] (j34 () h))) fun h=>?_
   refine wO J 9 h fun u v h=>Ya J XK v ?_
   refine wO J 4 h fun x y h=>Ya J XK y (wa J 1 (eEq (Yn ?_)))
   exact eB h (fun h=>oi h▸wr J 5 func9 []) fun h=>wa J 8 (ZO [] (ih39 (ZN (t+1)) h))
  exact ZO [] (ih N 0 h)
 exact ZO [] (ih N 0 h)
theorem ZsZ (N:Nat) (c:(List T0)) (d:Int) (r:(List T1) × Int) (h:z10 N c d=some r) :
 Fn Tryz.prog 10 ⟨1,[.S 0,.I d],[(0,.sl rR0 c)],[],2,.t [.inl (.sl 1),.inl (.I r.2)],[],[(1,.own YV r.1 true)]⟩:=by
 refine Z5 func10 rfl (fun E F w=>?_)
 unfold z10 at h
 refine wB J 11 h (fun h=>oi h▸wr J 17 func10 [(1,.nil)]) fun h=>?_
 refine wB J 6 h (fun h=>oi h▸wr J 11 func10 [(1,.nil)]) fun h=>?_
 refine wO J 1 h fun e f h=>ZR (Zmf N c _ f) [] [(0,.sl 0)] ?_
 refine wB J 3 h (fun h=>oi h▸wr J 6 func10 [(1,.nil)]) fun h=>?_
 refine wO J 6 h fun g i h=>Ya J S7 i ?_
 refine wO J 1 h fun j k h=>ZR (Zmg N g _ k) [] [(0,.sl 2),(1,.sl 3),(2,.sl 4)] ?_
 exact oi h▸wr J 3 func10 [(1,.sl 5)]
theorem ZpW (N:Nat) (c:(List Yg)) (r:Bool) (h:S3 N c=some r) :
 Fn Tryz.prog 3 ⟨2,[.S 0],[(0,.sl Xm c)],[(1,.abs powT)],2,.O r,[],[(1,.abs powT)]⟩:=by
 refine Z5 func3 rfl (fun E F w=>?_)
 unfold S3 at h
 refine wa J 6 (Yy J [] oS ([(str [65])]:List ByteArray) (wa J 2 (Yy J [2] WQ ([(⟨(str [80]),([(str [65])]:List ByteArray),c,([]:List ZY)⟩:Z3)]:List Z3) ?_)))
 refine wO J 5 h fun d e h=>ZR (Zg7 N _ e) [] [(0,.sl 1)] ?_
 refine wB J 2 h (fun h=>?_) fun h=>?_
 ·refine wO J 8 h fun f g h=>ZR (Zg7 N _ g) [] [(0,.sl 1)] ?_
  exact oi h▸wr J 2 func3 []
 refine wO J 1 h fun i j h=>XA (Zu9 N ([(⟨(str [80]),([(str [65])]:List ByteArray),c,([]:List ZY)⟩:Z3)]:List Z3) _ j) [] [(0,.sl 3)] [3] (.inr ⟨rfl,trivial⟩) ?_
 refine wB J 3 h (fun h=>?_) fun h=>?_
 ·refine wO J 3 h fun k l h=>ZR (Zg7 N _ l) [] [(0,.sl 1)] ?_
  exact oi h▸wr J 2 func3 []
 refine wO J 5 h fun m o h=>ZR (Zvl N ([(⟨(str [80]),([(str [65])]:List ByteArray),c,([]:List ZY)⟩:Z3)]:List Z3) _ o) [3] [(0,.sl 3)] ?_
 have ⟨p,q,h⟩:=ob h
 refine Y7 J Ys q (wa J 1 (We J Vp q ?_))
 have ⟨s,t,h⟩:=ob h
 refine ZR (Zmq N p.ZE _ t) [] [(0,.sl 7),(1,.sl 1)] ?_
 refine wO J 11 h fun u v h=>ZR (Zvw N c _ v) [] [(0,.sl 0)] ?_
 refine wB J 15 h (fun h=>oi h▸wr J 16 func3 []) fun h=>?_
 refine wB J 5 h (fun h=>oi h▸wr J 11 func3 []) fun h=>?_
 refine wO J 2 h fun x y h=>XA (ZvC N s.1 u.1 _ y) [] [(0,.sl 9),(1,.sl 10)] [9,10] (.inr ⟨rfl,trivial⟩) ?_
 refine wB J 3 h (fun h=>oi h▸wr J 5 func3 []) fun h=>?_
 refine wB J 9 h (fun h=>oi h▸wr J 5 func3 []) fun h=>?_
 refine wO J 5 h fun z A h=>XA (ZsZ N s.1 0 _ A) [] [(0,.sl 9)] [9] (.inr ⟨rfl,⟨(Zfn (Lf (Q5 _) (Lf (Q5 _) (Q5 _)))),trivial⟩⟩) ?_
 exact oi h▸wr J 12 func3 []
end Gx
end
