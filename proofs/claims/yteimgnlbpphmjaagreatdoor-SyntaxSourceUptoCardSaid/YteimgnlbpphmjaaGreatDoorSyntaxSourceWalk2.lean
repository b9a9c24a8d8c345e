/- Each function of the statement computes what its plain definition says, part 2. -/
import Derived.Test.YteimgnlbpphmjaaGreatDoorSyntaxSourceWalk1
set_option linter.all false
section
set_option maxRecDepth 10000
set_option maxHeartbeats 4000000
open Go Go.Kx Go.Proofs Tryz
namespace Gx
theorem z120_ct (N:Nat) (p_:T8) (r:ByteArray × T8) (h:z120 N p_=some r) :
 Fn Tryz.prog 120 ⟨2,[.B 0 0],[(1,.sl rR2 p_.l')],[(0,.box (cC8 1 p_) 64)],3,.c (.s r.1),[(2,.sl rR2 r.2.l')],[(0,.box (cC8 2 r.2) 64)]⟩:=by
 refine eFn func120 rfl (fun E F w=>?_)
 unfold z120 at h
 refine wO J 7 h fun x1 d h=>eCl (z67_ct N p_ _ d) [] [(0,.bp 0 0),(1,.sl 1)] (wa J 3 (eCut (σ:=ByteArray × (List T2) × Int × Int × Int × ByteArray) (fun st=>⟨[(3,.c (.s st.2.2.2.2.2))],[(0,.box [.s st.1,.sl 3,.I st.2.2.1,.I st.2.2.2.1,.I st.2.2.2.2.1] 64)],[(1,.sl rR2 p_.l'),(3,.sl rR2 st.2.1)],4⟩) (fun st=>z120_k1 st.1 st.2.1 st.2.2.1 st.2.2.2.1 st.2.2.2.2.1 st.2.2.2.2.2=some r) ?_ (fun j1=>?_)))
 ·rintro ⟨vbk0_0_0_1,vbk0_0_1_1,vbk0_0_2_1,vbk0_0_3_1,vbk0_0_4_1,e⟩ h
  replace h:z120_k1 vbk0_0_0_1 vbk0_0_1_1 vbk0_0_2_1 vbk0_0_3_1 vbk0_0_4_1 e=some r:=h
  unfold z120_k1 at h
  cases h
  exact wr J 5 func120 [(2,.sl 3)]
 refine wa J 1 (eLoop (σ:=ByteArray × (List T2) × Int × Int × Int × ByteArray) (fun st=>⟨[(0,.B 0 0),(3,.c (.s st.2.2.2.2.2))],[(0,.box [.s st.1,.sl 3,.I st.2.2.1,.I st.2.2.2.1,.I st.2.2.2.2.1] 64)],[(1,.sl rR2 p_.l'),(3,.sl rR2 st.2.1)],4⟩) (fun n st=>z120_l2 N n st.1 st.2.1 st.2.2.1 st.2.2.2.1 st.2.2.2.2.1 st.2.2.2.2.2) (r:=r) (fun _=>rfl) ?_ (fun ih=>?_))
 ·intro n2 ih3
  rintro ⟨vbk0_0_0_3,vbk0_0_1_3,vbk0_0_2_3,vbk0_0_3_3,vbk0_0_4_3,f⟩ h
  replace h:z120_l2 N (n2+1) vbk0_0_0_3 vbk0_0_1_3 vbk0_0_2_3 vbk0_0_3_3 vbk0_0_4_3 f=some r:=h
  unfold z120_l2 at h
  refine wO J 4 h fun g i h=>eCl (z69_ct N (⟨vbk0_0_0_3,vbk0_0_1_3,vbk0_0_2_3,vbk0_0_3_3,vbk0_0_4_3⟩:T8) (str [46]) _ i) [] [(0,.bp 0 0),(1,.sl 3)] ?_
  refine wB' J 1 h (fun h=>wa J 2 (eSub [(3,.sl 4)] (j1 (g.2.s',g.2.l',g.2.next',g.2.at',g.2.e',f) h))) fun h=>?_
  refine wO J 6 h fun j k h=>eCl (z67_ct N g.2 _ k) [] [(0,.bp 0 0),(1,.sl 4)] ?_
  obtain ⟨l,m,h⟩:=ob h
  refine eCa m ?_
  obtain ⟨o,p,h⟩:=ob h
  exact eCa p (wa J 3 (eSub [(3,.sl 5)] (ih3 (j.2.s',j.2.l',j.2.next',j.2.at',j.2.e',o) h)))
 exact eSub [(3,.sl 2)] (ih N (x1.2.s',x1.2.l',x1.2.next',x1.2.at',x1.2.e',x1.1) h)
theorem z155_ct (N:Nat) (p_:T8) (r:Int × T8) (h:z155 N p_=some r) :
 Fn Tryz.prog 155 ⟨2,[.B 0 0],[(1,.sl rR2 p_.l')],[(0,.box (cC8 1 p_) 64)],3,.I r.1,[(2,.sl rR2 r.2.l')],[(0,.box (cC8 2 r.2) 64)]⟩:=by
 refine eFn func155 rfl (fun E F w=>?_)
 unfold z155 at h
 refine wO J 7 h fun x1 c h=>eCl (z119_ct N p_ _ c) [] [(0,.bp 0 0),(1,.sl 1)] ?_
 refine wB' J 10 h (fun h=>?_) fun h=>?_
 ·cases h
  exact wr J 19 func155 [(2,.sl 1)]
 refine wO J 4 h fun x2 d h=>eCl (z118_ct N p_ 3 _ d) [] [(0,.bp 0 0),(1,.sl 1)] ?_
 cases h
 exact wr J 5 func155 [(2,.sl 3)]
theorem z156_ct (N:Nat) (p_:T8) (r:Int × T8) (h:z156 N p_=some r) :
 Fn Tryz.prog 156 ⟨2,[.B 0 0],[(1,.sl rR2 p_.l')],[(0,.box (cC8 1 p_) 64)],3,.I r.1,[(2,.sl rR2 r.2.l')],[(0,.box (cC8 2 r.2) 64)]⟩:=by
 refine eFn func156 rfl (fun E F w=>?_)
 unfold z156 at h
 refine wO J 8 h fun x1 c h=>eCl (z69_ct N p_ (str [45]) _ c) [] [(0,.bp 0 0),(1,.sl 1)] ?_
 refine wB J 1 h (fun h=>?_) fun h=>?_
 ·refine wO J 4 h fun x2 d h=>eCl (z155_ct N x1.2 _ d) [] [(0,.bp 0 0),(1,.sl 2)] ?_
  cases h
  exact wr J 3 func156 [(2,.sl 3)]
 refine wO J 5 h fun x3 e h=>eCl (z155_ct N x1.2 _ e) [] [(0,.bp 0 0),(1,.sl 2)] ?_
 cases h
 exact wr J 2 func156 [(2,.sl 3)]
theorem z121_ct (N:Nat) (p_:T8) (r:T0 × T8) (h:z121 N p_=some r) :
 Fn Tryz.prog 121 ⟨2,[.B 0 0],[(1,.sl rR2 p_.l')],[(0,.box (cC8 1 p_) 64)],3,.a (cC0 r.1),[(2,.sl rR2 r.2.l')],[(0,.box (cC8 2 r.2) 64)]⟩:=by
 refine eFn func121 rfl (fun E F w=>?_)
 unfold z121 at h
 refine wO J 7 h fun x1 c h=>eCl (z67_ct N p_ _ c) [] [(0,.bp 0 0),(1,.sl 1)] ?_
 refine wO J 7 h fun x2 d h=>eCl (z66_ct N x1.2 (str [58]) _ d) [] [(0,.bp 0 0),(1,.sl 3)] ?_
 refine wO J 5 h fun x3 e h=>eCl (z69_ct N x2 (str [116,101,120,116]) _ e) [] [(0,.bp 0 0),(1,.sl 5)] ?_
 refine wB J 1 h (fun h=>?_) fun h=>?_
 ·refine wO J 4 h fun x4 f h=>eCl (z155_ct N x3.2 _ f) [] [(0,.bp 0 0),(1,.sl 6)] ?_
  refine wO J 7 h fun x5 g h=>eCl (z66_ct N x4.2 (str [46,46]) _ g) [] [(0,.bp 0 0),(1,.sl 7)] ?_
  refine wO J 4 h fun x6 i h=>eCl (z155_ct N x5 _ i) [] [(0,.bp 0 0),(1,.sl 8)] ?_
  cases h
  exact wr J 9 func121 [(2,.sl 9)]
 refine wO J 5 h fun x7 j h=>eCl (z66_ct N x3.2 (str [105,110,116]) _ j) [] [(0,.bp 0 0),(1,.sl 6)] ?_
 refine wO J 4 h fun x8 k h=>eCl (z156_ct N x7 _ k) [] [(0,.bp 0 0),(1,.sl 7)] ?_
 refine wO J 7 h fun x9 l h=>eCl (z66_ct N x8.2 (str [46,46]) _ l) [] [(0,.bp 0 0),(1,.sl 8)] ?_
 refine wO J 4 h fun m o h=>eCl (z156_ct N x9 _ o) [] [(0,.bp 0 0),(1,.sl 9)] ?_
 cases h
 exact wr J 9 func121 [(2,.sl 10)]
theorem z172_ct (N:Nat) (path_:ByteArray) (r:ByteArray × ByteArray) (h:z172 N path_=some r) :
 Fn Tryz.prog 172 ⟨0,[.c (.s path_)],[],[],0,.t [.inl (.s r.1),.inl (.s r.2)],[],[]⟩:=by
 refine eFn func172 rfl (fun E F w=>?_)
 unfold z172 at h
 refine wa J 13 (eCut (σ:=Unit) (fun st=>(zz0 [(0,.c (.s path_))])) (fun st=>z172_k1 path_=some r) ?_ (fun j1=>?_))
 ·intro _ h
  replace h:z172_k1 path_=some r:=h
  unfold z172_k1 at h
  cases h
  exact wr J 6 func172 []
 refine wa J 1 (eLoop (σ:=Int) (fun st=>(zz0 [(0,.c (.s path_)),(4,.I st)])) (fun n st=>z172_l2 path_ n st) (r:=r) (fun _=>rfl) ?_ (fun ih=>?_))
 ·intro n2 ih3
  intro d h
  replace h:z172_l2 path_ (n2+1) d=some r:=h
  unfold z172_l2 at h
  refine wB' J 6 h (fun h=>wa J 2 (eSub [] (j1 () h))) fun h=>?_
  refine wO J 8 h fun e f h=>eSx J f ?_
  refine wB' J 2 h (fun h=>wa J 8 (eSub [] (ih3 (w64 (d-1)) h))) fun h=>?_
  refine wO J 5 h fun g i h=>eSs J i ?_
  refine wO J 3 h fun j k h=>eSs J k (wa J 2 (eEnd ?_))
  cases h
  exact eRet J func172 []
 exact eSub [] (ih N (w64 ((path_.size:Int)-1)) h)
theorem z157_ct (N:Nat) (p_:T8) (r:T13 × T8) (h:z157 N p_=some r) :
 Fn Tryz.prog 157 ⟨2,[.B 0 0],[(1,.sl rR2 p_.l')],[(0,.box (cC8 1 p_) 64)],3,.a (cC13 r.1),[(2,.sl rR2 r.2.l')],[(0,.box (cC8 2 r.2) 64)]⟩:=by
 refine eFn func157 rfl (fun E F w=>?_)
 unfold z157 at h
 refine wO J 7 h fun x1 c h=>eCl (z119_ct N p_ _ c) [] [(0,.bp 0 0),(1,.sl 1)] ?_
 refine wB J 10 h (fun h=>?_) fun h=>?_
 ·refine wO J 8 h fun x2 d h=>eCl (z156_ct N p_ _ d) [] [(0,.bp 0 0),(1,.sl 1)] ?_
  cases h
  exact wr J 3 func157 [(2,.sl 4)]
 refine wO J 1 h fun x3 e h=>eCl (z71_ct N p_ (str [45]) _ e) [] [(0,.bp 0 0),(1,.sl 1)] ?_
 refine wB J 2 h (fun h=>?_) fun h=>?_
 ·refine wO J 4 h fun x4 f h=>eCl (z156_ct N p_ _ f) [] [(0,.bp 0 0),(1,.sl 1)] ?_
  cases h
  exact wr J 3 func157 [(2,.sl 4)]
 refine wO J 12 h fun x5 g h=>eCl (z69_ct N p_ (str [108,101,110]) _ g) [] [(0,.bp 0 0),(1,.sl 1)] (wa J 1 (eCut (σ:=ByteArray × (List T2) × Int × Int × Int × Int × ByteArray × ByteArray) (fun st=>⟨[(0,.B 0 0),(2,.B 2 0),(4,.B 4 0)],[(0,.box [.s st.1,.sl 6,.I st.2.2.1,.I st.2.2.2.1,.I st.2.2.2.2.1] 64),(2,.box [.I 0,.s (str []),.s (str []),.I 0] 85),(4,.box [.I st.2.2.2.2.2.1,.s st.2.2.2.2.2.2.1,.s st.2.2.2.2.2.2.2,.I 0] 85)],[(1,.sl rR2 p_.l'),(6,.sl rR2 st.2.1)],7⟩) (fun st=>z157_k1 N st.1 st.2.1 st.2.2.1 st.2.2.2.1 st.2.2.2.2.1 st.2.2.2.2.2.1 st.2.2.2.2.2.2.1 st.2.2.2.2.2.2.2=some r) ?_ (fun j1=>?_)))
 ·rintro ⟨vbk0_0_0_1,vbk0_0_1_1,vbk0_0_2_1,vbk0_0_3_1,vbk0_0_4_1,i,j,k⟩ h
  replace h:z157_k1 N vbk0_0_0_1 vbk0_0_1_1 vbk0_0_2_1 vbk0_0_3_1 vbk0_0_4_1 i j k=some r:=h
  unfold z157_k1 at h
  refine wO J 5 h fun l m h=>eCl (z69_ct N (⟨vbk0_0_0_1,vbk0_0_1_1,vbk0_0_2_1,vbk0_0_3_1,vbk0_0_4_1⟩:T8) (str [43]) _ m) [] [(0,.bp 0 0),(1,.sl 6)] ?_
  refine wB J 2 h (fun h=>?_) fun h=>?_
  ·refine wO J 3 h fun o p h=>eCl (z155_ct N l.2 _ p) [] [(0,.bp 0 0),(1,.sl 7)] ?_
   cases h
   exact wr J 9 func157 [(2,.sl 8)]
  refine wO J 4 h fun q t h=>eCl (z69_ct N l.2 (str [45]) _ t) [] [(0,.bp 0 0),(1,.sl 7)] ?_
  refine wB' J 2 h (fun h=>?_) fun h=>?_
  ·cases h
   exact wr J 8 func157 [(2,.sl 8)]
  refine wO J 3 h fun u v h=>eCl (z155_ct N q.2 _ v) [] [(0,.bp 0 0),(1,.sl 8)] ?_
  cases h
  exact wr J 10 func157 [(2,.sl 9)]
 refine eB' h (fun h=>?_) fun h=>?_
 ·refine wO J 3 h fun x y h=>eCl (z120_ct N x5.2 _ y) [] [(0,.bp 0 0),(1,.sl 5)] ?_
  obtain ⟨z,A,h⟩:=ob h
  exact eCl (z172_ct N x.1 _ A) [] [] (wa J 8 (eSub [] (j1 (x.2.s',x.2.l',x.2.next',x.2.at',x.2.e',2,z.1,z.2) h)))
 refine wO J 9 h fun C D h=>eCl (z66_ct N x5.2 (str [40]) _ D) [] [(0,.bp 0 0),(1,.sl 5)] ?_
 refine wO J 4 h fun G H h=>eCl (z120_ct N C _ H) [] [(0,.bp 0 0),(1,.sl 6)] ?_
 obtain ⟨R,T,h⟩:=ob h
 refine eCl (z172_ct N G.1 _ T) [] [] ?_
 exact wO J 10 h fun U X h=>eCl (z66_ct N G.2 (str [41]) _ X) [] [(0,.bp 0 0),(1,.sl 7)] (wa J 1 (eSub [(6,.sl 8)] (j1 (U.s',U.l',U.next',U.at',U.e',3,R.1,R.2) h)))
theorem z122_ct (N:Nat) (p_:T8) (r:T4 × T8) (h:z122 N p_=some r) :
 Fn Tryz.prog 122 ⟨2,[.B 0 0],[(1,.sl rR2 p_.l')],[(0,.box (cC8 1 p_) 64)],3,.a [.I r.1.Left.Kind,.s r.1.Left.Message,.s r.1.Left.Field,.I r.1.Left.N,.s r.1.Op,.I r.1.Right.Kind,.s r.1.Right.Message,.s r.1.Right.Field,.I r.1.Right.N],[(2,.sl rR2 r.2.l')],[(0,.box (cC8 2 r.2) 64)]⟩:=by
 refine eFn func122 rfl (fun E F w=>?_)
 unfold z122 at h
 refine wO J 7 h fun x1 c h=>eCl (z157_ct N p_ _ c) [] [(0,.bp 0 0),(1,.sl 1)] ?_
 refine wO J 1 h fun x2 d h=>eCl (z119_ct N x1.2 _ d) [] [(0,.bp 0 0),(1,.sl 3)] ?_
 refine wO J 9 h fun x3 e h=>eCl (z69_ct N x1.2 (str [60]) _ e) [] [(0,.bp 0 0),(1,.sl 3)] ?_
 refine wB' J 2 h (fun h=>?_) fun h=>?_
 ·refine wO J 20 h fun f g h=>eCl (z157_ct N x3.2 _ g) [] [(0,.bp 0 0),(1,.sl 5)] ?_
  cases h
  exact wr J 8 func122 [(2,.sl 6)]
 refine wO J 1 h fun x4 i h=>eCl (z69_ct N x3.2 (str [60,61]) _ i) [] [(0,.bp 0 0),(1,.sl 5)] ?_
 refine wB' J 3 h (fun h=>?_) fun h=>?_
 ·refine wO J 15 h fun j k h=>eCl (z157_ct N x4.2 _ k) [] [(0,.bp 0 0),(1,.sl 6)] ?_
  cases h
  exact wr J 8 func122 [(2,.sl 7)]
 refine wO J 1 h fun x5 l h=>eCl (z69_ct N x4.2 (str [61,61]) _ l) [] [(0,.bp 0 0),(1,.sl 6)] ?_
 refine wB' J 3 h (fun h=>?_) fun h=>?_
 ·refine wO J 10 h fun m o h=>eCl (z157_ct N x5.2 _ o) [] [(0,.bp 0 0),(1,.sl 7)] ?_
  cases h
  exact wr J 8 func122 [(2,.sl 8)]
 refine wO J 1 h fun x6 p h=>eCl (z69_ct N x5.2 (str [62,61]) _ p) [] [(0,.bp 0 0),(1,.sl 7)] ?_
 refine wB' J 3 h (fun h=>?_) fun h=>?_
 ·refine wO J 5 h fun x9 q h=>eCl (z157_ct N x6.2 _ q) [] [(0,.bp 0 0),(1,.sl 8)] ?_
  cases h
  exact wr J 8 func122 [(2,.sl 9)]
 refine wO J 3 h fun x7 t h=>eCl (z66_ct N x6.2 (str [62]) _ t) [] [(0,.bp 0 0),(1,.sl 8)] ?_
 refine wO J 4 h fun x8 u h=>eCl (z157_ct N x7 _ u) [] [(0,.bp 0 0),(1,.sl 9)] ?_
 cases h
 exact wr J 8 func122 [(2,.sl 10)]
theorem z70_ct (N:Nat) (p_:T8) (r:T6 × T8) (h:z70 N p_=some r) :
 Fn Tryz.prog 70 ⟨2,[.B 0 0],[(1,.sl rR2 p_.l')],[(0,.box (cC8 1 p_) 64)],5,.a [.s r.1.Name,.sl 2,.sl 3],(vV6 2 3 r.1 [(4,.sl rR2 r.2.l')]),[(0,.box (cC8 4 r.2) 64)]⟩:=by
 refine eFn func70 rfl (fun E F w=>?_)
 unfold z70 at h
 refine wO J 7 h fun x1 c h=>eCl (z120_ct N p_ _ c) [] [(0,.bp 0 0),(1,.sl 1)] ?_
 refine wO J 7 h fun x2 d h=>eCl (z66_ct N x1.2 (str [40]) _ d) [] [(0,.bp 0 0),(1,.sl 3)] ?_
 refine wO J 5 h fun x3 e h=>eCl (z71_ct N x2 (str [41]) _ e) [] [(0,.bp 0 0),(1,.sl 5)] (wa J 2 (eCut (σ:=ByteArray × (List T2) × Int × Int × Int × (List T0)) (fun st=>⟨[(0,.B 0 0),(2,.B 2 0),(3,.B 4 0)],[(0,.box [.s st.1,.sl 6,.I st.2.2.1,.I st.2.2.2.1,.I st.2.2.2.2.1] 64),(2,.box [.s (str []),.nil,.nil] 80),(4,.box [.s x1.1,.sl 7,.nil] 80),(7,.own rR0 st.2.2.2.2.2 true)],[(1,.sl rR2 p_.l'),(6,.sl rR2 st.2.1)],8⟩) (fun st=>z70_k3 N x1 st.1 st.2.1 st.2.2.1 st.2.2.2.1 st.2.2.2.2.1 st.2.2.2.2.2=some r) ?_ (fun j1=>?_)))
 ·rintro ⟨vbk0_0_0_1,vbk0_0_1_1,vbk0_0_2_1,vbk0_0_3_1,vbk0_0_4_1,f⟩ h
  replace h:z70_k3 N x1 vbk0_0_0_1 vbk0_0_1_1 vbk0_0_2_1 vbk0_0_3_1 vbk0_0_4_1 f=some r:=h
  unfold z70_k3 at h
  refine wO J 3 h fun g i h=>eCl (z66_ct N (⟨vbk0_0_0_1,vbk0_0_1_1,vbk0_0_2_1,vbk0_0_3_1,vbk0_0_4_1⟩:T8) (str [41]) _ i) [] [(0,.bp 0 0),(1,.sl 6)] ?_
  refine wO J 5 h fun j k h=>eCl (z69_ct N g (str [119,104,101,114,101]) _ k) [] [(0,.bp 0 0),(1,.sl 8)] ?_
  refine wB' J 1 h (fun h=>?_) fun h=>?_
  ·refine wO J 5 h fun l m h=>eCl (z66_ct N j.2 (str [59]) _ m) [] [(0,.bp 0 0),(1,.sl 9)] (wa J 6 (eFr [7] ?_))
   cases h
   exact eRet J func70 [(2,.sl 7),(3,.nil),(4,.sl 10)]
  refine wO J 6 h fun o p h=>eCl (z122_ct N j.2 _ p) [] [(0,.bp 0 0),(1,.sl 9)] (eBs J [] oO4 ([o.1]:List T4) ?_)
  obtain ⟨q,t,h⟩:=ob h
  refine eAn J rR4 t (wa J 2 (eEnd (eCut (σ:=ByteArray × (List T2) × Int × Int × Int × (List T4)) (fun st=>(zz22 st.1 st.2.2.1 st.2.2.2.1 st.2.2.2.2.1 x1.1 f st.2.2.2.2.2 p_.l' st.2.1 [(0,.B 0 0),(2,.B 2 0),(3,.B 4 0)])) (fun st=>z70_k1 N x1 f st.1 st.2.1 st.2.2.1 st.2.2.2.1 st.2.2.2.2.1 st.2.2.2.2.2=some r) ?_ (fun j5=>?_))))
  ·rintro ⟨vbk0_0_0_5,vbk0_0_1_5,vbk0_0_2_5,vbk0_0_3_5,vbk0_0_4_5,u⟩ h
   replace h:z70_k1 N x1 f vbk0_0_0_5 vbk0_0_1_5 vbk0_0_2_5 vbk0_0_3_5 vbk0_0_4_5 u=some r:=h
   unfold z70_k1 at h
   refine wO J 3 h fun v x h=>eCl (z66_ct N (⟨vbk0_0_0_5,vbk0_0_1_5,vbk0_0_2_5,vbk0_0_3_5,vbk0_0_4_5⟩:T8) (str [59]) _ x) [] [(0,.bp 0 0),(1,.sl 13)] (wa J 6 (eFr [7] (eFr [14] ?_)))
   cases h
   exact eRet J func70 [(2,.sl 7),(3,.sl 14),(4,.sl 15)]
  refine wa J 1 (eLoop (σ:=ByteArray × (List T2) × Int × Int × Int × (List T4)) (fun st=>(zz22 st.1 st.2.2.1 st.2.2.2.1 st.2.2.2.2.1 x1.1 f st.2.2.2.2.2 p_.l' st.2.1 [(0,.B 0 0),(2,.B 2 0),(3,.B 4 0)])) (fun n st=>z70_l2 N x1 f n st.1 st.2.1 st.2.2.1 st.2.2.2.1 st.2.2.2.2.1 st.2.2.2.2.2) (r:=r) (fun _=>rfl) ?_ (fun ih=>?_))
  ·intro n4 ih7
   rintro ⟨vbk0_0_0_7,vbk0_0_1_7,vbk0_0_2_7,vbk0_0_3_7,vbk0_0_4_7,y⟩ h
   replace h:z70_l2 N x1 f (n4+1) vbk0_0_0_7 vbk0_0_1_7 vbk0_0_2_7 vbk0_0_3_7 vbk0_0_4_7 y=some r:=h
   unfold z70_l2 at h
   refine wO J 4 h fun z A h=>eCl (z69_ct N (⟨vbk0_0_0_7,vbk0_0_1_7,vbk0_0_2_7,vbk0_0_3_7,vbk0_0_4_7⟩:T8) (str [97,110,100]) _ A) [] [(0,.bp 0 0),(1,.sl 13)] ?_
   refine wB' J 1 h (fun h=>wa J 2 (eSub [(13,.sl 15)] (j5 (z.2.s',z.2.l',z.2.next',z.2.at',z.2.e',y) h))) fun h=>?_
   refine wO J 7 h fun C D h=>eCl (z122_ct N z.2 _ D) [] [(0,.bp 0 0),(1,.sl 15)] (eBs J [] oO4 ([C.1]:List T4) ?_)
   obtain ⟨G,H,h⟩:=ob h
   exact eAp J rR4 H (wa J 2 (eEnd (wa J 1 (eSub [(13,.sl 16),(14,.sl 18)] (ih7 (C.2.s',C.2.l',C.2.next',C.2.at',C.2.e',G) h)))))
  exact eSub [(13,.sl 10),(14,.sl 12)] (ih N (o.2.s',o.2.l',o.2.next',o.2.at',o.2.e',q) h)
 refine eB' h (fun h=>wa J 2 (eSub [(6,.sl 5),(7,.nil)] (j1 (x2.s',x2.l',x2.next',x2.at',x2.e',([]:List T0)) h))) fun h=>?_
 refine wO J 6 h fun R T h=>eCl (z121_ct N x2 _ T) [] [(0,.bp 0 0),(1,.sl 5)] (eBs J [] oO0 ([R.1]:List T0) ?_)
 obtain ⟨U,X,h⟩:=ob h
 refine eAn J rR0 X (wa J 2 (eEnd (eCut (σ:=ByteArray × (List T2) × Int × Int × Int × (List T0)) (fun st=>(zz23 st.1 st.2.2.1 st.2.2.2.1 st.2.2.2.2.1 x1.1 st.2.2.2.2.2 p_.l' st.2.1 [(0,.B 0 0),(2,.B 2 0),(3,.B 4 0)])) (fun st=>z70_k4 N x1 st.1 st.2.1 st.2.2.1 st.2.2.2.1 st.2.2.2.2.1 st.2.2.2.2.2=some r) ?_ (fun j8=>?_))))
 ·rintro ⟨vbk0_0_0_8,vbk0_0_1_8,vbk0_0_2_8,vbk0_0_3_8,vbk0_0_4_8,Y⟩ h
  replace h:z70_k4 N x1 vbk0_0_0_8 vbk0_0_1_8 vbk0_0_2_8 vbk0_0_3_8 vbk0_0_4_8 Y=some r:=h
  unfold z70_k4 at h
  exact eSub [(6,.sl 9),(7,.sl 10)] (j1 (vbk0_0_0_8,vbk0_0_1_8,vbk0_0_2_8,vbk0_0_3_8,vbk0_0_4_8,Y) h)
 refine wa J 1 (eLoop (σ:=ByteArray × (List T2) × Int × Int × Int × (List T0)) (fun st=>(zz23 st.1 st.2.2.1 st.2.2.2.1 st.2.2.2.2.1 x1.1 st.2.2.2.2.2 p_.l' st.2.1 [(0,.B 0 0),(2,.B 2 0),(3,.B 4 0)])) (fun n st=>z70_l5 N x1 n st.1 st.2.1 st.2.2.1 st.2.2.2.1 st.2.2.2.2.1 st.2.2.2.2.2) (r:=r) (fun _=>rfl) ?_ (fun ih=>?_))
 ·intro n6 ih10
  rintro ⟨vbk0_0_0_10,vbk0_0_1_10,vbk0_0_2_10,vbk0_0_3_10,vbk0_0_4_10,Z⟩ h
  replace h:z70_l5 N x1 (n6+1) vbk0_0_0_10 vbk0_0_1_10 vbk0_0_2_10 vbk0_0_3_10 vbk0_0_4_10 Z=some r:=h
  unfold z70_l5 at h
  refine wO J 4 h fun a0 b0 h=>eCl (z69_ct N (⟨vbk0_0_0_10,vbk0_0_1_10,vbk0_0_2_10,vbk0_0_3_10,vbk0_0_4_10⟩:T8) (str [44]) _ b0) [] [(0,.bp 0 0),(1,.sl 9)] ?_
  refine wB' J 1 h (fun h=>wa J 2 (eSub [(9,.sl 11)] (j8 (a0.2.s',a0.2.l',a0.2.next',a0.2.at',a0.2.e',Z) h))) fun h=>?_
  refine wO J 7 h fun c0 d0 h=>eCl (z121_ct N a0.2 _ d0) [] [(0,.bp 0 0),(1,.sl 11)] (eBs J [] oO0 ([c0.1]:List T0) ?_)
  obtain ⟨e0,f0,h⟩:=ob h
  exact eAp J rR0 f0 (wa J 2 (eEnd (wa J 1 (eSub [(9,.sl 12),(10,.sl 14)] (ih10 (c0.2.s',c0.2.l',c0.2.next',c0.2.at',c0.2.e',e0) h)))))
 exact eSub [(9,.sl 6),(10,.sl 8)] (ih N (R.2.s',R.2.l',R.2.next',R.2.at',R.2.e',U) h)
theorem z124_ct (N:Nat) (rc:T8→Option (T5 × T8)) (rc_Pref10_parser_item_ct:(∀ (p_:T8) (r:T5 × T8),rc p_=some r→Fn Tryz.prog 72 ⟨2,[.B 0 0],[(1,.sl rR2 p_.l')],[(0,.box (cC8 1 p_) 64)],5,.a [.I r.1.Kind,.s r.1.From,.sl 2,.s r.1.Name,.s r.1.As,.I r.1.Ticks,.sl 3],[(2,.sl rS r.1.To),(3,.sl (rSl rR5) r.1.Blocks),(4,.sl rR2 r.2.l')],[(0,.box (cC8 4 r.2) 64)]⟩)) (p_:T8) (r:(List T5) × T8) (h:z124 N rc p_=some r) :
 Fn Tryz.prog 124 ⟨2,[.B 0 0],[(1,.sl rR2 p_.l')],[(0,.box (cC8 1 p_) 64)],4,.S 2,[(3,.sl rR2 r.2.l')],[(2,.own rR5 r.1 true),(0,.box (cC8 3 r.2) 64)]⟩:=by
 refine eFn func124 rfl (fun E F w=>?_)
 unfold z124 at h
 refine wO J 11 h fun x1 c h=>eCl (z66_ct N p_ (str [123]) _ c) [] [(0,.bp 0 0),(1,.sl 1)] (wa J 2 (eCut (σ:=ByteArray × (List T2) × Int × Int × Int × (List T5)) (fun st=>⟨[(0,.B 0 0),(3,.S 4)],[(0,.box [.s st.1,.sl 3,.I st.2.2.1,.I st.2.2.2.1,.I st.2.2.2.2.1] 64),(4,.own rR5 st.2.2.2.2.2 true)],[(1,.sl rR2 p_.l'),(3,.sl rR2 st.2.1)],5⟩) (fun st=>z124_k1 N st.1 st.2.1 st.2.2.1 st.2.2.2.1 st.2.2.2.2.1 st.2.2.2.2.2=some r) ?_ (fun j1=>?_)))
 ·rintro ⟨vbk0_0_0_1,vbk0_0_1_1,vbk0_0_2_1,vbk0_0_3_1,vbk0_0_4_1,d⟩ h
  replace h:z124_k1 N vbk0_0_0_1 vbk0_0_1_1 vbk0_0_2_1 vbk0_0_3_1 vbk0_0_4_1 d=some r:=h
  unfold z124_k1 at h
  refine wO J 3 h fun e f h=>eCl (z66_ct N (⟨vbk0_0_0_1,vbk0_0_1_1,vbk0_0_2_1,vbk0_0_3_1,vbk0_0_4_1⟩:T8) (str [125]) _ f) [] [(0,.bp 0 0),(1,.sl 3)] ?_
  cases h
  exact wr J 6 func124 [(2,.sl 4),(3,.sl 5)]
 refine wa J 1 (eLoop (σ:=ByteArray × (List T2) × Int × Int × Int × (List T5)) (fun st=>⟨[(0,.B 0 0),(3,.S 4)],[(0,.box [.s st.1,.sl 3,.I st.2.2.1,.I st.2.2.2.1,.I st.2.2.2.2.1] 64),(4,.own rR5 st.2.2.2.2.2 true)],[(1,.sl rR2 p_.l'),(3,.sl rR2 st.2.1)],5⟩) (fun n st=>z124_l2 N rc n st.1 st.2.1 st.2.2.1 st.2.2.2.1 st.2.2.2.2.1 st.2.2.2.2.2) (r:=r) (fun _=>rfl) ?_ (fun ih=>?_))
 ·intro n2 ih3
  rintro ⟨vbk0_0_0_3,vbk0_0_1_3,vbk0_0_2_3,vbk0_0_3_3,vbk0_0_4_3,g⟩ h
  replace h:z124_l2 N rc (n2+1) vbk0_0_0_3 vbk0_0_1_3 vbk0_0_2_3 vbk0_0_3_3 vbk0_0_4_3 g=some r:=h
  unfold z124_l2 at h
  refine wB' J 9 h (fun h=>wa J 7 (eSub [] (j1 (vbk0_0_0_3,vbk0_0_1_3,vbk0_0_2_3,vbk0_0_3_3,vbk0_0_4_3,g) h))) fun h=>?_
  refine wO J 1 h fun i j h=>eCl (z71_ct N (⟨vbk0_0_0_3,vbk0_0_1_3,vbk0_0_2_3,vbk0_0_3_3,vbk0_0_4_3⟩:T8) (str [125]) _ j) [] [(0,.bp 0 0),(1,.sl 3)] ?_
  refine wB' J 3 h (fun h=>wa J 2 (eSub [] (j1 (vbk0_0_0_3,vbk0_0_1_3,vbk0_0_2_3,vbk0_0_3_3,vbk0_0_4_3,g) h))) fun h=>?_
  refine wO J 6 h fun k l h=>eCl (rc_Pref10_parser_item_ct (⟨vbk0_0_0_3,vbk0_0_1_3,vbk0_0_2_3,vbk0_0_3_3,vbk0_0_4_3⟩:T8) _ l) [] [(0,.bp 0 0),(1,.sl 3)] (eBs J [] oO5 ([k.1]:List T5) ?_)
  obtain ⟨m,o,h⟩:=ob h
  exact eAp J rR5 o (wa J 3 (eSub [(3,.sl 7),(4,.sl 9)] (ih3 (k.2.s',k.2.l',k.2.next',k.2.at',k.2.e',m) h)))
 exact eSub [(3,.sl 2),(4,.nil)] (ih N (x1.s',x1.l',x1.next',x1.at',x1.e',([]:List T5)) h)
theorem z125_ct (N:Nat) (rc:T8→Option (T5 × T8)) (rc_Pref10_parser_item_ct:(∀ (p_:T8) (r:T5 × T8),rc p_=some r→Fn Tryz.prog 72 ⟨2,[.B 0 0],[(1,.sl rR2 p_.l')],[(0,.box (cC8 1 p_) 64)],5,.a [.I r.1.Kind,.s r.1.From,.sl 2,.s r.1.Name,.s r.1.As,.I r.1.Ticks,.sl 3],[(2,.sl rS r.1.To),(3,.sl (rSl rR5) r.1.Blocks),(4,.sl rR2 r.2.l')],[(0,.box (cC8 4 r.2) 64)]⟩)) (p_:T8) (keyword_:ByteArray) (r:(List (List T5)) × T8) (h:z125 N rc p_ keyword_=some r) :
 Fn Tryz.prog 125 ⟨2,[.B 0 0,.c (.s keyword_)],[(1,.sl rR2 p_.l')],[(0,.box (cC8 1 p_) 64)],4,.S 2,[(3,.sl rR2 r.2.l')],[(2,.own (rSl rR5) r.1 true),(0,.box (cC8 3 r.2) 64)]⟩:=by
 refine eFn func125 rfl (fun E F w=>?_)
 unfold z125 at h
 refine wO J 7 h fun x1 d h=>eCl (z124_ct N rc rc_Pref10_parser_item_ct p_ _ d) [] [(0,.bp 0 0),(1,.sl 1)] (eBs J [2] (oSl rR5) ([x1.1]:List (List T5)) (wa J 3 (eCut (σ:=ByteArray × (List T2) × Int × Int × Int × (List (List T5))) (fun st=>⟨[(5,.S 6)],[(0,.box [.s st.1,.sl 5,.I st.2.2.1,.I st.2.2.2.1,.I st.2.2.2.2.1] 64),(6,.own (rSl rR5) st.2.2.2.2.2 true)],[(1,.sl rR2 p_.l'),(5,.sl rR2 st.2.1)],7⟩) (fun st=>z125_k1 st.1 st.2.1 st.2.2.1 st.2.2.2.1 st.2.2.2.2.1 st.2.2.2.2.2=some r) ?_ (fun j1=>?_))))
 ·rintro ⟨vbk0_0_0_1,vbk0_0_1_1,vbk0_0_2_1,vbk0_0_3_1,vbk0_0_4_1,e⟩ h
  replace h:z125_k1 vbk0_0_0_1 vbk0_0_1_1 vbk0_0_2_1 vbk0_0_3_1 vbk0_0_4_1 e=some r:=h
  unfold z125_k1 at h
  cases h
  exact wr J 5 func125 [(2,.sl 6),(3,.sl 5)]
 refine wa J 1 (eLoop (σ:=ByteArray × (List T2) × Int × Int × Int × (List (List T5))) (fun st=>⟨[(0,.B 0 0),(1,.c (.s keyword_)),(5,.S 6)],[(0,.box [.s st.1,.sl 5,.I st.2.2.1,.I st.2.2.2.1,.I st.2.2.2.2.1] 64),(6,.own (rSl rR5) st.2.2.2.2.2 true)],[(1,.sl rR2 p_.l'),(5,.sl rR2 st.2.1)],7⟩) (fun n st=>z125_l2 N rc keyword_ n st.1 st.2.1 st.2.2.1 st.2.2.2.1 st.2.2.2.2.1 st.2.2.2.2.2) (r:=r) (fun _=>rfl) ?_ (fun ih=>?_))
 ·intro n2 ih3
  rintro ⟨vbk0_0_0_3,vbk0_0_1_3,vbk0_0_2_3,vbk0_0_3_3,vbk0_0_4_3,f⟩ h
  replace h:z125_l2 N rc keyword_ (n2+1) vbk0_0_0_3 vbk0_0_1_3 vbk0_0_2_3 vbk0_0_3_3 vbk0_0_4_3 f=some r:=h
  unfold z125_l2 at h
  refine wO J 5 h fun g i h=>eCl (z69_ct N (⟨vbk0_0_0_3,vbk0_0_1_3,vbk0_0_2_3,vbk0_0_3_3,vbk0_0_4_3⟩:T8) keyword_ _ i) [] [(0,.bp 0 0),(1,.sl 5)] ?_
  refine wB' J 1 h (fun h=>wa J 2 (eSub [(5,.sl 7)] (j1 (g.2.s',g.2.l',g.2.next',g.2.at',g.2.e',f) h))) fun h=>?_
  refine wO J 6 h fun j k h=>eCl (z124_ct N rc rc_Pref10_parser_item_ct g.2 _ k) [] [(0,.bp 0 0),(1,.sl 7)] (eBs J [8] (oSl rR5) ([j.1]:List (List T5)) ?_)
  obtain ⟨l,m,h⟩:=ob h
  exact eAp J (rSl rR5) m (wa J 3 (eSub [(5,.sl 9),(6,.sl 11)] (ih3 (j.2.s',j.2.l',j.2.next',j.2.at',j.2.e',l) h)))
 exact eSub [(5,.sl 3),(6,.sl 4)] (ih N (x1.2.s',x1.2.l',x1.2.next',x1.2.at',x1.2.e',([x1.1]:List (List T5))) h)
theorem z123_ct (N:Nat) (rc:T8→Option (T5 × T8)) (rc_Pref10_parser_item_ct:(∀ (p_:T8) (r:T5 × T8),rc p_=some r→Fn Tryz.prog 72 ⟨2,[.B 0 0],[(1,.sl rR2 p_.l')],[(0,.box (cC8 1 p_) 64)],5,.a [.I r.1.Kind,.s r.1.From,.sl 2,.s r.1.Name,.s r.1.As,.I r.1.Ticks,.sl 3],[(2,.sl rS r.1.To),(3,.sl (rSl rR5) r.1.Blocks),(4,.sl rR2 r.2.l')],[(0,.box (cC8 4 r.2) 64)]⟩)) (p_:T8) (r:T5 × T8) (h:z123 N rc p_=some r) :
 Fn Tryz.prog 123 ⟨2,[.B 0 0],[(1,.sl rR2 p_.l')],[(0,.box (cC8 1 p_) 64)],5,.a [.I r.1.Kind,.s r.1.From,.sl 2,.s r.1.Name,.s r.1.As,.I r.1.Ticks,.sl 3],[(2,.sl rS r.1.To),(3,.sl (rSl rR5) r.1.Blocks),(4,.sl rR2 r.2.l')],[(0,.box (cC8 4 r.2) 64)]⟩:=by
 refine eFn func123 rfl (fun E F w=>?_)
 unfold z123 at h
 refine wO J 7 h fun x1 c h=>eCl (z66_ct N p_ (str [97,116]) _ c) [] [(0,.bp 0 0),(1,.sl 1)] ?_
 refine wO J 4 h fun x2 d h=>eCl (z67_ct N x1 _ d) [] [(0,.bp 0 0),(1,.sl 3)] ?_
 refine wO J 8 h fun x3 e h=>eCl (z69_ct N x2.2 (str [119,105,116,104,105,110]) _ e) [] [(0,.bp 0 0),(1,.sl 4)] (wa J 1 (eCut (σ:=ByteArray × (List T2) × Int × Int × Int × Int) (fun st=>⟨[(0,.B 0 0),(2,.B 2 0),(3,.B 5 0)],[(0,.box [.s st.1,.sl 7,.I st.2.2.1,.I st.2.2.2.1,.I st.2.2.2.2.1] 64),(2,.box [.I 0,.s (str []),.nil,.s (str []),.s (str []),.I 0,.nil] 121),(5,.box [.I 2,.s x2.1,.nil,.s (str []),.s (str []),.I st.2.2.2.2.2,.nil] 121)],[(1,.sl rR2 p_.l'),(7,.sl rR2 st.2.1)],8⟩) (fun st=>z123_k1 N rc x2 st.1 st.2.1 st.2.2.1 st.2.2.2.1 st.2.2.2.2.1 st.2.2.2.2.2=some r) ?_ (fun j1=>?_)))
 ·rintro ⟨vbk0_0_0_1,vbk0_0_1_1,vbk0_0_2_1,vbk0_0_3_1,vbk0_0_4_1,f⟩ h
  replace h:z123_k1 N rc x2 vbk0_0_0_1 vbk0_0_1_1 vbk0_0_2_1 vbk0_0_3_1 vbk0_0_4_1 f=some r:=h
  unfold z123_k1 at h
  refine wO J 3 h fun g i h=>eCl (z125_ct N rc rc_Pref10_parser_item_ct (⟨vbk0_0_0_1,vbk0_0_1_1,vbk0_0_2_1,vbk0_0_3_1,vbk0_0_4_1⟩:T8) (str [111,114]) _ i) [] [(0,.bp 0 0),(1,.sl 7)] ?_
  refine wB' J 10 h (fun h=>wa J 7 (eFr [8] ?_)) fun h=>?_
  ·cases h
   exact eRet J func123 [(2,.nil),(3,.sl 8),(4,.sl 9)]
  refine wO J 4 h fun j k h=>eCl (z66_ct N g.2 (str [101,108,115,101]) _ k) [] [(0,.bp 0 0),(1,.sl 9)] ?_
  refine wO J 5 h fun l m h=>eCl (z124_ct N rc rc_Pref10_parser_item_ct j _ m) [] [(0,.bp 0 0),(1,.sl 10)] (eBs J [11] (oSl rR5) ([l.1]:List (List T5)) ?_)
  obtain ⟨o,p,h⟩:=ob h
  refine eAp J (rSl rR5) p (wa J 2 (eEnd (wa J 5 (eFr [14] ?_))))
  cases h
  exact eRet J func123 [(2,.nil),(3,.sl 14),(4,.sl 12)]
 refine eB' h (fun h=>wa J 2 (eSub [(7,.sl 6)] (j1 (x3.2.s',x3.2.l',x3.2.next',x3.2.at',x3.2.e',0) h))) fun h=>?_
 refine wO J 5 h fun q t h=>eCl (z119_ct N x3.2 _ t) [] [(0,.bp 0 0),(1,.sl 6)] ?_
 refine wB' J 9 h (fun h=>?_) fun h=>?_
 ·exact wO J 14 h fun u v h=>eCl (z155_ct N x3.2 _ v) [] [(0,.bp 0 0),(1,.sl 6)] (wa J 3 (eSub [(7,.sl 8)] (j1 (u.2.s',u.2.l',u.2.next',u.2.at',u.2.e',u.1) h)))
 refine wB J 4 h (fun h=>?_) fun h=>?_
 ·refine wO J 9 h fun x y h=>eCl (z118_ct N x3.2 2 _ y) [] [(0,.bp 0 0),(1,.sl 6)] ?_
  exact wO J 3 h fun z A h=>eCl (z155_ct N x _ A) [] [(0,.bp 0 0),(1,.sl 8)] (wa J 3 (eSub [(7,.sl 9)] (j1 (z.2.s',z.2.l',z.2.next',z.2.at',z.2.e',z.1) h)))
 refine wB' J 6 h (fun h=>?_) fun h=>?_
 ·exact wO J 4 h fun C D h=>eCl (z155_ct N x3.2 _ D) [] [(0,.bp 0 0),(1,.sl 6)] (wa J 3 (eSub [(7,.sl 8)] (j1 (C.2.s',C.2.l',C.2.next',C.2.at',C.2.e',C.1) h)))
 refine wO J 3 h fun G H h=>eCl (z118_ct N x3.2 2 _ H) [] [(0,.bp 0 0),(1,.sl 6)] ?_
 exact wO J 3 h fun R T h=>eCl (z155_ct N G _ T) [] [(0,.bp 0 0),(1,.sl 8)] (wa J 3 (eSub [(7,.sl 9)] (j1 (R.2.s',R.2.l',R.2.next',R.2.at',R.2.e',R.1) h)))
theorem z72_b_ct (N:Nat) (rc:T8→Option (T5 × T8)) (rc_Pref10_parser_item_ct:(∀ (p_:T8) (r:T5 × T8),rc p_=some r→Fn Tryz.prog 72 ⟨2,[.B 0 0],[(1,.sl rR2 p_.l')],[(0,.box (cC8 1 p_) 64)],5,.a [.I r.1.Kind,.s r.1.From,.sl 2,.s r.1.Name,.s r.1.As,.I r.1.Ticks,.sl 3],[(2,.sl rS r.1.To),(3,.sl (rSl rR5) r.1.Blocks),(4,.sl rR2 r.2.l')],[(0,.box (cC8 4 r.2) 64)]⟩)) (p_:T8) (r:T5 × T8) (h:z72_b N rc p_=some r) :
 Fn Tryz.prog 72 ⟨2,[.B 0 0],[(1,.sl rR2 p_.l')],[(0,.box (cC8 1 p_) 64)],5,.a [.I r.1.Kind,.s r.1.From,.sl 2,.s r.1.Name,.s r.1.As,.I r.1.Ticks,.sl 3],[(2,.sl rS r.1.To),(3,.sl (rSl rR5) r.1.Blocks),(4,.sl rR2 r.2.l')],[(0,.box (cC8 4 r.2) 64)]⟩:=by
 refine eFn func72 rfl (fun E F w=>?_)
 unfold z72_b at h
 refine wO J 9 h fun x1 c h=>eCl (z69_ct N p_ (str [99,104,111,105,99,101]) _ c) [] [(0,.bp 0 0),(1,.sl 1)] ?_
 refine wB J 2 h (fun h=>?_) fun h=>?_
 ·refine wO J 4 h fun x2 d h=>eCl (z123_ct N rc rc_Pref10_parser_item_ct x1.2 _ d) [] [(0,.bp 0 0),(1,.sl 3)] ?_
  cases h
  exact wr J 2 func72 [(2,.sl 4),(3,.sl 5),(4,.sl 6)]
 refine wO J 4 h fun x3 e h=>eCl (z69_ct N x1.2 (str [108,111,111,112]) _ e) [] [(0,.bp 0 0),(1,.sl 3)] ?_
 refine wB J 2 h (fun h=>?_) fun h=>?_
 ·refine wO J 4 h fun x4 f h=>eCl (z120_ct N x3.2 _ f) [] [(0,.bp 0 0),(1,.sl 4)] ?_
  refine wO J 1 h fun x5 g h=>eCl (z124_ct N rc rc_Pref10_parser_item_ct x4.2 _ g) [] [(0,.bp 0 0),(1,.sl 5)] (eBs J [6] (oSl rR5) ([x5.1]:List (List T5)) (wa J 3 (eFr [8] ?_)))
  cases h
  exact eRet J func72 [(2,.nil),(3,.sl 8),(4,.sl 7)]
 refine wO J 4 h fun x6 i h=>eCl (z69_ct N x3.2 (str [97,103,97,105,110]) _ i) [] [(0,.bp 0 0),(1,.sl 4)] ?_
 refine wB J 2 h (fun h=>?_) fun h=>?_
 ·refine wO J 4 h fun x7 j h=>eCl (z120_ct N x6.2 _ j) [] [(0,.bp 0 0),(1,.sl 5)] ?_
  refine wO J 7 h fun x8 k h=>eCl (z66_ct N x7.2 (str [59]) _ k) [] [(0,.bp 0 0),(1,.sl 6)] ?_
  cases h
  exact wr J 6 func72 [(2,.nil),(3,.nil),(4,.sl 8)]
 refine wO J 4 h fun x9 l h=>eCl (z69_ct N x6.2 (str [112,97,114]) _ l) [] [(0,.bp 0 0),(1,.sl 5)] ?_
 refine wB J 2 h (fun h=>?_) fun h=>?_
 ·refine wO J 4 h fun m o h=>eCl (z124_ct N rc rc_Pref10_parser_item_ct x9.2 _ o) [] [(0,.bp 0 0),(1,.sl 6)] (eBs J [7] (oSl rR5) ([m.1]:List (List T5)) ?_)
  refine wO J 7 h fun p q h=>eCl (z66_ct N m.2 (str [97,110,100]) _ q) [] [(0,.bp 0 0),(1,.sl 8)] ?_
  refine wO J 6 h fun t u h=>eCl (z125_ct N rc rc_Pref10_parser_item_ct p (str [97,110,100]) _ u) [] [(0,.bp 0 0),(1,.sl 11)] ?_
  obtain ⟨v,x,h⟩:=ob h
  refine eAp J (rSl rR5) x (wa J 2 (eEnd (wa J 5 (eFr [14] ?_))))
  cases h
  exact eRet J func72 [(2,.nil),(3,.sl 14),(4,.sl 13)]
 refine wO J 4 h fun y z h=>eCl (z69_ct N x9.2 (str [99,97,108,108]) _ z) [] [(0,.bp 0 0),(1,.sl 6)] ?_
 refine wB' J 2 h (fun h=>?_) fun h=>?_
 ·refine wO J 6 h fun A C h=>eCl (z67_ct N y.2 _ C) [] [(0,.bp 0 0),(1,.sl 7)] ?_
  refine wO J 7 h fun D G h=>eCl (z66_ct N A.2 (str [45,62]) _ G) [] [(0,.bp 0 0),(1,.sl 8)] ?_
  refine wO J 4 h fun H R h=>eCl (z68_ct N D _ R) [] [(0,.bp 0 0),(1,.sl 10)] ?_
  refine wO J 6 h fun T U h=>eCl (z66_ct N H.2 (str [58]) _ U) [] [(0,.bp 0 0),(1,.sl 12)] ?_
  refine wO J 4 h fun X Y h=>eCl (z120_ct N T _ Y) [] [(0,.bp 0 0),(1,.sl 13)] ?_
  refine wO J 6 h fun Z a0 h=>eCl (z66_ct N X.2 (str [59]) _ a0) [] [(0,.bp 0 0),(1,.sl 14)] (wa J 6 (eFr [11] ?_))
  cases h
  exact eRet J func72 [(2,.sl 11),(3,.nil),(4,.sl 15)]
 refine wO J 4 h fun b0 c0 h=>eCl (z67_ct N y.2 _ c0) [] [(0,.bp 0 0),(1,.sl 7)] ?_
 refine wO J 7 h fun d0 e0 h=>eCl (z66_ct N b0.2 (str [40]) _ e0) [] [(0,.bp 0 0),(1,.sl 8)] ?_
 refine wO J 4 h fun f0 g0 h=>eCl (z68_ct N d0 _ g0) [] [(0,.bp 0 0),(1,.sl 10)] ?_
 refine wO J 6 h fun i0 j0 h=>eCl (z66_ct N f0.2 (str [41]) _ j0) [] [(0,.bp 0 0),(1,.sl 12)] ?_
 refine wO J 4 h fun k0 l0 h=>eCl (z66_ct N i0 (str [97,115]) _ l0) [] [(0,.bp 0 0),(1,.sl 13)] ?_
 refine wO J 4 h fun m0 o0 h=>eCl (z67_ct N k0 _ o0) [] [(0,.bp 0 0),(1,.sl 14)] ?_
 refine wO J 6 h fun p0 q0 h=>eCl (z66_ct N m0.2 (str [59]) _ q0) [] [(0,.bp 0 0),(1,.sl 15)] (wa J 6 (eFr [11] ?_))
 cases h
 exact eRet J func72 [(2,.sl 11),(3,.nil),(4,.sl 16)]
theorem z72_rct:∀ (N:Nat) (p_:T8) (r:T5 × T8) (h:z72_r N p_=some r),Fn Tryz.prog 72 ⟨2,[.B 0 0],[(1,.sl rR2 p_.l')],[(0,.box (cC8 1 p_) 64)],5,.a [.I r.1.Kind,.s r.1.From,.sl 2,.s r.1.Name,.s r.1.As,.I r.1.Ticks,.sl 3],[(2,.sl rS r.1.To),(3,.sl (rSl rR5) r.1.Blocks),(4,.sl rR2 r.2.l')],[(0,.box (cC8 4 r.2) 64)]⟩:=by
 intro N
 induction N with
 | zero=>intros;rename_i h;cases h
 | succ N ih=>intro p_ r h;exact z72_b_ct N (z72_r N) ih p_ r h
theorem z72_ct (N:Nat) (p_:T8) (r:T5 × T8) (h:z72 N p_=some r):Fn Tryz.prog 72 ⟨2,[.B 0 0],[(1,.sl rR2 p_.l')],[(0,.box (cC8 1 p_) 64)],5,.a [.I r.1.Kind,.s r.1.From,.sl 2,.s r.1.Name,.s r.1.As,.I r.1.Ticks,.sl 3],[(2,.sl rS r.1.To),(3,.sl (rSl rR5) r.1.Blocks),(4,.sl rR2 r.2.l')],[(0,.box (cC8 4 r.2) 64)]⟩:=z72_rct N p_ r h
theorem z27_ct (N:Nat) (p_:T8) (r:T7 × T8) (h:z27 N p_=some r) :
 Fn Tryz.prog 27 ⟨2,[.B 0 0],[(1,.sl rR2 p_.l')],[(0,.box (cC8 1 p_) 64)],6,.a [.s r.1.Name,.sl 2,.sl 3,.sl 4],(vV7 2 3 4 r.1 [(5,.sl rR2 r.2.l')]),[(0,.box (cC8 5 r.2) 64)]⟩:=by
 refine eFn func27 rfl (fun E F w=>?_)
 unfold z27 at h
 refine wO J 7 h fun x1 c h=>eCl (z66_ct N p_ (str [112,114,111,116,111,99,111,108]) _ c) [] [(0,.bp 0 0),(1,.sl 1)] ?_
 refine wO J 4 h fun x2 d h=>eCl (z67_ct N x1 _ d) [] [(0,.bp 0 0),(1,.sl 3)] ?_
 refine wO J 7 h fun x3 e h=>eCl (z66_ct N x2.2 (str [40]) _ e) [] [(0,.bp 0 0),(1,.sl 4)] ?_
 refine wO J 4 h fun x4 f h=>eCl (z68_ct N x3 _ f) [] [(0,.bp 0 0),(1,.sl 6)] ?_
 refine wO J 6 h fun x5 g h=>eCl (z66_ct N x4.2 (str [41]) _ g) [] [(0,.bp 0 0),(1,.sl 8)] ?_
 refine wO J 4 h fun x6 i h=>eCl (z66_ct N x5 (str [123]) _ i) [] [(0,.bp 0 0),(1,.sl 9)] (wa J 2 (eCut (σ:=ByteArray × (List T2) × Int × Int × Int × (List T6)) (fun st=>(zz24 st.1 st.2.2.1 st.2.2.2.1 st.2.2.2.2.1 x2.1 x4.1 st.2.2.2.2.2 p_.l' st.2.1 [(0,.B 0 0),(2,.B 2 0),(3,.B 5 0)])) (fun st=>z27_k3 N x2 x4 st.1 st.2.1 st.2.2.1 st.2.2.2.1 st.2.2.2.2.1 st.2.2.2.2.2=some r) ?_ (fun j1=>?_)))
 ·rintro ⟨vbk0_0_0_1,vbk0_0_1_1,vbk0_0_2_1,vbk0_0_3_1,vbk0_0_4_1,j⟩ h
  replace h:z27_k3 N x2 x4 vbk0_0_0_1 vbk0_0_1_1 vbk0_0_2_1 vbk0_0_3_1 vbk0_0_4_1 j=some r:=h
  unfold z27_k3 at h
  refine wa J 1 (eCut (σ:=ByteArray × (List T2) × Int × Int × Int × (List T5)) (fun st=>(zz25 st.1 st.2.2.1 st.2.2.2.1 st.2.2.2.2.1 x2.1 x4.1 j st.2.2.2.2.2 p_.l' st.2.1 [(0,.B 0 0),(2,.B 2 0),(3,.B 5 0)])) (fun st=>z27_k1 N x2 x4 j st.1 st.2.1 st.2.2.1 st.2.2.2.1 st.2.2.2.2.1 st.2.2.2.2.2=some r) ?_ (fun j3=>?_))
  ·rintro ⟨vbk0_0_0_3,vbk0_0_1_3,vbk0_0_2_3,vbk0_0_3_3,vbk0_0_4_3,k⟩ h
   replace h:z27_k1 N x2 x4 j vbk0_0_0_3 vbk0_0_1_3 vbk0_0_2_3 vbk0_0_3_3 vbk0_0_4_3 k=some r:=h
   unfold z27_k1 at h
   refine wO J 3 h fun l m h=>eCl (z66_ct N (⟨vbk0_0_0_3,vbk0_0_1_3,vbk0_0_2_3,vbk0_0_3_3,vbk0_0_4_3⟩:T8) (str [125]) _ m) [] [(0,.bp 0 0),(1,.sl 13)] (wa J 6 (eFr [7] (eFr [12] (eFr [14] ?_))))
   cases h
   exact eRet J func27 [(2,.sl 7),(3,.sl 12),(4,.sl 14),(5,.sl 15)]
  refine wa J 1 (eLoop (σ:=ByteArray × (List T2) × Int × Int × Int × (List T5)) (fun st=>(zz25 st.1 st.2.2.1 st.2.2.2.1 st.2.2.2.2.1 x2.1 x4.1 j st.2.2.2.2.2 p_.l' st.2.1 [(0,.B 0 0),(2,.B 2 0),(3,.B 5 0)])) (fun n st=>z27_l2 N x2 x4 j n st.1 st.2.1 st.2.2.1 st.2.2.2.1 st.2.2.2.2.1 st.2.2.2.2.2) (r:=r) (fun _=>rfl) ?_ (fun ih=>?_))
  ·intro n3 ih5
   rintro ⟨vbk0_0_0_5,vbk0_0_1_5,vbk0_0_2_5,vbk0_0_3_5,vbk0_0_4_5,o⟩ h
   replace h:z27_l2 N x2 x4 j (n3+1) vbk0_0_0_5 vbk0_0_1_5 vbk0_0_2_5 vbk0_0_3_5 vbk0_0_4_5 o=some r:=h
   unfold z27_l2 at h
   refine wB' J 9 h (fun h=>wa J 7 (eSub [] (j3 (vbk0_0_0_5,vbk0_0_1_5,vbk0_0_2_5,vbk0_0_3_5,vbk0_0_4_5,o) h))) fun h=>?_
   refine wO J 1 h fun p q h=>eCl (z71_ct N (⟨vbk0_0_0_5,vbk0_0_1_5,vbk0_0_2_5,vbk0_0_3_5,vbk0_0_4_5⟩:T8) (str [125]) _ q) [] [(0,.bp 0 0),(1,.sl 13)] ?_
   refine wB' J 3 h (fun h=>wa J 2 (eSub [] (j3 (vbk0_0_0_5,vbk0_0_1_5,vbk0_0_2_5,vbk0_0_3_5,vbk0_0_4_5,o) h))) fun h=>?_
   refine wO J 7 h fun t u h=>eCl (z72_ct N (⟨vbk0_0_0_5,vbk0_0_1_5,vbk0_0_2_5,vbk0_0_3_5,vbk0_0_4_5⟩:T8) _ u) [] [(0,.bp 0 0),(1,.sl 13)] (eBs J [] oO5 ([t.1]:List T5) ?_)
   obtain ⟨v,x,h⟩:=ob h
   exact eAp J rR5 x (wa J 2 (eEnd (wa J 1 (eSub [(13,.sl 17),(14,.sl 19)] (ih5 (t.2.s',t.2.l',t.2.next',t.2.at',t.2.e',v) h)))))
  exact eSub [(13,.sl 11),(14,.nil)] (ih N (vbk0_0_0_1,vbk0_0_1_1,vbk0_0_2_1,vbk0_0_3_1,vbk0_0_4_1,([]:List T5)) h)
 refine wa J 1 (eLoop (σ:=ByteArray × (List T2) × Int × Int × Int × (List T6)) (fun st=>(zz24 st.1 st.2.2.1 st.2.2.2.1 st.2.2.2.2.1 x2.1 x4.1 st.2.2.2.2.2 p_.l' st.2.1 [(0,.B 0 0),(2,.B 2 0),(3,.B 5 0)])) (fun n st=>z27_l4 N x2 x4 n st.1 st.2.1 st.2.2.1 st.2.2.2.1 st.2.2.2.2.1 st.2.2.2.2.2) (r:=r) (fun _=>rfl) ?_ (fun ih=>?_))
 ·intro n4 ih6
  rintro ⟨vbk0_0_0_6,vbk0_0_1_6,vbk0_0_2_6,vbk0_0_3_6,vbk0_0_4_6,y⟩ h
  replace h:z27_l4 N x2 x4 (n4+1) vbk0_0_0_6 vbk0_0_1_6 vbk0_0_2_6 vbk0_0_3_6 vbk0_0_4_6 y=some r:=h
  unfold z27_l4 at h
  refine wO J 4 h fun z A h=>eCl (z69_ct N (⟨vbk0_0_0_6,vbk0_0_1_6,vbk0_0_2_6,vbk0_0_3_6,vbk0_0_4_6⟩:T8) (str [109,101,115,115,97,103,101]) _ A) [] [(0,.bp 0 0),(1,.sl 11)] ?_
  refine wB' J 1 h (fun h=>wa J 2 (eSub [(11,.sl 13)] (j1 (z.2.s',z.2.l',z.2.next',z.2.at',z.2.e',y) h))) fun h=>?_
  refine wO J 7 h fun C D h=>eCl (z70_ct N z.2 _ D) [] [(0,.bp 0 0),(1,.sl 13)] (eBs J [] oO6 ([C.1]:List T6) ?_)
  obtain ⟨G,H,h⟩:=ob h
  exact eAp J rR6 H (wa J 2 (eEnd (wa J 1 (eSub [(11,.sl 16),(12,.sl 18)] (ih6 (C.2.s',C.2.l',C.2.next',C.2.at',C.2.e',G) h)))))
 exact eSub [(11,.sl 10),(12,.nil)] (ih N (x6.s',x6.l',x6.next',x6.at',x6.e',([]:List T6)) h)
theorem z41_ct (N:Nat) (l_:(List ByteArray)) (most_:Int) (r:Bool) (h:z41 N l_ most_=some r) :
 Fn Tryz.prog 41 ⟨1,[.S 0,.I most_],[(0,.sl rS l_)],[],1,.O r,[],[]⟩:=by
 refine eFn func41 rfl (fun E F w=>?_)
 unfold z41 at h
 refine wa J 9 (eCut (σ:=Unit) (fun st=>(zz1 l_ [(0,.S 0),(1,.I most_)])) (fun st=>z41_k1 l_ most_=some r) ?_ (fun j1=>?_))
 ·intro _ h
  replace h:z41_k1 l_ most_=some r:=h
  unfold z41_k1 at h
  refine wB J 6 h (fun h=>?_) fun h=>?_
  ·cases h
   exact wr J 7 func41 []
  cases h
  exact wr J 7 func41 []
 refine wa J 1 (eLoop (σ:=Int) (fun st=>(zz1 l_ [(0,.S 0),(1,.I most_),(5,.I st)])) (fun n st=>z41_l2 N l_ most_ n st) (r:=r) (fun _=>rfl) ?_ (fun ih=>?_))
 ·intro n2 ih3
  intro c h
  replace h:z41_l2 N l_ most_ (n2+1) c=some r:=h
  unfold z41_l2 at h
  refine wB' J 8 h (fun h=>wa J 2 (eSub [] (j1 () h))) fun h=>?_
  refine wO J 8 h fun d e h=>eIx J oS e ?_
  refine wO J 1 h fun f g h=>eCl (z40_ct N d _ g) [] [] ?_
  refine wB J 2 h (fun h=>?_) fun h=>wa J 8 (eSub [] (ih3 (w64 (c+1)) h))
  cases h
  exact wr J 5 func41 []
 exact eSub [] (ih N 0 h)
theorem z42_b_ct (N:Nat) (rc:(List T5)→Option Int) (rc_ref10_depth_ct:(∀ (l_:(List T5)) (r:Int),rc l_=some r→Fn Tryz.prog 42 ⟨1,[.S 0],[(0,.sl rR5 l_)],[],1,.I r,[],[]⟩)) (l_:(List T5)) (r:Int) (h:z42_b N rc l_=some r) :
 Fn Tryz.prog 42 ⟨1,[.S 0],[(0,.sl rR5 l_)],[],1,.I r,[],[]⟩:=by
 refine eFn func42 rfl (fun E F w=>?_)
 unfold z42_b at h
 refine wa J 13 (eCut (σ:=Int) (fun st=>(zz2 l_ [(3,.I st)])) (fun st=>z42_k1 st=some r) ?_ (fun j1=>?_))
 ·intro c h
  replace h:z42_k1 c=some r:=h
  unfold z42_k1 at h
  cases h
  exact wr J 5 func42 []
 refine wa J 1 (eLoop (σ:=Int × Int) (fun st=>(zz2 l_ [(0,.S 0),(3,.I st.1),(4,.I st.2)])) (fun n st=>z42_l2 N rc l_ n st.1 st.2) (r:=r) (fun _=>rfl) ?_ (fun ih=>?_))
 ·intro n12 ih12
  rintro ⟨d,e⟩ h
  replace h:z42_l2 N rc l_ (n12+1) d e=some r:=h
  unfold z42_l2 at h
  refine wB' J 8 h (fun h=>wa J 2 (eSub [] (j1 d h))) fun h=>wa J 13 (eCut (σ:=Int) (fun st=>(zz2 l_ [(0,.S 0),(3,.I d),(4,.I e),(5,.I st)])) (fun st=>z42_k3 d e (z42_l2 N rc l_ n12) st=some r) ?_ (fun j19=>?_))
  ·intro f h
   replace h:z42_k3 d e (z42_l2 N rc l_ n12) f=some r:=h
   unfold z42_k3 at h
   exact wa J 13 (eSub [] (ih12 ((maxI d (w64 (f+1))),(w64 (e+1))) h))
  refine wa J 1 (eLoop (σ:=Int × Int) (fun st=>(zz2 l_ [(0,.S 0),(3,.I d),(4,.I e),(5,.I st.1),(6,.I st.2)])) (fun n st=>z42_l4 rc l_ d e (z42_l2 N rc l_ n12) n st.1 st.2) (r:=r) (fun _=>rfl) ?_ (fun ih=>?_))
  ·intro n14 ih21
   rintro ⟨g,i⟩ h
   replace h:z42_l4 rc l_ d e (z42_l2 N rc l_ n12) (n14+1) g i=some r:=h
   unfold z42_l4 at h
   refine wO J 6 h fun j k h=>eIx J oO5 k ?_
   refine wB' J 5 h (fun h=>wa J 2 (eSub [] (j19 g h))) fun h=>?_
   refine wO J 8 h fun l m h=>eIx J oO5 m ?_
   refine wO J 3 h fun o p h=>eIx J (oSl rR5) p ?_
   exact wO J 1 h fun q s h=>eCl (rc_ref10_depth_ct o _ s) [] [(0,.sl 8)] (wa J 9 (eSub [] (ih21 ((maxI g q),(w64 (i+1))) h)))
  exact eSub [] (ih N (0,0) h)
 exact eSub [] (ih N (0,0) h)
theorem z42_rct:∀ (N:Nat) (l_:(List T5)) (r:Int) (h:z42_r N l_=some r),Fn Tryz.prog 42 ⟨1,[.S 0],[(0,.sl rR5 l_)],[],1,.I r,[],[]⟩:=by
 intro N
 induction N with
 | zero=>intros;rename_i h;cases h
 | succ N ih=>intro l_ r h;exact z42_b_ct N (z42_r N) ih l_ r h
theorem z42_ct (N:Nat) (l_:(List T5)) (r:Int) (h:z42 N l_=some r):Fn Tryz.prog 42 ⟨1,[.S 0],[(0,.sl rR5 l_)],[],1,.I r,[],[]⟩:=z42_rct N l_ r h
theorem z37_b_ct (N:Nat) (rc:(List T5)→Option Int) (rc_ref10_Count_ct:(∀ (l_:(List T5)) (r:Int),rc l_=some r→Fn Tryz.prog 37 ⟨1,[.S 0],[(0,.sl rR5 l_)],[],1,.I r,[],[]⟩)) (l_:(List T5)) (r:Int) (h:z37_b N rc l_=some r) :
 Fn Tryz.prog 37 ⟨1,[.S 0],[(0,.sl rR5 l_)],[],1,.I r,[],[]⟩:=by
 refine eFn func37 rfl (fun E F w=>?_)
 unfold z37_b at h
 refine wa J 13 (eCut (σ:=Int) (fun st=>(zz2 l_ [(3,.I st)])) (fun st=>z37_k1 st=some r) ?_ (fun j1=>?_))
 ·intro c h
  replace h:z37_k1 c=some r:=h
  unfold z37_k1 at h
  cases h
  exact wr J 5 func37 []
 refine wa J 1 (eLoop (σ:=Int × Int) (fun st=>(zz2 l_ [(0,.S 0),(3,.I st.1),(4,.I st.2)])) (fun n st=>z37_l2 N rc l_ n st.1 st.2) (r:=r) (fun _=>rfl) ?_ (fun ih=>?_))
 ·intro n12 ih12
  rintro ⟨d,e⟩ h
  replace h:z37_l2 N rc l_ (n12+1) d e=some r:=h
  unfold z37_l2 at h
  refine wB' J 8 h (fun h=>wa J 2 (eSub [] (j1 d h))) fun h=>wa J 14 (eCut (σ:=Int) (fun st=>(zz2 l_ [(0,.S 0),(3,.I st),(4,.I e)])) (fun st=>z37_k3 e (z37_l2 N rc l_ n12) st=some r) ?_ (fun j19=>?_))
  ·intro f h
   replace h:z37_k3 e (z37_l2 N rc l_ n12) f=some r:=h
   unfold z37_k3 at h
   exact wa J 6 (eSub [] (ih12 (f,(w64 (e+1))) h))
  refine wa J 1 (eLoop (σ:=Int × Int) (fun st=>(zz2 l_ [(0,.S 0),(3,.I st.1),(4,.I e),(5,.I st.2)])) (fun n st=>z37_l4 rc l_ e (z37_l2 N rc l_ n12) n st.1 st.2) (r:=r) (fun _=>rfl) ?_ (fun ih=>?_))
  ·intro n14 ih21
   rintro ⟨g,i⟩ h
   replace h:z37_l4 rc l_ e (z37_l2 N rc l_ n12) (n14+1) g i=some r:=h
   unfold z37_l4 at h
   refine wO J 6 h fun j k h=>eIx J oO5 k ?_
   refine wB' J 5 h (fun h=>wa J 2 (eSub [] (j19 g h))) fun h=>?_
   refine wO J 8 h fun l m h=>eIx J oO5 m ?_
   refine wO J 3 h fun o p h=>eIx J (oSl rR5) p ?_
   exact wO J 1 h fun q s h=>eCl (rc_ref10_Count_ct o _ s) [] [(0,.sl 8)] (wa J 9 (eSub [] (ih21 ((w64 (g+q)),(w64 (i+1))) h)))
  exact eSub [] (ih N ((w64 (d+1)),0) h)
 exact eSub [] (ih N (0,0) h)
theorem z37_rct:∀ (N:Nat) (l_:(List T5)) (r:Int) (h:z37_r N l_=some r),Fn Tryz.prog 37 ⟨1,[.S 0],[(0,.sl rR5 l_)],[],1,.I r,[],[]⟩:=by
 intro N
 induction N with
 | zero=>intros;rename_i h;cases h
 | succ N ih=>intro l_ r h;exact z37_b_ct N (z37_r N) ih l_ r h
theorem z37_ct (N:Nat) (l_:(List T5)) (r:Int) (h:z37 N l_=some r):Fn Tryz.prog 37 ⟨1,[.S 0],[(0,.sl rR5 l_)],[],1,.I r,[],[]⟩:=z37_rct N l_ r h
theorem z22_ct (N:Nat) (s_:ByteArray) (r:Bool) (h:z22 N s_=some r) :
 Fn Tryz.prog 22 ⟨0,[.c (.s s_)],[],[],0,.O r,[],[]⟩:=by
 refine eFn func22 rfl (fun E F w=>?_)
 unfold z22 at h
 refine wa J 13 (eCut (σ:=Unit) (fun st=>(zz0 [(0,.c (.s s_))])) (fun st=>z22_k1 s_=some r) ?_ (fun j1=>?_))
 ·intro _ h
  replace h:z22_k1 s_=some r:=h
  unfold z22_k1 at h
  cases h
  exact wr J 7 func22 []
 refine wa J 1 (eLoop (σ:=Int × Int) (fun st=>(zz0 [(0,.c (.s s_)),(3,.I st.1),(4,.I st.2)])) (fun n st=>z22_l2 N s_ n st.1 st.2) (r:=r) (fun _=>rfl) ?_ (fun ih=>?_))
 ·intro n2 ih6
  rintro ⟨d,e⟩ h
  replace h:z22_l2 N s_ (n2+1) d e=some r:=h
  unfold z22_l2 at h
  refine wB' J 8 h (fun h=>wa J 2 (eSub [] (j1 () h))) fun h=>?_
  refine wa J 11 (eCut (σ:=Bool) (fun st=>(zz0 [(0,.c (.s s_)),(3,.I d),(4,.I e),(20,.O st)])) (fun st=>z22_k3 N s_ d e (z22_l2 N s_ n2) st=some r) ?_ (fun j9=>?_))
  ·intro f h
   replace h:z22_k3 N s_ d e (z22_l2 N s_ n2) f=some r:=h
   unfold z22_k3 at h
   refine eB' h (fun h=>wa J 8 (eSub [] (ih6 (d,(w64 (e+1))) h))) fun h=>?_
   refine wO J 7 h fun g i h=>eSs J i ?_
   obtain ⟨j,k,h⟩:=ob h
   refine eCl (z40_ct N g _ k) [] [] ?_
   refine wB J 2 h (fun h=>?_) fun h=>wa J 13 (eSub [] (ih6 ((w64 (e+1)),(w64 (e+1))) h))
   cases h
   exact wr J 5 func22 []
  refine eB h (fun h=>wa J 6 (eSub [] (j9 true h))) fun h=>?_
  exact wO J 2 h fun l m h=>eSx J m (wa J 3 (eSub [] (j9 (l==46) h)))
 exact eSub [] (ih N (0,0) h)
theorem z88_ct (N:Nat) (rc:(List T5)→Option Bool) (rc_ref10_goodItems_ct:(∀ (l_:(List T5)) (r:Bool),rc l_=some r→Fn Tryz.prog 43 ⟨1,[.S 0],[(0,.sl rR5 l_)],[],1,.O r,[],[]⟩)) (x_:T5) (r:Bool) (h:z88 N rc x_=some r) :
 Fn Tryz.prog 88 ⟨2,[.a [.I x_.Kind,.s x_.From,.sl 0,.s x_.Name,.s x_.As,.I x_.Ticks,.sl 1]],[(0,.sl rS x_.To),(1,.sl (rSl rR5) x_.Blocks)],[],2,.O r,[],[]⟩:=by
 refine eFn func88 rfl (fun E F w=>?_)
 unfold z88 at h
 refine wa J 28 (eCut (σ:=Bool) (fun st=>(zz6 x_.Kind x_.From x_.Name x_.As x_.Ticks x_.To x_.Blocks [(1,.B 2 0),(3,.I (x_.Blocks.length:Int)),(4,.O st)])) (fun st=>z88_k3 N rc x_ st=some r) ?_ (fun j1=>?_))
 ·intro c h
  replace h:z88_k3 N rc x_ c=some r:=h
  unfold z88_k3 at h
  refine wa J 6 (eCut (σ:=Bool) (fun st=>⟨[(4,.O st)],[],[(0,.sl rS x_.To),(1,.sl (rSl rR5) x_.Blocks)],3⟩) (fun st=>z88_k1 st=some r) ?_ (fun j3=>?_))
  ·intro d h
   replace h:z88_k1 d=some r:=h
   unfold z88_k1 at h
   cases h
   exact wr J 5 func88 []
  refine wa J 1 (eLoop (σ:=Bool × Int) (fun st=>(zz6 x_.Kind x_.From x_.Name x_.As x_.Ticks x_.To x_.Blocks [(1,.B 2 0),(3,.I (x_.Blocks.length:Int)),(4,.O st.1),(6,.I st.2)])) (fun n st=>z88_l2 rc x_ n st.1 st.2) (r:=r) (fun _=>rfl) ?_ (fun ih=>?_))
  ·intro n2 ih5
   rintro ⟨e,f⟩ h
   replace h:z88_l2 rc x_ (n2+1) e f=some r:=h
   unfold z88_l2 at h
   refine wB' J 7 h (fun h=>wa J 5 (eSub [] (j3 e h))) fun h=>?_
   refine wB' J 3 h (fun h=>wa J 2 (eSub [] (j3 e h))) fun h=>?_
   refine wO J 8 h fun g i h=>eIx J (oSl rR5) i ?_
   exact wO J 1 h fun j k h=>eCl (rc_ref10_goodItems_ct g _ k) [] [(0,.sl 4)] (wa J 8 (eSub [] (ih5 (j,(w64 (f+1))) h)))
  exact eSub [] (ih N (c,0) h)
 refine eB h (fun h=>?_) fun h=>?_
 ·refine wO J 4 h fun l m h=>eCl (z40_ct N x_.From _ m) [] [] ?_
  refine wB' J 1 h (fun h=>wa J 25 (eSub [] (j1 false h))) fun h=>?_
  refine wO J 2 h fun o p h=>eCl (z41_ct N x_.To 5 _ p) [] [(0,.sl 0)] ?_
  refine wB' J 2 h (fun h=>wa J 20 (eSub [] (j1 false h))) fun h=>?_
  refine wO J 2 h fun q t h=>eCl (z22_ct N x_.Name _ t) [] [] ?_
  refine wB' J 2 h (fun h=>wa J 15 (eSub [] (j1 false h))) fun h=>?_
  refine wB' J 5 h (fun h=>wa J 10 (eSub [] (j1 false h))) fun h=>?_
  exact wB J 5 h (fun h=>wa J 5 (eSub [] (j1 ((x_.Blocks.length:Int)==0) h))) fun h=>wa J 5 (eSub [] (j1 false h))
 obtain ⟨K,h⟩|⟨K,h⟩:=oc h
 ·refine wH J 6 K (wa J 12 (eCut (σ:=Int) (fun st=>(zz6 x_.Kind x_.From x_.Name x_.As x_.Ticks x_.To x_.Blocks [(1,.B 2 0),(3,.I (x_.Blocks.length:Int)),(5,.I st)])) (fun st=>z88_k4 N rc x_ st=some r) ?_ (fun j6=>?_)))
  ·intro u h
   replace h:z88_k4 N rc x_ u=some r:=h
   unfold z88_k4 at h
   refine wO J 3 h fun v x h=>eCl (z40_ct N x_.From _ x) [] [] ?_
   refine wB' J 1 h (fun h=>wa J 36 (eSub [] (j1 false h))) fun h=>?_
   refine wB' J 6 h (fun h=>wa J 30 (eSub [] (j1 false h))) fun h=>?_
   refine wB' J 5 h (fun h=>wa J 25 (eSub [] (j1 false h))) fun h=>?_
   refine wB' J 5 h (fun h=>wa J 20 (eSub [] (j1 false h))) fun h=>?_
   refine wB' J 5 h (fun h=>wa J 15 (eSub [] (j1 false h))) fun h=>?_
   refine wB' J 5 h (fun h=>wa J 10 (eSub [] (j1 false h))) fun h=>?_
   exact wB J 5 h (fun h=>wa J 5 (eSub [] (j1 (decide ((x_.Blocks.length:Int)≤8)) h))) fun h=>wa J 5 (eSub [] (j1 false h))
  exact eB h (fun h=>wa J 4 (eSub [] (j6 2 h))) fun h=>wa J 2 (eSub [] (j6 1 h))
 refine wH J 6 K ?_
 refine wB J 6 h (fun h=>?_) fun h=>?_
 ·refine wB' J 6 h (fun h=>wa J 26 (eSub [] (j1 false h))) fun h=>?_
  refine wB' J 6 h (fun h=>wa J 20 (eSub [] (j1 false h))) fun h=>?_
  refine wO J 2 h fun y z h=>eCl (z22_ct N x_.Name _ z) [] [] ?_
  refine wB' J 2 h (fun h=>wa J 15 (eSub [] (j1 false h))) fun h=>?_
  refine wB' J 5 h (fun h=>wa J 10 (eSub [] (j1 false h))) fun h=>?_
  exact wB J 5 h (fun h=>wa J 5 (eSub [] (j1 ((x_.Blocks.length:Int)==1) h))) fun h=>wa J 5 (eSub [] (j1 false h))
 refine wB J 6 h (fun h=>?_) fun h=>?_
 ·refine wB' J 6 h (fun h=>wa J 26 (eSub [] (j1 false h))) fun h=>?_
  refine wB' J 6 h (fun h=>wa J 20 (eSub [] (j1 false h))) fun h=>?_
  refine wO J 2 h fun A C h=>eCl (z22_ct N x_.Name _ C) [] [] ?_
  refine wB' J 2 h (fun h=>wa J 15 (eSub [] (j1 false h))) fun h=>?_
  refine wB' J 5 h (fun h=>wa J 10 (eSub [] (j1 false h))) fun h=>?_
  exact wB J 5 h (fun h=>wa J 5 (eSub [] (j1 ((x_.Blocks.length:Int)==0) h))) fun h=>wa J 5 (eSub [] (j1 false h))
 refine wB J 6 h (fun h=>?_) fun h=>?_
 ·refine wB' J 6 h (fun h=>wa J 30 (eSub [] (j1 false h))) fun h=>?_
  refine wB' J 6 h (fun h=>wa J 24 (eSub [] (j1 false h))) fun h=>?_
  refine wB' J 5 h (fun h=>wa J 19 (eSub [] (j1 false h))) fun h=>?_
  refine wB' J 5 h (fun h=>wa J 14 (eSub [] (j1 false h))) fun h=>?_
  refine wB' J 5 h (fun h=>wa J 9 (eSub [] (j1 false h))) fun h=>?_
  exact wB J 4 h (fun h=>wa J 5 (eSub [] (j1 (decide ((x_.Blocks.length:Int)≤8)) h))) fun h=>wa J 5 (eSub [] (j1 false h))
 refine wB' J 6 h (fun h=>wa J 2 (eSub [] (j1 false h))) fun h=>?_
 refine wB' J 6 h (fun h=>wa J 25 (eSub [] (j1 false h))) fun h=>?_
 refine wO J 2 h fun D G h=>eCl (z41_ct N x_.To 6 _ G) [] [(0,.sl 0)] ?_
 refine wB' J 2 h (fun h=>wa J 20 (eSub [] (j1 false h))) fun h=>?_
 refine wO J 2 h fun H R h=>eCl (z40_ct N x_.Name _ R) [] [] ?_
 refine wB' J 2 h (fun h=>wa J 15 (eSub [] (j1 false h))) fun h=>?_
 refine wO J 2 h fun T U h=>eCl (z40_ct N x_.As _ U) [] [] ?_
 refine wB' J 2 h (fun h=>wa J 10 (eSub [] (j1 false h))) fun h=>?_
 exact wB J 5 h (fun h=>wa J 5 (eSub [] (j1 ((x_.Blocks.length:Int)==0) h))) fun h=>wa J 5 (eSub [] (j1 false h))
theorem z43_b_ct (N:Nat) (rc:(List T5)→Option Bool) (rc_ref10_goodItems_ct:(∀ (l_:(List T5)) (r:Bool),rc l_=some r→Fn Tryz.prog 43 ⟨1,[.S 0],[(0,.sl rR5 l_)],[],1,.O r,[],[]⟩)) (l_:(List T5)) (r:Bool) (h:z43_b N rc l_=some r) :
 Fn Tryz.prog 43 ⟨1,[.S 0],[(0,.sl rR5 l_)],[],1,.O r,[],[]⟩:=by
 refine eFn func43 rfl (fun E F w=>?_)
 unfold z43_b at h
 refine wa J 9 (eCut (σ:=Unit) (fun st=>(zz2 l_ [])) (fun st=>z43_k1=some r) ?_ (fun j1=>?_))
 ·intro _ h
  replace h:z43_k1=some r:=h
  unfold z43_k1 at h
  cases h
  exact wr J 4 func43 []
 refine wa J 1 (eLoop (σ:=Int) (fun st=>(zz2 l_ [(0,.S 0),(3,.I st)])) (fun n st=>z43_l2 N rc l_ n st) (r:=r) (fun _=>rfl) ?_ (fun ih=>?_))
 ·intro n2 ih3
  intro c h
  replace h:z43_l2 N rc l_ (n2+1) c=some r:=h
  unfold z43_l2 at h
  refine wB' J 8 h (fun h=>wa J 2 (eSub [] (j1 () h))) fun h=>?_
  refine wO J 8 h fun d e h=>eIx J oO5 e ?_
  refine wO J 1 h fun f g h=>eCl (z88_ct N rc rc_ref10_goodItems_ct d _ g) [] [(0,.sl 2),(1,.sl 3)] ?_
  refine wB J 2 h (fun h=>?_) fun h=>wa J 8 (eSub [] (ih3 (w64 (c+1)) h))
  cases h
  exact wr J 5 func43 []
 exact eSub [] (ih N 0 h)
theorem z43_rct:∀ (N:Nat) (l_:(List T5)) (r:Bool) (h:z43_r N l_=some r),Fn Tryz.prog 43 ⟨1,[.S 0],[(0,.sl rR5 l_)],[],1,.O r,[],[]⟩:=by
 intro N
 induction N with
 | zero=>intros;rename_i h;cases h
 | succ N ih=>intro l_ r h;exact z43_b_ct N (z43_r N) ih l_ r h
theorem z43_ct (N:Nat) (l_:(List T5)) (r:Bool) (h:z43 N l_=some r):Fn Tryz.prog 43 ⟨1,[.S 0],[(0,.sl rR5 l_)],[],1,.O r,[],[]⟩:=z43_rct N l_ r h
theorem z89_ct (N:Nat) (n_:Int) (r:Bool) (h:z89 N n_=some r) :
 Fn Tryz.prog 89 ⟨0,[.I n_],[],[],0,.O r,[],[]⟩:=by
 refine eFn func89 rfl (fun E F w=>?_)
 unfold z89 at h
 refine wB J 9 h (fun h=>?_) fun h=>?_
 ·cases h
  exact wr J 5 func89 []
 cases h
 exact wr J 5 func89 []
theorem z90_ct (N:Nat) (x_:T13) (r:Bool) (h:z90 N x_=some r) :
 Fn Tryz.prog 90 ⟨0,[.a (cC13 x_)],[],[],0,.O r,[],[]⟩:=by
 refine eFn func90 rfl (fun E F w=>?_)
 unfold z90 at h
 refine wO J 10 h fun x1 c h=>eCl (z89_ct N x_.N _ c) [] [] ?_
 refine wB J 2 h (fun h=>?_) fun h=>?_
 ·cases h
  exact wr J 5 func90 []
 refine wB J 9 h (fun h=>?_) fun h=>?_
 ·refine wB J 7 h (fun h=>?_) fun h=>?_
  ·cases h
   exact wr J 6 func90 []
  cases h
  exact wr J 6 func90 []
 refine wB J 8 h (fun h=>?_) fun h=>?_
 ·refine wO J 7 h fun x2 d h=>eCl (z40_ct N x_.Field _ d) [] [] ?_
  refine wB' J 2 h (fun h=>?_) fun h=>?_
  ·cases h
   exact wr J 11 func90 []
  refine wB J 4 h (fun h=>?_) fun h=>?_
  ·cases h
   exact wr J 7 func90 []
  refine wO J 2 h fun x3 e h=>eCl (z22_ct N x_.Message _ e) [] [] ?_
  cases h
  exact wr J 4 func90 []
 refine wB' J 5 h (fun h=>?_) fun h=>?_
 ·cases h
  exact wr J 16 func90 []
 refine wO J 2 h fun x4 f h=>eCl (z40_ct N x_.Field _ f) [] [] ?_
 refine wB' J 2 h (fun h=>?_) fun h=>?_
 ·cases h
  exact wr J 11 func90 []
 refine wB J 4 h (fun h=>?_) fun h=>?_
 ·cases h
  exact wr J 7 func90 []
 refine wO J 2 h fun x5 g h=>eCl (z22_ct N x_.Message _ g) [] [] ?_
 cases h
 exact wr J 4 func90 []
theorem z44_ct (N:Nat) (m_:T6) (r:Bool) (h:z44 N m_=some r) :
 Fn Tryz.prog 44 ⟨2,[.a [.s m_.Name,.sl 0,.sl 1]],(vV6 0 1 m_ []),[],2,.O r,[],[]⟩:=by
 refine eFn func44 rfl (fun E F w=>?_)
 unfold z44 at h
 refine wa J 10 (eCut (σ:=Unit) (fun st=>(zz3 m_.Name m_ [(1,.B 2 0)])) (fun st=>z44_k3 N m_=some r) ?_ (fun j1=>?_))
 ·intro _ h
  replace h:z44_k3 N m_=some r:=h
  unfold z44_k3 at h
  refine wa J 5 (eCut (σ:=Unit) (fun st=>(zz3 m_.Name m_ [(1,.B 2 0)])) (fun st=>z44_k1 N m_=some r) ?_ (fun j3=>?_))
  ·intro _ h
   replace h:z44_k1 N m_=some r:=h
   unfold z44_k1 at h
   refine wO J 4 h fun c d h=>eCl (z22_ct N m_.Name _ d) [] [] ?_
   refine wB' J 1 h (fun h=>?_) fun h=>?_
   ·cases h
    exact wr J 13 func44 []
   refine wB J 6 h (fun h=>?_) fun h=>?_
   ·cases h
    exact wr J 7 func44 []
   cases h
   exact wr J 7 func44 []
  refine wa J 1 (eLoop (σ:=Int) (fun st=>(zz3 m_.Name m_ [(1,.B 2 0),(5,.I st)])) (fun n st=>z44_l2 N m_ n st) (r:=r) (fun _=>rfl) ?_ (fun ih=>?_))
  ·intro n3 ih5
   intro e h
   replace h:z44_l2 N m_ (n3+1) e=some r:=h
   unfold z44_l2 at h
   refine wB' J 9 h (fun h=>wa J 2 (eSub [] (j3 () h))) fun h=>?_
   refine wO J 9 h fun f g h=>eIx J oO4 g ?_
   refine wO J 8 h fun i j h=>eCl (z90_ct N f.Left _ j) [] [] ?_
   refine wB J 2 h (fun h=>?_) fun h=>?_
   ·cases h
    exact wr J 36 func44 []
   refine wO J 2 h fun k l h=>eCl (z90_ct N f.Right _ l) [] [] ?_
   refine wB J 3 h (fun h=>?_) fun h=>?_
   ·cases h
    exact wr J 30 func44 []
   refine wB' J 4 h (fun h=>wa J 29 (eSub [] (ih5 (w64 (e+1)) h))) fun h=>?_
   refine wB' J 5 h (fun h=>wa J 24 (eSub [] (ih5 (w64 (e+1)) h))) fun h=>?_
   refine wB' J 5 h (fun h=>wa J 19 (eSub [] (ih5 (w64 (e+1)) h))) fun h=>?_
   refine wB' J 5 h (fun h=>wa J 14 (eSub [] (ih5 (w64 (e+1)) h))) fun h=>?_
   refine wB J 6 h (fun h=>?_) fun h=>wa J 8 (eSub [] (ih5 (w64 (e+1)) h))
   cases h
   exact wr J 5 func44 []
  exact eSub [] (ih N 0 h)
 refine wa J 1 (eLoop (σ:=Int) (fun st=>(zz3 m_.Name m_ [(1,.B 2 0),(3,.I st)])) (fun n st=>z44_l4 N m_ n st) (r:=r) (fun _=>rfl) ?_ (fun ih=>?_))
 ·intro n4 ih6
  intro m h
  replace h:z44_l4 N m_ (n4+1) m=some r:=h
  unfold z44_l4 at h
  refine wB' J 9 h (fun h=>wa J 2 (eSub [] (j1 () h))) fun h=>?_
  refine wO J 9 h fun o p h=>eIx J oO0 p ?_
  refine wO J 10 h fun q t h=>eIx J oO0 t ?_
  refine wO J 2 h fun u v h=>eCl (z40_ct N q.Name _ v) [] [] ?_
  refine wB J 2 h (fun h=>?_) fun h=>?_
  ·cases h
   exact wr J 42 func44 []
  refine wO J 2 h fun x y h=>eCl (z89_ct N o.Sort'.Lo _ y) [] [] ?_
  refine wB J 3 h (fun h=>?_) fun h=>?_
  ·cases h
   exact wr J 36 func44 []
  refine wO J 2 h fun z A h=>eCl (z89_ct N o.Sort'.Hi _ A) [] [] ?_
  refine wB J 3 h (fun h=>?_) fun h=>?_
  ·cases h
   exact wr J 30 func44 []
  refine wB' J 4 h (fun h=>?_) fun h=>?_
  ·refine wB' J 10 h (fun h=>wa J 19 (eSub [] (ih6 (w64 (m+1)) h))) fun h=>?_
   refine wB J 4 h (fun h=>?_) fun h=>?_
   ·cases h
    exact wr J 12 func44 []
   refine wB J 7 h (fun h=>?_) fun h=>wa J 8 (eSub [] (ih6 (w64 (m+1)) h))
   cases h
   exact wr J 5 func44 []
  refine wB J 6 h (fun h=>?_) fun h=>?_
  ·cases h
   exact wr J 20 func44 []
  refine wB' J 4 h (fun h=>wa J 19 (eSub [] (ih6 (w64 (m+1)) h))) fun h=>?_
  refine wB J 4 h (fun h=>?_) fun h=>?_
  ·cases h
   exact wr J 12 func44 []
  refine wB J 7 h (fun h=>?_) fun h=>wa J 8 (eSub [] (ih6 (w64 (m+1)) h))
  cases h
  exact wr J 5 func44 []
 exact eSub [] (ih N 0 h)
theorem z84_ct (N:Nat) (l_:(List ByteArray)) (r:ByteArray) (h:z84 N l_=some r) :
 Fn Tryz.prog 84 ⟨1,[.S 0],[(0,.sl rS l_)],[],1,.c (.s r),[],[]⟩:=by
 refine eFn func84 rfl (fun E F w=>?_)
 unfold z84 at h
 refine wa J 13 (eCut (σ:=ByteArray) (fun st=>(zz1 l_ [(3,.c (.s st))])) (fun st=>z84_k1 st=some r) ?_ (fun j1=>?_))
 ·intro d h
  replace h:z84_k1 d=some r:=h
  unfold z84_k1 at h
  cases h
  exact wr J 5 func84 []
 refine wa J 1 (eLoop (σ:=ByteArray × Int) (fun st=>(zz1 l_ [(0,.S 0),(3,.c (.s st.1)),(4,.I st.2)])) (fun n st=>z84_l2 l_ n st.1 st.2) (r:=r) (fun _=>rfl) ?_ (fun ih=>?_))
 ·intro n2 ih3
  rintro ⟨e,f⟩ h
  replace h:z84_l2 l_ (n2+1) e f=some r:=h
  unfold z84_l2 at h
  refine wB' J 8 h (fun h=>wa J 2 (eSub [] (j1 e h))) fun h=>?_
  refine wB' J 10 h (fun h=>?_) fun h=>?_
  ·refine wO J 6 h fun g i h=>eIx J oS i ?_
   exact wO J 1 h fun j k h=>eCa k (wa J 8 (eSub [] (ih3 (j,(w64 (f+1))) h)))
  refine wO J 3 h fun l m h=>eCa m ?_
  refine wO J 6 h fun o p h=>eIx J oS p ?_
  exact wO J 1 h fun q t h=>eCa t (wa J 8 (eSub [] (ih3 (q,(w64 (f+1))) h)))
 exact eSub [] (ih N ((str []),0) h)
theorem z134_b_ct (N:Nat) (rc:Int→Option ByteArray) (rc_ref09_Digits_ct:(∀ (n_:Int) (r:ByteArray),rc n_=some r→Fn Tryz.prog 134 ⟨0,[.I n_],[],[],0,.c (.s r),[],[]⟩)) (n_:Int) (r:ByteArray) (h:z134_b N rc n_=some r) :
 Fn Tryz.prog 134 ⟨0,[.I n_],[],[],0,.c (.s r),[],[]⟩:=by
 refine eFn func134 rfl (fun E F w=>?_)
 unfold z134_b at h
 refine wB J 12 h (fun h=>?_) fun h=>?_
 ·refine wO J 5 h fun x1 d h=>eCl (rc_ref09_Digits_ct (w64 (n_.tdiv 10)) _ d) [] [] (wa J 4 (eCr ?_))
  obtain ⟨x2,e,h⟩:=ob h
  refine eCa e ?_
  cases h
  exact wr J 2 func134 []
 refine wB J 7 h (fun h=>wa J 6 (eCr ?_)) fun h=>?_
 ·obtain ⟨x3,f,h⟩:=ob h
  refine eCa f ?_
  cases h
  exact wr J 2 func134 []
 refine wB J 7 h (fun h=>wa J 6 (eCr ?_)) fun h=>?_
 ·cases h
  exact wr J 2 func134 []
 refine wO J 7 h fun x4 g h=>eCl (rc_ref09_Digits_ct (w64 (n_.tdiv 10)) _ g) [] [] (wa J 4 (eCr ?_))
 obtain ⟨x5,i,h⟩:=ob h
 refine eCa i ?_
 cases h
 exact wr J 2 func134 []
theorem z134_rct:∀ (N:Nat) (n_:Int) (r:ByteArray) (h:z134_r N n_=some r),Fn Tryz.prog 134 ⟨0,[.I n_],[],[],0,.c (.s r),[],[]⟩:=by
 intro N
 induction N with
 | zero=>intros;rename_i h;cases h
 | succ N ih=>intro n_ r h;exact z134_b_ct N (z134_r N) ih n_ r h
theorem z134_ct (N:Nat) (n_:Int) (r:ByteArray) (h:z134 N n_=some r):Fn Tryz.prog 134 ⟨0,[.I n_],[],[],0,.c (.s r),[],[]⟩:=z134_rct N n_ r h
theorem z135_ct (N:Nat) (x_:T13) (r:ByteArray) (h:z135 N x_=some r) :
 Fn Tryz.prog 135 ⟨0,[.a (cC13 x_)],[],[],0,.c (.s r),[],[]⟩:=by
 refine eFn func135 rfl (fun E F w=>?_)
 unfold z135 at h
 refine wB J 12 h (fun h=>?_) fun h=>wa J 15 (eCut (σ:=ByteArray) (fun st=>⟨[(1,.B 0 0),(3,.c (.s st))],[(0,.box (cC13 x_) 85)],[],1⟩) (fun st=>z135_k2 N x_ st=some r) ?_ (fun j1=>?_))
 ·refine wO J 5 h fun x1 d h=>eCl (z134_ct N x_.N _ d) [] [] ?_
  cases h
  exact wr J 2 func135 []
 ·intro e h
  replace h:z135_k2 N x_ e=some r:=h
  unfold z135_k2 at h
  refine wa J 7 (eCut (σ:=ByteArray) (fun st=>⟨[(1,.B 0 0),(3,.c (.s st))],[(0,.box (cC13 x_) 85)],[],1⟩) (fun st=>z135_k1 N x_ st=some r) ?_ (fun j2=>?_))
  ·intro f h
   replace h:z135_k1 N x_ f=some r:=h
   unfold z135_k1 at h
   refine wB J 9 h (fun h=>?_) fun h=>?_
   ·refine wO J 5 h fun x6 g h=>eCl (z134_ct N x_.N _ g) [] [] ?_
    obtain ⟨x7,i,h⟩:=ob h
    refine eCa i ?_
    obtain ⟨x8,j,h⟩:=ob h
    refine eCa j ?_
    cases h
    exact wr J 8 func135 []
   refine wB' J 8 h (fun h=>?_) fun h=>?_
   ·cases h
    exact wr J 8 func135 []
   refine wO J 6 h fun x9 k h=>eCl (z134_ct N (w64 (0-x_.N)) _ k) [] [] ?_
   obtain ⟨l,m,h⟩:=ob h
   refine eCa m ?_
   obtain ⟨o,p,h⟩:=ob h
   refine eCa p ?_
   cases h
   exact wr J 8 func135 []
  refine eB' h (fun h=>wa J 2 (eSub [] (j2 e h))) fun h=>?_
  refine wO J 3 h fun q t h=>eCa t ?_
  obtain ⟨u,v,h⟩:=ob h
  exact eCa v (wa J 2 (eSub [] (j2 u h)))
 refine eB' h (fun h=>wa J 2 (eSub [] (j1 x_.Field h))) fun h=>?_
 refine wO J 4 h fun x y h=>eCa y ?_
 exact wO J 1 h fun z A h=>eCa A (wa J 2 (eSub [] (j1 z h)))
theorem z85_ct (N:Nat) (m_:T6) (r:ByteArray) (h:z85 N m_=some r) :
 Fn Tryz.prog 85 ⟨2,[.a [.s m_.Name,.sl 0,.sl 1]],(vV6 0 1 m_ []),[],2,.c (.s r),[],[]⟩:=by
 refine eFn func85 rfl (fun E F w=>?_)
 unfold z85 at h
 refine wO J 9 h fun x1 d h=>eCa d ?_
 obtain ⟨x2,e,h⟩:=ob h
 refine eCa e (wa J 7 (eCut (σ:=ByteArray) (fun st=>(zz3 m_.Name m_ [(1,.B 2 0),(3,.c (.s st))])) (fun st=>z85_k4 N m_ st=some r) ?_ (fun j1=>?_)))
 ·intro f h
  replace h:z85_k4 N m_ f=some r:=h
  unfold z85_k4 at h
  refine wO J 3 h fun g i h=>eCa i (wa J 7 (eCut (σ:=ByteArray) (fun st=>⟨[(3,.c (.s st))],[],(vV6 0 1 m_ []),3⟩) (fun st=>z85_k1 st=some r) ?_ (fun j9=>?_)))
  ·intro j h
   replace h:z85_k1 j=some r:=h
   unfold z85_k1 at h
   refine wO J 3 h fun k l h=>eCa l ?_
   cases h
   exact wr J 2 func85 []
  refine wa J 1 (eLoop (σ:=ByteArray × Int) (fun st=>(zz3 m_.Name m_ [(1,.B 2 0),(3,.c (.s st.1)),(7,.I st.2)])) (fun n st=>z85_l2 N m_ n st.1 st.2) (r:=r) (fun _=>rfl) ?_ (fun ih=>?_))
  ·intro n3 ih14
   rintro ⟨m,o⟩ h
   replace h:z85_l2 N m_ (n3+1) m o=some r:=h
   unfold z85_l2 at h
   refine wB' J 9 h (fun h=>wa J 2 (eSub [] (j9 m h))) fun h=>wa J 10 (eCut (σ:=ByteArray) (fun st=>(zz3 m_.Name m_ [(1,.B 2 0),(3,.c (.s st)),(7,.I o)])) (fun st=>z85_k3 N m_ o (z85_l2 N m_ n3) st=some r) ?_ (fun j17=>?_))
   ·intro p h
    replace h:z85_k3 N m_ o (z85_l2 N m_ n3) p=some r:=h
    unfold z85_k3 at h
    refine wO J 5 h fun q t h=>eIx J oO4 t ?_
    refine wO J 2 h fun u v h=>eCl (z135_ct N q.Left _ v) [] [] ?_
    obtain ⟨x,y,h⟩:=ob h
    refine eCa y ?_
    refine wO J 3 h fun z A h=>eIx J oO4 A ?_
    refine wO J 2 h fun C D h=>eCa D ?_
    obtain ⟨G,H,h⟩:=ob h
    refine eCa H ?_
    refine wO J 3 h fun R T h=>eIx J oO4 T ?_
    refine wO J 2 h fun U X h=>eCl (z135_ct N R.Right _ X) [] [] ?_
    obtain ⟨Y,Z,h⟩:=ob h
    refine eCa Z ?_
    obtain ⟨a0,b0,h⟩:=ob h
    exact eCa b0 (wa J 1 (eEnd (wa J 6 (eSub [] (ih14 (a0,(w64 (o+1))) h)))))
   refine eB h (fun h=>?_) fun h=>?_
   ·exact wO J 3 h fun c0 d0 h=>eCa d0 (wa J 2 (eSub [] (j17 c0 h)))
   exact wO J 3 h fun e0 f0 h=>eCa f0 (wa J 2 (eSub [] (j17 e0 h)))
  exact eSub [] (ih N (g,0) h)
 refine wa J 1 (eLoop (σ:=ByteArray × Int) (fun st=>(zz3 m_.Name m_ [(1,.B 2 0),(3,.c (.s st.1)),(4,.I st.2)])) (fun n st=>z85_l5 N m_ n st.1 st.2) (r:=r) (fun _=>rfl) ?_ (fun ih=>?_))
 ·intro n4 ih18
  rintro ⟨g0,i0⟩ h
  replace h:z85_l5 N m_ (n4+1) g0 i0=some r:=h
  unfold z85_l5 at h
  refine wB' J 9 h (fun h=>wa J 2 (eSub [] (j1 g0 h))) fun h=>?_
  refine wO J 9 h fun j0 k0 h=>eIx J oO0 k0 (wa J 16 (eCut (σ:=ByteArray) (fun st=>⟨[(1,.B 2 0),(3,.c (.s g0)),(4,.I i0),(5,.B 4 0),(6,.c (.s st))],[(2,.box [.s m_.Name,.sl 0,.sl 1] 80),(4,.box (cC0 j0) 126)],(vV6 0 1 m_ []),5⟩) (fun st=>z85_k7 N g0 i0 (z85_l5 N m_ n4) j0 st=some r) ?_ (fun j23=>?_)))
  ·intro l0 h
   replace h:z85_k7 N g0 i0 (z85_l5 N m_ n4) j0 l0=some r:=h
   unfold z85_k7 at h
   refine wa J 6 (eCut (σ:=ByteArray) (fun st=>⟨[(1,.B 2 0),(3,.c (.s st)),(4,.I i0),(5,.B 4 0),(6,.c (.s l0))],[(2,.box [.s m_.Name,.sl 0,.sl 1] 80),(4,.box (cC0 j0) 126)],(vV6 0 1 m_ []),5⟩) (fun st=>z85_k6 N i0 (z85_l5 N m_ n4) j0 l0 st=some r) ?_ (fun j24=>?_))
   ·intro m0 h
    replace h:z85_k6 N i0 (z85_l5 N m_ n4) j0 l0 m0=some r:=h
    unfold z85_k6 at h
    refine wO J 4 h fun o0 p0 h=>eCa p0 ?_
    refine wO J 1 h fun q0 s0 h=>eCa s0 ?_
    obtain ⟨t0,u0,h⟩:=ob h
    refine eCa u0 ?_
    refine wO J 3 h fun v0 x0 h=>eCl (z134_ct N j0.Sort'.Lo _ x0) [] [] ?_
    obtain ⟨y0,z0,h⟩:=ob h
    refine eCa z0 ?_
    obtain ⟨A0,B0,h⟩:=ob h
    refine eCa B0 ?_
    refine wO J 3 h fun C0 D0 h=>eCl (z134_ct N j0.Sort'.Hi _ D0) [] [] ?_
    obtain ⟨G0,H0,h⟩:=ob h
    refine eCa H0 ?_
    obtain ⟨I0,L0,h⟩:=ob h
    exact eCa L0 (wa J 1 (eEnd (wa J 6 (eSub [] (ih18 (I0,(w64 (i0+1))) h)))))
   refine eB' h (fun h=>wa J 2 (eSub [] (j24 g0 h))) fun h=>?_
   exact wO J 3 h fun M0 O0 h=>eCa O0 (wa J 2 (eSub [] (j24 M0 h)))
  exact eB h (fun h=>wa J 4 (eSub [] (j23 (str [116,101,120,116]) h))) fun h=>wa J 2 (eSub [] (j23 (str [105,110,116]) h))
 exact eSub [] (ih N (x2,0) h)
theorem z136_ct (N:Nat) (rc:T5→ByteArray→Option ByteArray) (rc_ref10_item_ct:(∀ (x_:T5) (indent_:ByteArray) (r:ByteArray),rc x_ indent_=some r→Fn Tryz.prog 86 ⟨2,[.a [.I x_.Kind,.s x_.From,.sl 0,.s x_.Name,.s x_.As,.I x_.Ticks,.sl 1],.c (.s indent_)],[(0,.sl rS x_.To),(1,.sl (rSl rR5) x_.Blocks)],[],2,.c (.s r),[],[]⟩)) (l_:(List T5)) (indent_:ByteArray) (r:ByteArray) (h:z136 N rc l_ indent_=some r) :
 Fn Tryz.prog 136 ⟨1,[.S 0,.c (.s indent_)],[(0,.sl rR5 l_)],[],1,.c (.s r),[],[]⟩:=by
 refine eFn func136 rfl (fun E F w=>?_)
 unfold z136 at h
 refine wa J 13 (eCut (σ:=ByteArray) (fun st=>(zz2 l_ [(1,.c (.s indent_)),(5,.c (.s st))])) (fun st=>z136_k1 indent_ st=some r) ?_ (fun j1=>?_))
 ·intro d h
  replace h:z136_k1 indent_ d=some r:=h
  unfold z136_k1 at h
  refine wO J 4 h fun e f h=>eCa f ?_
  obtain ⟨g,i,h⟩:=ob h
  refine eCa i ?_
  cases h
  exact wr J 2 func136 []
 refine wa J 1 (eLoop (σ:=ByteArray × Int) (fun st=>(zz2 l_ [(0,.S 0),(1,.c (.s indent_)),(5,.c (.s st.1)),(6,.I st.2)])) (fun n st=>z136_l2 rc l_ indent_ n st.1 st.2) (r:=r) (fun _=>rfl) ?_ (fun ih=>?_))
 ·intro n2 ih3
  rintro ⟨j,k⟩ h
  replace h:z136_l2 rc l_ indent_ (n2+1) j k=some r:=h
  unfold z136_l2 at h
  refine wB' J 8 h (fun h=>wa J 2 (eSub [] (j1 j h))) fun h=>?_
  refine wO J 7 h fun l m h=>eCa m ?_
  refine wO J 2 h fun o p h=>eIx J oO5 p ?_
  refine wO J 2 h fun q t h=>eCa t ?_
  obtain ⟨u,v,h⟩:=ob h
  refine eCl (rc_ref10_item_ct o q _ v) [] [(0,.sl 2),(1,.sl 3)] ?_
  obtain ⟨x,y,h⟩:=ob h
  refine eCa y ?_
  obtain ⟨z,A,h⟩:=ob h
  refine eCa A ?_
  obtain ⟨C,D,h⟩:=ob h
  exact eCa D (wa J 8 (eSub [] (ih3 (C,(w64 (k+1))) h)))
 exact eSub [] (ih N ((str [123,10]),0) h)
theorem z86_b_ct (N:Nat) (rc:T5→ByteArray→Option ByteArray) (rc_ref10_item_ct:(∀ (x_:T5) (indent_:ByteArray) (r:ByteArray),rc x_ indent_=some r→Fn Tryz.prog 86 ⟨2,[.a [.I x_.Kind,.s x_.From,.sl 0,.s x_.Name,.s x_.As,.I x_.Ticks,.sl 1],.c (.s indent_)],[(0,.sl rS x_.To),(1,.sl (rSl rR5) x_.Blocks)],[],2,.c (.s r),[],[]⟩)) (x_:T5) (indent_:ByteArray) (r:ByteArray) (h:z86_b N rc x_ indent_=some r) :
 Fn Tryz.prog 86 ⟨2,[.a [.I x_.Kind,.s x_.From,.sl 0,.s x_.Name,.s x_.As,.I x_.Ticks,.sl 1],.c (.s indent_)],[(0,.sl rS x_.To),(1,.sl (rSl rR5) x_.Blocks)],[],2,.c (.s r),[],[]⟩:=by
 refine eFn func86 rfl (fun E F w=>?_)
 unfold z86_b at h
 refine wB J 22 h (fun h=>?_) fun h=>?_
 ·refine wO J 5 h fun x1 d h=>eCa d ?_
  refine wO J 2 h fun x2 e h=>eCl (z84_ct N x_.To _ e) [] [(0,.sl 0)] ?_
  obtain ⟨x3,f,h⟩:=ob h
  refine eCa f ?_
  obtain ⟨x4,g,h⟩:=ob h
  refine eCa g ?_
  refine wO J 2 h fun x5 i h=>eCa i ?_
  obtain ⟨x6,j,h⟩:=ob h
  refine eCa j (wa J 1 (eEnd ?_))
  cases h
  exact eRet J func86 []
 refine wB J 6 h (fun h=>?_) fun h=>?_
 ·refine wO J 5 h fun x7 k h=>eCa k ?_
  obtain ⟨x8,l,h⟩:=ob h
  refine eCa l ?_
  cases h
  exact wr J 2 func86 []
 refine wB J 6 h (fun h=>?_) fun h=>wa J 6 (eCut (σ:=ByteArray × ByteArray) (fun st=>(zz6 x_.Kind x_.From x_.Name x_.As x_.Ticks x_.To x_.Blocks [(1,.c (.s indent_)),(2,.B 2 0),(5,.c (.s st.1)),(6,.c (.s st.2))])) (fun st=>z86_k4 N rc x_ indent_ st.1 st.2=some r) ?_ (fun j1=>?_))
 ·refine wO J 5 h fun x9 m h=>eCa m ?_
  obtain ⟨o,p,h⟩:=ob h
  refine eCa p ?_
  refine wO J 2 h fun q t h=>eCl (z84_ct N x_.To _ t) [] [(0,.sl 0)] ?_
  obtain ⟨u,v,h⟩:=ob h
  refine eCa v ?_
  obtain ⟨x,y,h⟩:=ob h
  refine eCa y ?_
  refine wO J 2 h fun z A h=>eCa A ?_
  obtain ⟨C,D,h⟩:=ob h
  refine eCa D (wa J 1 (eEnd ?_))
  cases h
  exact eRet J func86 []
 ·rintro ⟨G,H⟩ h
  replace h:z86_k4 N rc x_ indent_ G H=some r:=h
  unfold z86_k4 at h
  refine wa J 6 (eCut (σ:=ByteArray) (fun st=>⟨[(5,.c (.s st))],[],[(0,.sl rS x_.To),(1,.sl (rSl rR5) x_.Blocks)],3⟩) (fun st=>z86_k1 st=some r) ?_ (fun j2=>?_))
  ·intro R h
   replace h:z86_k1 R=some r:=h
   unfold z86_k1 at h
   cases h
   exact wr J 5 func86 []
  refine wa J 1 (eLoop (σ:=ByteArray × Int) (fun st=>(zz6 x_.Kind x_.From x_.Name x_.As x_.Ticks x_.To x_.Blocks [(1,.c (.s indent_)),(2,.B 2 0),(5,.c (.s st.1)),(6,.c (.s H)),(7,.I st.2)])) (fun n st=>z86_l2 N rc x_ indent_ H n st.1 st.2) (r:=r) (fun _=>rfl) ?_ (fun ih=>?_))
  ·intro n2 ih7
   rintro ⟨T,U⟩ h
   replace h:z86_l2 N rc x_ indent_ H (n2+1) T U=some r:=h
   unfold z86_l2 at h
   refine wB' J 9 h (fun h=>wa J 2 (eSub [] (j2 T h))) fun h=>?_
   refine wa J 11 (eCut (σ:=Bool) (fun st=>(zz6 x_.Kind x_.From x_.Name x_.As x_.Ticks x_.To x_.Blocks [(1,.c (.s indent_)),(2,.B 2 0),(5,.c (.s T)),(6,.c (.s H)),(7,.I U),(74,.O st)])) (fun st=>z86_k3 N rc x_ indent_ H T U (z86_l2 N rc x_ indent_ H n2) st=some r) ?_ (fun j10=>?_))
   ·intro X h
    replace h:z86_k3 N rc x_ indent_ H T U (z86_l2 N rc x_ indent_ H n2) X=some r:=h
    unfold z86_k3 at h
    refine eB h (fun h=>?_) fun h=>?_
    ·refine wO J 3 h fun Y Z h=>eCa Z ?_
     refine wO J 8 h fun a0 b0 h=>eIx J (oSl rR5) b0 ?_
     refine wO J 2 h fun c0 d0 h=>eCl (z136_ct N rc rc_ref10_item_ct a0 indent_ _ d0) [] [(0,.sl 4)] ?_
     obtain ⟨e0,f0,h⟩:=ob h
     exact eCa f0 (wa J 8 (eSub [] (ih7 (e0,(w64 (U+1))) h)))
    refine wB' J 7 h (fun h=>?_) fun h=>?_
    ·refine wO J 8 h fun g0 i0 h=>eIx J (oSl rR5) i0 ?_
     refine wO J 2 h fun j0 k0 h=>eCl (z136_ct N rc rc_ref10_item_ct g0 indent_ _ k0) [] [(0,.sl 4)] ?_
     obtain ⟨l0,m0,h⟩:=ob h
     exact eCa m0 (wa J 8 (eSub [] (ih7 (l0,(w64 (U+1))) h)))
    refine wO J 4 h fun o0 p0 h=>eCa p0 ?_
    refine wO J 8 h fun q0 s0 h=>eIx J (oSl rR5) s0 ?_
    refine wO J 2 h fun t0 u0 h=>eCl (z136_ct N rc rc_ref10_item_ct q0 indent_ _ u0) [] [(0,.sl 4)] ?_
    obtain ⟨v0,x0,h⟩:=ob h
    exact eCa x0 (wa J 8 (eSub [] (ih7 (v0,(w64 (U+1))) h)))
   refine eB' h (fun h=>wa J 14 (eSub [] (j10 false h))) fun h=>?_
   exact wB J 5 h (fun h=>wa J 9 (eSub [] (j10 (U==(w64 ((x_.Blocks.length:Int)-1))) h))) fun h=>wa J 9 (eSub [] (j10 false h))
  exact eSub [] (ih N (G,0) h)
 refine eB h (fun h=>?_) fun h=>?_
 ·refine wO J 4 h fun y0 z0 h=>eCa z0 ?_
  obtain ⟨A0,B0,h⟩:=ob h
  exact eCa B0 (wa J 2 (eSub [] (j1 (A0,(str [])) h)))
 refine wB J 6 h (fun h=>wa J 5 (eSub [] (j1 ((str [112,97,114,32]),(str [32,97,110,100,32])) h))) fun h=>?_
 refine wO J 5 h fun C0 D0 h=>eCa D0 ?_
 obtain ⟨G0,H0,h⟩:=ob h
 refine eCa H0 ?_
 refine wB' J 9 h (fun h=>wa J 2 (eSub [] (j1 (G0,(str [32,111,114,32])) h))) fun h=>?_
 refine wO J 5 h fun I0 L0 h=>eCl (z134_ct N x_.Ticks _ L0) [] [] ?_
 obtain ⟨M0,O0,h⟩:=ob h
 refine eCa O0 ?_
 obtain ⟨R0,S0,h⟩:=ob h
 refine eCa S0 ?_
 obtain ⟨T0,U0,h⟩:=ob h
 exact eCa U0 (wa J 2 (eSub [] (j1 (T0,(str [32,111,114,32])) h)))
theorem z86_rct:∀ (N:Nat) (x_:T5) (indent_:ByteArray) (r:ByteArray) (h:z86_r N x_ indent_=some r),Fn Tryz.prog 86 ⟨2,[.a [.I x_.Kind,.s x_.From,.sl 0,.s x_.Name,.s x_.As,.I x_.Ticks,.sl 1],.c (.s indent_)],[(0,.sl rS x_.To),(1,.sl (rSl rR5) x_.Blocks)],[],2,.c (.s r),[],[]⟩:=by
 intro N
 induction N with
 | zero=>intros;rename_i h;cases h
 | succ N ih=>intro x_ indent_ r h;exact z86_b_ct N (z86_r N) ih x_ indent_ r h
theorem z86_ct (N:Nat) (x_:T5) (indent_:ByteArray) (r:ByteArray) (h:z86 N x_ indent_=some r):Fn Tryz.prog 86 ⟨2,[.a [.I x_.Kind,.s x_.From,.sl 0,.s x_.Name,.s x_.As,.I x_.Ticks,.sl 1],.c (.s indent_)],[(0,.sl rS x_.To),(1,.sl (rSl rR5) x_.Blocks)],[],2,.c (.s r),[],[]⟩:=z86_rct N x_ indent_ r h
theorem z39_ct (N:Nat) (l_:(List T7)) (r:ByteArray) (h:z39 N l_=some r) :
 Fn Tryz.prog 39 ⟨1,[.S 0],[(0,.sl rR7 l_)],[],1,.c (.s r),[],[]⟩:=by
 refine eFn func39 rfl (fun E F w=>?_)
 unfold z39 at h
 refine wa J 13 (eCut (σ:=ByteArray) (fun st=>⟨[(3,.c (.s st))],[],[(0,.sl rR7 l_)],1⟩) (fun st=>z39_k1 st=some r) ?_ (fun j1=>?_))
 ·intro d h
  replace h:z39_k1 d=some r:=h
  unfold z39_k1 at h
  cases h
  exact wr J 5 func39 []
 refine wa J 1 (eLoop (σ:=ByteArray × Int) (fun st=>⟨[(0,.S 0),(3,.c (.s st.1)),(4,.I st.2)],[],[(0,.sl rR7 l_)],1⟩) (fun n st=>z39_l2 N l_ n st.1 st.2) (r:=r) (fun _=>rfl) ?_ (fun ih=>?_))
 ·intro n22 ih21
  rintro ⟨e,f⟩ h
  replace h:z39_l2 N l_ (n22+1) e f=some r:=h
  unfold z39_l2 at h
  refine wB' J 8 h (fun h=>wa J 2 (eSub [] (j1 e h))) fun h=>?_
  refine wO J 9 h fun g i h=>eIx J oO7 i ?_
  refine wO J 2 h fun j k h=>eCa k ?_
  obtain ⟨l,m,h⟩:=ob h
  refine eCa m ?_
  refine wO J 2 h fun o p h=>eIx J oO7 p ?_
  refine wO J 2 h fun q t h=>eCl (z84_ct N o.Roles _ t) [] [(0,.sl 6)] ?_
  obtain ⟨u,v,h⟩:=ob h
  refine eCa v ?_
  obtain ⟨x,y,h⟩:=ob h
  refine eCa y ?_
  obtain ⟨z,A,h⟩:=ob h
  refine eCa A (wa J 1 (eEnd (wa J 5 (eCut (σ:=ByteArray) (fun st=>⟨[(0,.S 0),(3,.c (.s st)),(4,.I f)],[],[(0,.sl rR7 l_)],9⟩) (fun st=>z39_k5 N l_ f (z39_l2 N l_ n22) st=some r) ?_ (fun j34=>?_)))))
  ·intro C h
   replace h:z39_k5 N l_ f (z39_l2 N l_ n22) C=some r:=h
   unfold z39_k5 at h
   refine wa J 5 (eCut (σ:=ByteArray) (fun st=>⟨[(0,.S 0),(3,.c (.s st)),(4,.I f)],[],[(0,.sl rR7 l_)],9⟩) (fun st=>z39_k3 f (z39_l2 N l_ n22) st=some r) ?_ (fun j36=>?_))
   ·intro D h
    replace h:z39_k3 f (z39_l2 N l_ n22) D=some r:=h
    unfold z39_k3 at h
    exact wO J 2 h fun G H h=>eCa H (wa J 8 (eSub [] (ih21 (G,(w64 (f+1))) h)))
   refine wa J 1 (eLoop (σ:=ByteArray × Int) (fun st=>⟨[(0,.S 0),(3,.c (.s st.1)),(4,.I f),(6,.I st.2)],[],[(0,.sl rR7 l_)],9⟩) (fun n st=>z39_l4 N l_ f (z39_l2 N l_ n22) n st.1 st.2) (r:=r) (fun _=>rfl) ?_ (fun ih=>?_))
   ·intro n25 ih38
    rintro ⟨R,T⟩ h
    replace h:z39_l4 N l_ f (z39_l2 N l_ n22) (n25+1) R T=some r:=h
    unfold z39_l4 at h
    refine wO J 6 h fun U X h=>eIx J oO7 X ?_
    refine wB' J 5 h (fun h=>wa J 2 (eSub [] (j36 R h))) fun h=>?_
    refine wO J 8 h fun Y Z h=>eIx J oO7 Z ?_
    refine wO J 3 h fun a0 b0 h=>eIx J oO5 b0 ?_
    refine wO J 1 h fun c0 d0 h=>eCl (z86_ct N a0 (str [9]) _ d0) [] [(0,.sl 18),(1,.sl 19)] ?_
    obtain ⟨e0,f0,h⟩:=ob h
    refine eCa f0 ?_
    obtain ⟨g0,i0,h⟩:=ob h
    refine eCa i0 ?_
    obtain ⟨j0,k0,h⟩:=ob h
    exact eCa k0 (wa J 8 (eSub [] (ih38 (j0,(w64 (T+1))) h)))
   exact eSub [] (ih N (C,0) h)
  refine wa J 1 (eLoop (σ:=ByteArray × Int) (fun st=>⟨[(0,.S 0),(3,.c (.s st.1)),(4,.I f),(5,.I st.2)],[],[(0,.sl rR7 l_)],9⟩) (fun n st=>z39_l6 N l_ f (z39_l2 N l_ n22) n st.1 st.2) (r:=r) (fun _=>rfl) ?_ (fun ih=>?_))
  ·intro n26 ih39
   rintro ⟨l0,m0⟩ h
   replace h:z39_l6 N l_ f (z39_l2 N l_ n22) (n26+1) l0 m0=some r:=h
   unfold z39_l6 at h
   refine wO J 6 h fun o0 p0 h=>eIx J oO7 p0 ?_
   refine wB' J 5 h (fun h=>wa J 2 (eSub [] (j34 l0 h))) fun h=>?_
   refine wO J 8 h fun q0 s0 h=>eIx J oO7 s0 ?_
   refine wO J 3 h fun t0 u0 h=>eIx J oO6 u0 ?_
   refine wO J 1 h fun v0 x0 h=>eCl (z85_ct N t0 _ x0) [] [(0,.sl 18),(1,.sl 19)] ?_
   obtain ⟨y0,z0,h⟩:=ob h
   refine eCa z0 ?_
   obtain ⟨A0,B0,h⟩:=ob h
   refine eCa B0 ?_
   obtain ⟨C0,D0,h⟩:=ob h
   exact eCa D0 (wa J 8 (eSub [] (ih39 (C0,(w64 (m0+1))) h)))
  exact eSub [] (ih N (z,0) h)
 exact eSub [] (ih N ((str []),0) h)
theorem z19_ct (N:Nat) (l_:(List T7)) (r:Bool) (h:z19 N l_=some r) :
 Fn Tryz.prog 19 ⟨1,[.S 0],[(0,.sl rR7 l_)],[],1,.O r,[],[]⟩:=by
 refine eFn func19 rfl (fun E F w=>?_)
 unfold z19 at h
 refine wB J 11 h (fun h=>?_) fun h=>wa J 7 (eCut (σ:=Unit) (fun st=>⟨[(0,.S 0)],[],[(0,.sl rR7 l_)],1⟩) (fun st=>z19_k1 N l_=some r) ?_ (fun j1=>?_))
 ·cases h
  exact wr J 5 func19 []
 ·intro _ h
  replace h:z19_k1 N l_=some r:=h
  unfold z19_k1 at h
  refine wO J 3 h fun c d h=>eCl (z39_ct N l_ _ d) [] [(0,.sl 0)] ?_
  cases h
  exact wr J 4 func19 []
 refine wa J 1 (eLoop (σ:=Int) (fun st=>⟨[(0,.S 0),(3,.I st)],[],[(0,.sl rR7 l_)],1⟩) (fun n st=>z19_l2 N l_ n st) (r:=r) (fun _=>rfl) ?_ (fun ih=>?_))
 ·intro n12 ih12
  intro e h
  replace h:z19_l2 N l_ (n12+1) e=some r:=h
  unfold z19_l2 at h
  refine wB' J 8 h (fun h=>wa J 2 (eSub [] (j1 () h))) fun h=>?_
  refine wO J 8 h fun f g h=>eIx J oO7 g ?_
  refine wO J 9 h fun i j h=>eCl (z40_ct N f.Name _ j) [] [] ?_
  refine wB J 2 h (fun h=>?_) fun h=>?_
  ·cases h
   exact wr J 35 func19 []
  refine wO J 2 h fun k l h=>eCl (z41_ct N f.Roles 6 _ l) [] [(0,.sl 2)] ?_
  refine wB J 3 h (fun h=>?_) fun h=>?_
  ·cases h
   exact wr J 29 func19 []
  refine wB J 6 h (fun h=>?_) fun h=>?_
  ·cases h
   exact wr J 23 func19 []
  refine wO J 2 h fun m o h=>eCl (z42_ct N f.Body _ o) [] [(0,.sl 4)] ?_
  refine wB J 3 h (fun h=>?_) fun h=>?_
  ·cases h
   exact wr J 17 func19 []
  refine wO J 2 h fun p q h=>eCl (z37_ct N f.Body _ q) [] [(0,.sl 4)] ?_
  refine wB J 3 h (fun h=>?_) fun h=>?_
  ·cases h
   exact wr J 11 func19 []
  refine wO J 2 h fun t u h=>eCl (z43_ct N f.Body _ u) [] [(0,.sl 4)] ?_
  refine wB J 3 h (fun h=>?_) fun h=>wa J 6 (eCut (σ:=Unit) (fun st=>⟨[(0,.S 0),(3,.I e)],[],[(0,.sl rR7 l_)],6⟩) (fun st=>z19_k3 e (z19_l2 N l_ n12)=some r) ?_ (fun j19=>?_))
  ·cases h
   exact wr J 5 func19 []
  ·intro _ h
   replace h:z19_k3 e (z19_l2 N l_ n12)=some r:=h
   unfold z19_k3 at h
   exact wa J 6 (eSub [] (ih12 (w64 (e+1)) h))
  refine wa J 1 (eLoop (σ:=Int) (fun st=>⟨[(0,.S 0),(3,.I e),(4,.B 5 0),(5,.I st)],[(5,.box [.s f.Name,.sl 2,.sl 3,.sl 4] 68)],((0,.sl rR7 l_)::vV7 2 3 4 f []),6⟩) (fun n st=>z19_l4 N e (z19_l2 N l_ n12) f n st) (r:=r) (fun _=>rfl) ?_ (fun ih=>?_))
  ·intro n14 ih21
   intro v h
   replace h:z19_l4 N e (z19_l2 N l_ n12) f (n14+1) v=some r:=h
   unfold z19_l4 at h
   refine wB' J 9 h (fun h=>wa J 2 (eSub [] (j19 () h))) fun h=>?_
   refine wO J 9 h fun x y h=>eIx J oO6 y ?_
   refine wO J 1 h fun z A h=>eCl (z44_ct N x _ A) [] [(0,.sl 7),(1,.sl 8)] ?_
   refine wB J 2 h (fun h=>?_) fun h=>wa J 8 (eSub [] (ih21 (w64 (v+1)) h))
   cases h
   exact wr J 5 func19 []
  exact eSub [] (ih N 0 h)
 exact eSub [] (ih N 0 h)
theorem z11_ct (N:Nat) (s_:ByteArray) (r:(List T7) × Int × Int) (h:z11 N s_=some r) :
 Fn Tryz.prog 11 ⟨0,[.c (.s s_)],[],[],1,.t [.inl (.sl 0),.inl (.I r.2.1),.inl (.I r.2.2)],[],[(0,.own rR7 r.1 true)]⟩:=by
 refine eFn func11 rfl (fun E F w=>?_)
 unfold z11 at h
 refine wO J 9 h fun x1 d h=>eCl (z26_ct N s_ _ d) [] [] ?_
 refine wB J 14 h (fun h=>?_) fun h=>wa J 15 (eCut (σ:=ByteArray × (List T2) × Int × Int × Int × (List T7)) (fun st=>⟨[(8,.B 1 0),(9,.S 3)],[(1,.box [.s st.1,.sl 2,.I st.2.2.1,.I st.2.2.2.1,.I st.2.2.2.2.1] 64),(3,.own rR7 st.2.2.2.2.2 true)],[(2,.sl rR2 st.2.1)],4⟩) (fun st=>z11_k1 N st.1 st.2.1 st.2.2.1 st.2.2.2.1 st.2.2.2.2.1 st.2.2.2.2.2=some r) ?_ (fun j1=>?_))
 ·cases h
  exact wr J 9 func11 [(0,.nil)]
 ·rintro ⟨e,f,g,i,j,k⟩ h
  replace h:z11_k1 N e f g i j k=some r:=h
  unfold z11_k1 at h
  refine wB J 9 h (fun h=>wa J 14 (eEnd ?_)) fun h=>?_
  ·cases h
   exact eRet J func11 [(0,.nil)]
  refine wO J 6 h fun l m h=>eCb (z19_ct N k _ m) [] [(0,.sl 3)] [3] (.inr ⟨rfl,trivial⟩) ?_
  refine wB J 2 h (fun h=>?_) fun h=>?_
  ·cases h
   exact wr J 7 func11 [(0,.nil)]
  cases h
  exact wr J 9 func11 [(0,.sl 3)]
 refine wa J 1 (eLoop (σ:=ByteArray × (List T2) × Int × Int × Int × (List T7)) (fun st=>⟨[(5,.S 0),(8,.B 1 0),(9,.S 3)],[(1,.box [.s st.1,.sl 2,.I st.2.2.1,.I st.2.2.2.1,.I st.2.2.2.2.1] 64),(3,.own rR7 st.2.2.2.2.2 true)],[(0,.sl rR2 x1.1),(2,.sl rR2 st.2.1)],4⟩) (fun n st=>z11_l2 N x1 n st.1 st.2.1 st.2.2.1 st.2.2.2.1 st.2.2.2.2.1 st.2.2.2.2.2) (r:=r) (fun _=>rfl) ?_ (fun ih=>?_))
 ·intro n2 ih3
  rintro ⟨o,p,q,u,v,x⟩ h
  replace h:z11_l2 N x1 (n2+1) o p q u v x=some r:=h
  unfold z11_l2 at h
  refine wB' J 9 h (fun h=>wa J 11 (eSub [] (j1 (o,p,q,u,v,x) h))) fun h=>?_
  refine wB' J 9 h (fun h=>wa J 2 (eSub [] (j1 (o,p,q,u,v,x) h))) fun h=>?_
  refine wO J 6 h fun y z h=>eCl (z27_ct N (⟨o,p,q,u,v⟩:T8) _ z) [] [(0,.bp 1 0),(1,.sl 2)] (eBs J [] oO7 ([y.1]:List T7) ?_)
  obtain ⟨A,C,h⟩:=ob h
  exact eAp J rR7 C (wa J 3 (eSub [(2,.sl 7),(3,.sl 9)] (ih3 (y.2.s',y.2.l',y.2.next',y.2.at',y.2.e',A) h)))
 exact eFr [0] (eSub [(2,.sl 0),(3,.nil)] (ih N (s_,x1.1,0,0,0,([]:List T7)) h))
theorem z31_b_ct (N:Nat) (rc:(List T10)→Option (List T5)) (rc_law10_theirItems_ct:(∀ (l_:(List T10)) (r:(List T5)),rc l_=some r→Fn Tryz.prog 31 ⟨1,[.S 0],[(0,.sl rR10 l_)],[],2,.S 1,[],[(1,.own rR5 r true)]⟩)) (l_:(List T10)) (r:(List T5)) (h:z31_b N rc l_=some r) :
 Fn Tryz.prog 31 ⟨1,[.S 0],[(0,.sl rR10 l_)],[],2,.S 1,[],[(1,.own rR5 r true)]⟩:=by
 refine eFn func31 rfl (fun E F w=>?_)
 unfold z31_b at h
 refine wa J 15 (eCut (σ:=(List T5)) (fun st=>⟨[(3,.S 1)],[(1,.own rR5 st true)],[(0,.sl rR10 l_)],2⟩) (fun st=>z31_k1 st=some r) ?_ (fun j1=>?_))
 ·intro c h
  replace h:z31_k1 c=some r:=h
  unfold z31_k1 at h
  cases h
  exact wr J 5 func31 [(1,.sl 1)]
 refine wa J 1 (eLoop (σ:=(List T5) × Int) (fun st=>⟨[(3,.S 1),(9,.S 0),(10,.I (l_.length:Int)),(11,.I st.2)],[(1,.own rR5 st.1 true)],[(0,.sl rR10 l_)],2⟩) (fun n st=>z31_l2 N rc l_ n st.1 st.2) (r:=r) (fun _=>rfl) ?_ (fun ih=>?_))
 ·intro n12 ih12
  rintro ⟨d,e⟩ h
  replace h:z31_l2 N rc l_ (n12+1) d e=some r:=h
  unfold z31_l2 at h
  refine wB' J 5 h (fun h=>wa J 2 (eSub [] (j1 d h))) fun h=>?_
  refine wO J 6 h fun f g h=>eIx J oO10 g (wa J 30 (eCut (σ:=(List (List T5))) (fun st=>⟨[(3,.S 1),(6,.B 6 0),(9,.S 0),(10,.I (l_.length:Int)),(11,.I e)],[(1,.own rR5 d true),(6,.box [.I f.Kind,.s f.From,.sl 3,.s f.Name,.s f.As,.I f.Ticks,.sl 7] 121),(7,.own (rSl rR5) st true)],[(0,.sl rR10 l_),(3,.sl rS f.To)],8⟩) (fun st=>z31_k3 d e (z31_l2 N rc l_ n12) f st=some r) ?_ (fun j19=>?_)))
  ·intro i h
   replace h:z31_k3 d e (z31_l2 N rc l_ n12) f i=some r:=h
   unfold z31_k3 at h
   refine wa J 3 (eBs J [7] oO5 ([(⟨f.Kind,f.From,f.To,f.Name,f.As,f.Ticks,i⟩:T5)]:List T5) ?_)
   obtain ⟨j,k,h⟩:=ob h
   exact eAp J rR5 k (wa J 7 (eSub [(1,.sl 9)] (ih12 (j,(w64 (e+1))) h)))
  refine wa J 1 (eLoop (σ:=(List (List T5)) × Int) (fun st=>⟨[(3,.S 1),(6,.B 6 0),(9,.S 0),(10,.I (l_.length:Int)),(11,.I e),(29,.S 4),(30,.I (f.Blocks.length:Int)),(31,.I st.2)],[(1,.own rR5 d true),(6,.box [.I f.Kind,.s f.From,.sl 3,.s f.Name,.s f.As,.I f.Ticks,.sl 7] 121),(7,.own (rSl rR5) st.1 true)],[(0,.sl rR10 l_),(3,.sl rS f.To),(4,.sl (rSl rR10) f.Blocks)],8⟩) (fun n st=>z31_l4 rc d e (z31_l2 N rc l_ n12) f n st.1 st.2) (r:=r) (fun _=>rfl) ?_ (fun ih=>?_))
  ·intro n14 ih21
   rintro ⟨l,m⟩ h
   replace h:z31_l4 rc d e (z31_l2 N rc l_ n12) f (n14+1) l m=some r:=h
   unfold z31_l4 at h
   refine wB' J 5 h (fun h=>wa J 2 (eSub [] (j19 l h))) fun h=>?_
   refine wO J 6 h fun o p h=>eIx J (oSl rR10) p ?_
   refine wO J 7 h fun q t h=>eCl (rc_law10_theirItems_ct o _ t) [] [(0,.sl 9)] (eBs J [10] (oSl rR5) ([q]:List (List T5)) ?_)
   obtain ⟨u,v,h⟩:=ob h
   exact eAp J (rSl rR5) v (wa J 2 (eEnd (wa J 5 (eSub [(7,.sl 12)] (ih21 (u,(w64 (m+1))) h)))))
  exact eSub [(7,.nil)] (ih N (([]:List (List T5)),0) h)
 exact eSub [(1,.nil)] (ih N (([]:List T5),0) h)
theorem z31_rct:∀ (N:Nat) (l_:(List T10)) (r:(List T5)) (h:z31_r N l_=some r),Fn Tryz.prog 31 ⟨1,[.S 0],[(0,.sl rR10 l_)],[],2,.S 1,[],[(1,.own rR5 r true)]⟩:=by
 intro N
 induction N with
 | zero=>intros;rename_i h;cases h
 | succ N ih=>intro l_ r h;exact z31_b_ct N (z31_r N) ih l_ r h
theorem z31_ct (N:Nat) (l_:(List T10)) (r:(List T5)) (h:z31 N l_=some r):Fn Tryz.prog 31 ⟨1,[.S 0],[(0,.sl rR10 l_)],[],2,.S 1,[],[(1,.own rR5 r true)]⟩:=z31_rct N l_ r h
theorem z13_ct (N:Nat) (l_:(List T12)) (r:(List T7)) (h:z13 N l_=some r) :
 Fn Tryz.prog 13 ⟨1,[.S 0],[(0,.sl rR12 l_)],[],2,.S 1,[],[(1,.own rR7 r true)]⟩:=by
 refine eFn func13 rfl (fun E F w=>?_)
 unfold z13 at h
 refine wa J 15 (eCut (σ:=(List T7)) (fun st=>⟨[(3,.S 1)],[(1,.own rR7 st true)],[(0,.sl rR12 l_)],2⟩) (fun st=>z13_k1 st=some r) ?_ (fun j1=>?_))
 ·intro c h
  replace h:z13_k1 c=some r:=h
  unfold z13_k1 at h
  cases h
  exact wr J 5 func13 [(1,.sl 1)]
 refine wa J 1 (eLoop (σ:=(List T7) × Int) (fun st=>⟨[(3,.S 1),(12,.S 0),(13,.I (l_.length:Int)),(14,.I st.2)],[(1,.own rR7 st.1 true)],[(0,.sl rR12 l_)],2⟩) (fun n st=>z13_l2 N l_ n st.1 st.2) (r:=r) (fun _=>rfl) ?_ (fun ih=>?_))
 ·intro n72 ih66
  rintro ⟨d,e⟩ h
  replace h:z13_l2 N l_ (n72+1) d e=some r:=h
  unfold z13_l2 at h
  refine wB' J 5 h (fun h=>wa J 2 (eSub [] (j1 d h))) fun h=>?_
  refine wO J 6 h fun f g h=>eIx J oO12 g ?_
  refine wO J 12 h fun i j h=>eCl (z31_ct N f.Body _ j) [] [(0,.sl 5)] (wa J 3 (eEnd (wa J 8 (eCut (σ:=(List T6)) (fun st=>⟨[(3,.S 1),(6,.B 8 0),(12,.S 0),(13,.I (l_.length:Int)),(14,.I e)],[(1,.own rR7 d true),(7,.own rR5 i true),(8,.box [.s f.Name,.sl 3,.sl 9,.sl 7] 68),(9,.own rR6 st true)],[(0,.sl rR12 l_),(3,.sl rS f.Roles)],10⟩) (fun st=>z13_k3 d e (z13_l2 N l_ n72) f i st=some r) ?_ (fun j109=>?_)))))
  ·intro k h
   replace h:z13_k3 d e (z13_l2 N l_ n72) f i k=some r:=h
   unfold z13_k3 at h
   refine wa J 3 (eBs J [9,7] oO7 ([(⟨f.Name,f.Roles,k,i⟩:T7)]:List T7) ?_)
   obtain ⟨l,m,h⟩:=ob h
   exact eAp J rR7 m (wa J 7 (eSub [(1,.sl 11)] (ih66 (l,(w64 (e+1))) h)))
  refine wa J 1 (eLoop (σ:=(List T6) × Int) (fun st=>⟨[(3,.S 1),(6,.B 8 0),(12,.S 0),(13,.I (l_.length:Int)),(14,.I e),(27,.S 4),(28,.I (f.Messages.length:Int)),(29,.I st.2)],[(1,.own rR7 d true),(7,.own rR5 i true),(8,.box [.s f.Name,.sl 3,.sl 9,.sl 7] 68),(9,.own rR6 st.1 true)],[(0,.sl rR12 l_),(3,.sl rS f.Roles),(4,.sl rR11 f.Messages)],10⟩) (fun n st=>z13_l4 N d e (z13_l2 N l_ n72) f i n st.1 st.2) (r:=r) (fun _=>rfl) ?_ (fun ih=>?_))
  ·intro n84 ih120
   rintro ⟨o,p⟩ h
   replace h:z13_l4 N d e (z13_l2 N l_ n72) f i (n84+1) o p=some r:=h
   unfold z13_l4 at h
   refine wB' J 5 h (fun h=>wa J 2 (eSub [] (j109 o h))) fun h=>?_
   refine wO J 6 h fun q t h=>eIx J oO11 t (wa J 22 (eCut (σ:=(List T4)) (fun st=>⟨[(3,.S 1),(6,.B 8 0),(9,.B 14 0),(12,.S 0),(13,.I (l_.length:Int)),(14,.I e),(27,.S 4),(28,.I (f.Messages.length:Int)),(29,.I p)],[(1,.own rR7 d true),(7,.own rR5 i true),(8,.box [.s f.Name,.sl 3,.sl 9,.sl 7] 68),(9,.own rR6 o true),(14,.box [.s q.Name,.sl 11,.sl 15] 80),(15,.own rR4 st true)],[(0,.sl rR12 l_),(3,.sl rS f.Roles),(4,.sl rR11 f.Messages),(11,.sl rR0 q.Fields)],16⟩) (fun st=>z13_k5 o p (z13_l4 N d e (z13_l2 N l_ n72) f i n84) q st=some r) ?_ (fun j127=>?_)))
   ·intro u h
    replace h:z13_k5 o p (z13_l4 N d e (z13_l2 N l_ n72) f i n84) q u=some r:=h
    unfold z13_k5 at h
    refine wa J 4 (eBs J [15] oO6 ([(⟨q.Name,q.Fields,u⟩:T6)]:List T6) ?_)
    obtain ⟨v,x,h⟩:=ob h
    exact eAp J rR6 x (wa J 8 (eSub [(9,.sl 17)] (ih120 (v,(w64 (p+1))) h)))
   refine wa J 1 (eLoop (σ:=(List T4) × Int) (fun st=>⟨[(3,.S 1),(6,.B 8 0),(9,.B 14 0),(12,.S 0),(13,.I (l_.length:Int)),(14,.I e),(27,.S 4),(28,.I (f.Messages.length:Int)),(29,.I p),(39,.S 12),(40,.I (q.Where.length:Int)),(41,.I st.2)],[(1,.own rR7 d true),(7,.own rR5 i true),(8,.box [.s f.Name,.sl 3,.sl 9,.sl 7] 68),(9,.own rR6 o true),(14,.box [.s q.Name,.sl 11,.sl 15] 80),(15,.own rR4 st.1 true)],((0,.sl rR12 l_)::(3,.sl rS f.Roles)::(4,.sl rR11 f.Messages)::vV11 11 12 q []),16⟩) (fun n st=>z13_l6 o p (z13_l4 N d e (z13_l2 N l_ n72) f i n84) q n st.1 st.2) (r:=r) (fun _=>rfl) ?_ (fun ih=>?_))
   ·intro n86 ih129
    rintro ⟨y,z⟩ h
    replace h:z13_l6 o p (z13_l4 N d e (z13_l2 N l_ n72) f i n84) q (n86+1) y z=some r:=h
    unfold z13_l6 at h
    refine wB' J 5 h (fun h=>wa J 2 (eSub [] (j127 y h))) fun h=>?_
    refine wO J 6 h fun A C h=>eIx J oO9 C (wa J 14 (eBs J [] oO4 ([(⟨A.Left,A.Op,A.Right⟩:T4)]:List T4) ?_))
    obtain ⟨D,G,h⟩:=ob h
    exact eAp J rR4 G (wa J 8 (eSub [(15,.sl 19)] (ih129 (D,(w64 (z+1))) h)))
   exact eSub [(15,.nil)] (ih N (([]:List T4),0) h)
  exact eSub [(9,.nil)] (ih N (([]:List T6),0) h)
 exact eSub [(1,.nil)] (ih N (([]:List T7),0) h)
theorem z28_ct (N:Nat) (a_:(List ByteArray)) (b_:(List ByteArray)) (r:Bool) (h:z28 N a_ b_=some r) :
 Fn Tryz.prog 28 ⟨2,[.S 0,.S 1],[(0,.sl rS a_),(1,.sl rS b_)],[],2,.O r,[],[]⟩:=by
 refine eFn func28 rfl (fun E F w=>?_)
 unfold z28 at h
 refine wB J 13 h (fun h=>?_) fun h=>wa J 7 (eCut (σ:=Unit) (fun st=>(zz9 a_ b_ [])) (fun st=>z28_k1=some r) ?_ (fun j1=>?_))
 ·cases h
  exact wr J 5 func28 []
 ·intro _ h
  replace h:z28_k1=some r:=h
  unfold z28_k1 at h
  cases h
  exact wr J 4 func28 []
 refine wa J 1 (eLoop (σ:=Int) (fun st=>(zz9 a_ b_ [(0,.S 0),(1,.S 1),(5,.I st)])) (fun n st=>z28_l2 a_ b_ n st) (r:=r) (fun _=>rfl) ?_ (fun ih=>?_))
 ·intro n2 ih3
  intro c h
  replace h:z28_l2 a_ b_ (n2+1) c=some r:=h
  unfold z28_l2 at h
  refine wB' J 8 h (fun h=>wa J 2 (eSub [] (j1 () h))) fun h=>?_
  refine wO J 8 h fun d e h=>eIx J oS e ?_
  refine wO J 3 h fun f g h=>eIx J oS g (wa J 2 (eEnd ?_))
  refine eB h (fun h=>?_) fun h=>wa J 8 (eSub [] (ih3 (w64 (c+1)) h))
  cases h
  exact wr J 5 func28 []
 exact eSub [] (ih N 0 h)
theorem z29_ct (N:Nat) (a_:(List T6)) (b_:(List T6)) (r:Bool) (h:z29 N a_ b_=some r) :
 Fn Tryz.prog 29 ⟨2,[.S 0,.S 1],[(0,.sl rR6 a_),(1,.sl rR6 b_)],[],2,.O r,[],[]⟩:=by
 refine eFn func29 rfl (fun E F w=>?_)
 unfold z29 at h
 refine wB J 13 h (fun h=>?_) fun h=>wa J 7 (eCut (σ:=Unit) (fun st=>⟨[],[],[(0,.sl rR6 a_),(1,.sl rR6 b_)],2⟩) (fun st=>z29_k1=some r) ?_ (fun j1=>?_))
 ·cases h
  exact wr J 5 func29 []
 ·intro _ h
  replace h:z29_k1=some r:=h
  unfold z29_k1 at h
  cases h
  exact wr J 4 func29 []
 refine wa J 1 (eLoop (σ:=Int) (fun st=>⟨[(0,.S 0),(1,.S 1),(5,.I st)],[],[(0,.sl rR6 a_),(1,.sl rR6 b_)],2⟩) (fun n st=>z29_l2 N a_ b_ n st) (r:=r) (fun _=>rfl) ?_ (fun ih=>?_))
 ·intro n22 ih21
  intro c h
  replace h:z29_l2 N a_ b_ (n22+1) c=some r:=h
  unfold z29_l2 at h
  refine wB' J 8 h (fun h=>wa J 2 (eSub [] (j1 () h))) fun h=>?_
  refine wO J 9 h fun d e h=>eIx J oO6 e ?_
  refine wO J 4 h fun f g h=>eIx J oO6 g ?_
  refine wB J 4 h (fun h=>wa J 29 (eEnd ?_)) fun h=>?_
  ·cases h
   exact wr J 5 func29 []
  refine wO J 2 h fun i j h=>eIx J oO6 j ?_
  refine wO J 5 h fun k l h=>eIx J oO6 l ?_
  refine wB J 6 h (fun h=>wa J 14 (eEnd ?_)) fun h=>?_
  ·cases h
   exact wr J 5 func29 []
  refine wO J 2 h fun m o h=>eIx J oO6 o ?_
  refine wO J 5 h fun p q h=>eIx J oO6 q (wa J 5 (eEnd ?_))
  refine eB h (fun h=>?_) fun h=>wa J 7 (eCut (σ:=Unit) (fun st=>(zz10 a_ b_ [(0,.S 0),(1,.S 1),(5,.I c)])) (fun st=>z29_k5 N a_ b_ c (z29_l2 N a_ b_ n22)=some r) ?_ (fun j34=>?_))
  ·cases h
   exact wr J 5 func29 []
  ·intro _ h
   replace h:z29_k5 N a_ b_ c (z29_l2 N a_ b_ n22)=some r:=h
   unfold z29_k5 at h
   refine wa J 4 (eCut (σ:=Unit) (fun st=>(zz10 a_ b_ [(0,.S 0),(1,.S 1),(5,.I c)])) (fun st=>z29_k3 c (z29_l2 N a_ b_ n22)=some r) ?_ (fun j36=>?_))
   ·intro _ h
    replace h:z29_k3 c (z29_l2 N a_ b_ n22)=some r:=h
    unfold z29_k3 at h
    exact wa J 6 (eSub [] (ih21 (w64 (c+1)) h))
   refine wa J 1 (eLoop (σ:=Int) (fun st=>(zz10 a_ b_ [(0,.S 0),(1,.S 1),(5,.I c),(7,.I st)])) (fun n st=>z29_l4 a_ b_ c (z29_l2 N a_ b_ n22) n st) (r:=r) (fun _=>rfl) ?_ (fun ih=>?_))
   ·intro n25 ih38
    intro s h
    replace h:z29_l4 a_ b_ c (z29_l2 N a_ b_ n22) (n25+1) s=some r:=h
    unfold z29_l4 at h
    refine wO J 6 h fun t u h=>eIx J oO6 u ?_
    refine wB' J 5 h (fun h=>wa J 2 (eSub [] (j36 () h))) fun h=>?_
    refine wO J 8 h fun v x h=>eIx J oO6 x ?_
    refine wO J 3 h fun y z h=>eIx J oO4 z ?_
    refine wO J 3 h fun A C h=>eIx J oO6 C ?_
    refine wO J 3 h fun D G h=>eIx J oO4 G (wa J 1 (eEq (eEnd ?_)))
    refine eB h (fun h=>?_) fun h=>wa J 8 (eSub [] (ih38 (w64 (s+1)) h))
    cases h
    exact wr J 5 func29 []
   exact eSub [] (ih N 0 h)
  refine wa J 1 (eLoop (σ:=Int) (fun st=>(zz10 a_ b_ [(0,.S 0),(1,.S 1),(5,.I c),(6,.I st)])) (fun n st=>z29_l6 N a_ b_ c (z29_l2 N a_ b_ n22) n st) (r:=r) (fun _=>rfl) ?_ (fun ih=>?_))
  ·intro n26 ih39
   intro H h
   replace h:z29_l6 N a_ b_ c (z29_l2 N a_ b_ n22) (n26+1) H=some r:=h
   unfold z29_l6 at h
   refine wO J 6 h fun R T h=>eIx J oO6 T ?_
   refine wB' J 5 h (fun h=>wa J 2 (eSub [] (j34 () h))) fun h=>?_
   refine wO J 8 h fun U X h=>eIx J oO6 X ?_
   refine wO J 3 h fun Y Z h=>eIx J oO0 Z ?_
   refine wO J 3 h fun a0 b0 h=>eIx J oO6 b0 ?_
   refine wO J 3 h fun c0 d0 h=>eIx J oO0 d0 (wa J 1 (eEq (eEnd ?_)))
   refine eB h (fun h=>?_) fun h=>wa J 8 (eSub [] (ih39 (w64 (H+1)) h))
   cases h
   exact wr J 5 func29 []
  exact eSub [] (ih N 0 h)
 exact eSub [] (ih N 0 h)
theorem z30_b_ct (N:Nat) (rc:(List T5)→(List T5)→Option Bool) (rc_ref10_EqualItems_ct:(∀ (a_:(List T5)) (b_:(List T5)) (r:Bool),rc a_ b_=some r→Fn Tryz.prog 30 ⟨2,[.S 0,.S 1],[(0,.sl rR5 a_),(1,.sl rR5 b_)],[],2,.O r,[],[]⟩)) (a_:(List T5)) (b_:(List T5)) (r:Bool) (h:z30_b N rc a_ b_=some r) :
 Fn Tryz.prog 30 ⟨2,[.S 0,.S 1],[(0,.sl rR5 a_),(1,.sl rR5 b_)],[],2,.O r,[],[]⟩:=by
 refine eFn func30 rfl (fun E F w=>?_)
 unfold z30_b at h
 refine wB J 13 h (fun h=>?_) fun h=>wa J 7 (eCut (σ:=Unit) (fun st=>⟨[],[],[(0,.sl rR5 a_),(1,.sl rR5 b_)],2⟩) (fun st=>z30_k1=some r) ?_ (fun j1=>?_))
 ·cases h
  exact wr J 5 func30 []
 ·intro _ h
  replace h:z30_k1=some r:=h
  unfold z30_k1 at h
  cases h
  exact wr J 4 func30 []
 refine wa J 1 (eLoop (σ:=Int) (fun st=>⟨[(0,.S 0),(1,.S 1),(5,.I st)],[],[(0,.sl rR5 a_),(1,.sl rR5 b_)],2⟩) (fun n st=>z30_l2 N rc a_ b_ n st) (r:=r) (fun _=>rfl) ?_ (fun ih=>?_))
 ·intro n12 ih12
  intro c h
  replace h:z30_l2 N rc a_ b_ (n12+1) c=some r:=h
  unfold z30_l2 at h
  refine wB' J 8 h (fun h=>wa J 2 (eSub [] (j1 () h))) fun h=>?_
  refine wO J 8 h fun d e h=>eIx J oO5 e ?_
  refine wO J 3 h fun f g h=>eIx J oO5 g (wa J 5 (eEnd ?_))
  refine wB J 9 h (fun h=>?_) fun h=>?_
  ·cases h
   exact wr J 50 func30 []
  refine wB J 7 h (fun h=>?_) fun h=>?_
  ·cases h
   exact wr J 43 func30 []
  refine wO J 4 h fun i j h=>eCl (z28_ct N d.To f.To _ j) [] [(0,.sl 3),(1,.sl 6)] ?_
  refine wB J 3 h (fun h=>?_) fun h=>?_
  ·cases h
   exact wr J 35 func30 []
  refine wB J 7 h (fun h=>?_) fun h=>?_
  ·cases h
   exact wr J 28 func30 []
  refine wB J 7 h (fun h=>?_) fun h=>?_
  ·cases h
   exact wr J 21 func30 []
  refine wB J 7 h (fun h=>?_) fun h=>?_
  ·cases h
   exact wr J 14 func30 []
  refine wB J 9 h (fun h=>?_) fun h=>wa J 6 (eCut (σ:=Unit) (fun st=>⟨[(0,.S 0),(1,.S 1),(5,.I c)],[],[(0,.sl rR5 a_),(1,.sl rR5 b_)],10⟩) (fun st=>z30_k3 c (z30_l2 N rc a_ b_ n12)=some r) ?_ (fun j19=>?_))
  ·cases h
   exact wr J 5 func30 []
  ·intro _ h
   replace h:z30_k3 c (z30_l2 N rc a_ b_ n12)=some r:=h
   unfold z30_k3 at h
   exact wa J 6 (eSub [] (ih12 (w64 (c+1)) h))
  refine wa J 1 (eLoop (σ:=Int) (fun st=>⟨[(0,.S 0),(1,.S 1),(5,.I c),(6,.B 8 0),(7,.B 9 0),(8,.I st)],[(8,.box [.I d.Kind,.s d.From,.sl 3,.s d.Name,.s d.As,.I d.Ticks,.sl 4] 121),(9,.box [.I f.Kind,.s f.From,.sl 6,.s f.Name,.s f.As,.I f.Ticks,.sl 7] 121)],[(0,.sl rR5 a_),(1,.sl rR5 b_),(3,.sl rS d.To),(4,.sl (rSl rR5) d.Blocks),(6,.sl rS f.To),(7,.sl (rSl rR5) f.Blocks)],10⟩) (fun n st=>z30_l4 rc c (z30_l2 N rc a_ b_ n12) d f n st) (r:=r) (fun _=>rfl) ?_ (fun ih=>?_))
  ·intro n14 ih21
   intro k h
   replace h:z30_l4 rc c (z30_l2 N rc a_ b_ n12) d f (n14+1) k=some r:=h
   unfold z30_l4 at h
   refine wB' J 9 h (fun h=>wa J 2 (eSub [] (j19 () h))) fun h=>?_
   refine wO J 9 h fun l m h=>eIx J (oSl rR5) m ?_
   refine wO J 4 h fun o p h=>eIx J (oSl rR5) p ?_
   refine wO J 1 h fun q t h=>eCl (rc_ref10_EqualItems_ct l o _ t) [] [(0,.sl 11),(1,.sl 13)] (wa J 1 (eEnd ?_))
   refine eB h (fun h=>?_) fun h=>wa J 8 (eSub [] (ih21 (w64 (k+1)) h))
   cases h
   exact wr J 5 func30 []
  exact eSub [] (ih N 0 h)
 exact eSub [] (ih N 0 h)
theorem z30_rct:∀ (N:Nat) (a_:(List T5)) (b_:(List T5)) (r:Bool) (h:z30_r N a_ b_=some r),Fn Tryz.prog 30 ⟨2,[.S 0,.S 1],[(0,.sl rR5 a_),(1,.sl rR5 b_)],[],2,.O r,[],[]⟩:=by
 intro N
 induction N with
 | zero=>intros;rename_i h;cases h
 | succ N ih=>intro a_ b_ r h;exact z30_b_ct N (z30_r N) ih a_ b_ r h
theorem z30_ct (N:Nat) (a_:(List T5)) (b_:(List T5)) (r:Bool) (h:z30 N a_ b_=some r):Fn Tryz.prog 30 ⟨2,[.S 0,.S 1],[(0,.sl rR5 a_),(1,.sl rR5 b_)],[],2,.O r,[],[]⟩:=z30_rct N a_ b_ r h
theorem z12_ct (N:Nat) (a_:(List T7)) (b_:(List T7)) (r:Bool) (h:z12 N a_ b_=some r) :
 Fn Tryz.prog 12 ⟨2,[.S 0,.S 1],[(0,.sl rR7 a_),(1,.sl rR7 b_)],[],2,.O r,[],[]⟩:=by
 refine eFn func12 rfl (fun E F w=>?_)
 unfold z12 at h
 refine wB J 13 h (fun h=>?_) fun h=>wa J 7 (eCut (σ:=Unit) (fun st=>⟨[],[],[(0,.sl rR7 a_),(1,.sl rR7 b_)],2⟩) (fun st=>z12_k1=some r) ?_ (fun j1=>?_))
 ·cases h
  exact wr J 5 func12 []
 ·intro _ h
  replace h:z12_k1=some r:=h
  unfold z12_k1 at h
  cases h
  exact wr J 4 func12 []
 refine wa J 1 (eLoop (σ:=Int) (fun st=>⟨[(0,.S 0),(1,.S 1),(5,.I st)],[],[(0,.sl rR7 a_),(1,.sl rR7 b_)],2⟩) (fun n st=>z12_l2 N a_ b_ n st) (r:=r) (fun _=>rfl) ?_ (fun ih=>?_))
 ·intro n2 ih3
  intro c h
  replace h:z12_l2 N a_ b_ (n2+1) c=some r:=h
  unfold z12_l2 at h
  refine wB' J 8 h (fun h=>wa J 2 (eSub [] (j1 () h))) fun h=>?_
  refine wO J 8 h fun d e h=>eIx J oO7 e ?_
  refine wO J 4 h fun f g h=>eIx J oO7 g ?_
  refine wB J 4 h (fun h=>wa J 41 (eEnd ?_)) fun h=>?_
  ·cases h
   exact wr J 5 func12 []
  refine wO J 2 h fun i j h=>eIx J oO7 j ?_
  refine wO J 4 h fun k l h=>eIx J oO7 l ?_
  refine wO J 2 h fun m o h=>eCl (z28_ct N i.Roles k.Roles _ o) [] [(0,.sl 11),(1,.sl 15)] ?_
  refine wB J 3 h (fun h=>wa J 27 (eEnd ?_)) fun h=>?_
  ·cases h
   exact wr J 5 func12 []
  refine wO J 2 h fun p q h=>eIx J oO7 q ?_
  refine wO J 4 h fun s t h=>eIx J oO7 t ?_
  refine wO J 2 h fun u v h=>eCl (z29_ct N p.Messages s.Messages _ v) [] [(0,.sl 20),(1,.sl 24)] ?_
  refine wB J 3 h (fun h=>wa J 13 (eEnd ?_)) fun h=>?_
  ·cases h
   exact wr J 5 func12 []
  refine wO J 2 h fun x y h=>eIx J oO7 y ?_
  refine wO J 4 h fun z A h=>eIx J oO7 A ?_
  refine wO J 2 h fun C D h=>eCl (z30_ct N x.Body z.Body _ D) [] [(0,.sl 29),(1,.sl 33)] (wa J 2 (eEnd ?_))
  refine eB h (fun h=>?_) fun h=>wa J 8 (eSub [] (ih3 (w64 (c+1)) h))
  cases h
  exact wr J 5 func12 []
 exact eSub [] (ih N 0 h)
theorem law10_SyntaxSource_ct (N:Nat) (s_:ByteArray) (r:Bool) (h:law10_SyntaxSource N s_=some r) :
 Fn Tryz.prog 3 ⟨1,[.c (.s s_)],[],[(0,.abs powT)],1,.O r,[],[(0,.abs powT)]⟩:=by
 refine eFn func3 rfl (fun E F w=>?_)
 unfold law10_SyntaxSource at h
 refine wO J 7 h fun x1 d h=>eCl (z9_ct N _ d) [] [(0,.sl 0)] ?_
 refine wB J 2 h (fun h=>?_) fun h=>?_
 ·refine wO J 8 h fun x2 e h=>eCl (z9_ct N _ e) [] [(0,.sl 0)] ?_
  cases h
  exact wr J 2 func3 []
 refine wB J 5 h (fun h=>?_) fun h=>?_
 ·refine wO J 3 h fun x3 f h=>eCl (z9_ct N _ f) [] [(0,.sl 0)] ?_
  cases h
  exact wr J 2 func3 []
 refine wO J 5 h fun x4 g h=>eCl (z10_ct N s_ _ g) [] [(0,.sl 0)] ?_
 refine wO J 11 h fun x5 i h=>eCl (z11_ct N s_ _ i) [] [] ?_
 refine wB' J 14 h (fun h=>?_) fun h=>?_
 ·cases h
  exact wr J 20 func3 []
 refine wB' J 5 h (fun h=>?_) fun h=>?_
 ·cases h
  exact wr J 15 func3 []
 refine wO J 1 h fun x6 j h=>eCl (z13_ct N x4.1 _ j) [] [(0,.sl 1)] ?_
 refine wO J 1 h fun x7 k h=>eCb (z12_ct N x6 x5.1 _ k) [] [(0,.sl 3),(1,.sl 2)] [3,2] (.inr ⟨rfl,trivial⟩) ?_
 refine wB' J 2 h (fun h=>?_) fun h=>?_
 ·cases h
  exact wr J 9 func3 []
 refine wB J 3 h (fun h=>?_) fun h=>?_
 ·cases h
  exact wr J 6 func3 []
 refine wO J 1 h fun x8 l h=>eCl (z14_ct N x4.1 _ l) [] [(0,.sl 1),(1,.sl 0)] ?_
 cases h
 exact wr J 4 func3 []
end Gx
end
