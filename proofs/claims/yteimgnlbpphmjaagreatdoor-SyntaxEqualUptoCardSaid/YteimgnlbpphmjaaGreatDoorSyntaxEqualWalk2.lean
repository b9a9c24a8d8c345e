/- Each function of the statement computes what its plain definition says, part 2. -/
import Derived.Test.YteimgnlbpphmjaaGreatDoorSyntaxEqualWalk1
set_option linter.all false
section
set_option maxRecDepth 10000
set_option maxHeartbeats 4000000
open Go Go.Kx Go.Proofs Tryz
namespace Gx
theorem z38_b_ct (N:Nat) (rc:(List T5)→Option (List T10)) (rc_law10_ownItems_ct:(∀ (l_:(List T5)) (r:(List T10)),rc l_=some r→Fn Tryz.prog 38 ⟨1,[.S 0],[(0,.sl rR5 l_)],[],2,.S 1,[],[(1,.own rR10 r true)]⟩)) (l_:(List T5)) (r:(List T10)) (h:z38_b N rc l_=some r) :
 Fn Tryz.prog 38 ⟨1,[.S 0],[(0,.sl rR5 l_)],[],2,.S 1,[],[(1,.own rR10 r true)]⟩:=by
 refine eFn func38 rfl (fun E F w=>?_)
 unfold z38_b at h
 refine wa J 15 (eCut (σ:=(List T10)) (fun st=>⟨[(3,.S 1)],[(1,.own rR10 st true)],[(0,.sl rR5 l_)],2⟩) (fun st=>z38_k1 st=some r) ?_ (fun j1=>?_))
 ·intro c h
  replace h:z38_k1 c=some r:=h
  unfold z38_k1 at h
  cases h
  exact wr J 5 func38 [(1,.sl 1)]
 refine wa J 1 (eLoop (σ:=(List T10) × Int) (fun st=>⟨[(3,.S 1),(9,.S 0),(10,.I (l_.length:Int)),(11,.I st.2)],[(1,.own rR10 st.1 true)],[(0,.sl rR5 l_)],2⟩) (fun n st=>z38_l2 N rc l_ n st.1 st.2) (r:=r) (fun _=>rfl) ?_ (fun ih=>?_))
 ·intro n12 ih12
  rintro ⟨d,e⟩ h
  replace h:z38_l2 N rc l_ (n12+1) d e=some r:=h
  unfold z38_l2 at h
  refine wB' J 5 h (fun h=>wa J 2 (eSub [] (j1 d h))) fun h=>?_
  refine wO J 6 h fun f g h=>eIx J oO5 g (wa J 30 (eCut (σ:=(List (List T10))) (fun st=>⟨[(3,.S 1),(6,.B 6 0),(9,.S 0),(10,.I (l_.length:Int)),(11,.I e)],[(1,.own rR10 d true),(6,.box [.I f.Kind,.s f.From,.sl 3,.s f.Name,.s f.As,.I f.Ticks,.sl 7] 129),(7,.own (rSl rR10) st true)],[(0,.sl rR5 l_),(3,.sl rS f.To)],8⟩) (fun st=>z38_k3 d e (z38_l2 N rc l_ n12) f st=some r) ?_ (fun j19=>?_)))
  ·intro i h
   replace h:z38_k3 d e (z38_l2 N rc l_ n12) f i=some r:=h
   unfold z38_k3 at h
   refine wa J 3 (eBs J [7] oO10 ([(⟨f.Kind,f.From,f.To,f.Name,f.As,f.Ticks,i⟩:T10)]:List T10) ?_)
   obtain ⟨j,k,h⟩:=ob h
   exact eAp J rR10 k (wa J 7 (eSub [(1,.sl 9)] (ih12 (j,(w64 (e+1))) h)))
  refine wa J 1 (eLoop (σ:=(List (List T10)) × Int) (fun st=>⟨[(3,.S 1),(6,.B 6 0),(9,.S 0),(10,.I (l_.length:Int)),(11,.I e),(29,.S 4),(30,.I (f.Blocks.length:Int)),(31,.I st.2)],[(1,.own rR10 d true),(6,.box [.I f.Kind,.s f.From,.sl 3,.s f.Name,.s f.As,.I f.Ticks,.sl 7] 129),(7,.own (rSl rR10) st.1 true)],[(0,.sl rR5 l_),(3,.sl rS f.To),(4,.sl (rSl rR5) f.Blocks)],8⟩) (fun n st=>z38_l4 rc d e (z38_l2 N rc l_ n12) f n st.1 st.2) (r:=r) (fun _=>rfl) ?_ (fun ih=>?_))
  ·intro n14 ih21
   rintro ⟨l,m⟩ h
   replace h:z38_l4 rc d e (z38_l2 N rc l_ n12) f (n14+1) l m=some r:=h
   unfold z38_l4 at h
   refine wB' J 5 h (fun h=>wa J 2 (eSub [] (j19 l h))) fun h=>?_
   refine wO J 6 h fun o p h=>eIx J (oSl rR5) p ?_
   refine wO J 7 h fun q t h=>eCl (rc_law10_ownItems_ct o _ t) [] [(0,.sl 9)] (eBs J [10] (oSl rR10) ([q]:List (List T10)) ?_)
   obtain ⟨u,v,h⟩:=ob h
   exact eAp J (rSl rR10) v (wa J 2 (eEnd (wa J 5 (eSub [(7,.sl 12)] (ih21 (u,(w64 (m+1))) h)))))
  exact eSub [(7,.nil)] (ih N (([]:List (List T10)),0) h)
 exact eSub [(1,.nil)] (ih N (([]:List T10),0) h)
theorem z38_rct:∀ (N:Nat) (l_:(List T5)) (r:(List T10)) (h:z38_r N l_=some r),Fn Tryz.prog 38 ⟨1,[.S 0],[(0,.sl rR5 l_)],[],2,.S 1,[],[(1,.own rR10 r true)]⟩:=by
 intro N
 induction N with
 | zero=>intros;rename_i h;cases h
 | succ N ih=>intro l_ r h;exact z38_b_ct N (z38_r N) ih l_ r h
theorem z38_ct (N:Nat) (l_:(List T5)) (r:(List T10)) (h:z38 N l_=some r):Fn Tryz.prog 38 ⟨1,[.S 0],[(0,.sl rR5 l_)],[],2,.S 1,[],[(1,.own rR10 r true)]⟩:=z38_rct N l_ r h
theorem z17_ct (N:Nat) (l_:(List T7)) (r:(List T12)) (h:z17 N l_=some r) :
 Fn Tryz.prog 17 ⟨1,[.S 0],[(0,.sl rR7 l_)],[],2,.S 1,[],[(1,.own rR12 r true)]⟩:=by
 refine eFn func17 rfl (fun E F w=>?_)
 unfold z17 at h
 refine wa J 15 (eCut (σ:=(List T12)) (fun st=>⟨[(3,.S 1)],[(1,.own rR12 st true)],[(0,.sl rR7 l_)],2⟩) (fun st=>z17_k1 st=some r) ?_ (fun j1=>?_))
 ·intro c h
  replace h:z17_k1 c=some r:=h
  unfold z17_k1 at h
  cases h
  exact wr J 5 func17 [(1,.sl 1)]
 refine wa J 1 (eLoop (σ:=(List T12) × Int) (fun st=>⟨[(3,.S 1),(12,.S 0),(13,.I (l_.length:Int)),(14,.I st.2)],[(1,.own rR12 st.1 true)],[(0,.sl rR7 l_)],2⟩) (fun n st=>z17_l2 N l_ n st.1 st.2) (r:=r) (fun _=>rfl) ?_ (fun ih=>?_))
 ·intro n72 ih66
  rintro ⟨d,e⟩ h
  replace h:z17_l2 N l_ (n72+1) d e=some r:=h
  unfold z17_l2 at h
  refine wB' J 5 h (fun h=>wa J 2 (eSub [] (j1 d h))) fun h=>?_
  refine wO J 6 h fun f g h=>eIx J oO7 g ?_
  refine wO J 12 h fun i j h=>eCl (z38_ct N f.Body _ j) [] [(0,.sl 5)] (wa J 3 (eEnd (wa J 8 (eCut (σ:=(List T11)) (fun st=>⟨[(3,.S 1),(6,.B 8 0),(12,.S 0),(13,.I (l_.length:Int)),(14,.I e)],[(1,.own rR12 d true),(7,.own rR10 i true),(8,.box [.s f.Name,.sl 3,.sl 9,.sl 7] 57),(9,.own rR11 st true)],[(0,.sl rR7 l_),(3,.sl rS f.Roles)],10⟩) (fun st=>z17_k3 d e (z17_l2 N l_ n72) f i st=some r) ?_ (fun j109=>?_)))))
  ·intro k h
   replace h:z17_k3 d e (z17_l2 N l_ n72) f i k=some r:=h
   unfold z17_k3 at h
   refine wa J 3 (eBs J [9,7] oO12 ([(⟨f.Name,f.Roles,k,i⟩:T12)]:List T12) ?_)
   obtain ⟨l,m,h⟩:=ob h
   exact eAp J rR12 m (wa J 7 (eSub [(1,.sl 11)] (ih66 (l,(w64 (e+1))) h)))
  refine wa J 1 (eLoop (σ:=(List T11) × Int) (fun st=>⟨[(3,.S 1),(6,.B 8 0),(12,.S 0),(13,.I (l_.length:Int)),(14,.I e),(27,.S 4),(28,.I (f.Messages.length:Int)),(29,.I st.2)],[(1,.own rR12 d true),(7,.own rR10 i true),(8,.box [.s f.Name,.sl 3,.sl 9,.sl 7] 57),(9,.own rR11 st.1 true)],[(0,.sl rR7 l_),(3,.sl rS f.Roles),(4,.sl rR6 f.Messages)],10⟩) (fun n st=>z17_l4 N d e (z17_l2 N l_ n72) f i n st.1 st.2) (r:=r) (fun _=>rfl) ?_ (fun ih=>?_))
  ·intro n84 ih120
   rintro ⟨o,p⟩ h
   replace h:z17_l4 N d e (z17_l2 N l_ n72) f i (n84+1) o p=some r:=h
   unfold z17_l4 at h
   refine wB' J 5 h (fun h=>wa J 2 (eSub [] (j109 o h))) fun h=>?_
   refine wO J 6 h fun q t h=>eIx J oO6 t (wa J 22 (eCut (σ:=(List T9)) (fun st=>⟨[(3,.S 1),(6,.B 8 0),(9,.B 14 0),(12,.S 0),(13,.I (l_.length:Int)),(14,.I e),(27,.S 4),(28,.I (f.Messages.length:Int)),(29,.I p)],[(1,.own rR12 d true),(7,.own rR10 i true),(8,.box [.s f.Name,.sl 3,.sl 9,.sl 7] 57),(9,.own rR11 o true),(14,.box [.s q.Name,.sl 11,.sl 15] 77),(15,.own rR9 st true)],[(0,.sl rR7 l_),(3,.sl rS f.Roles),(4,.sl rR6 f.Messages),(11,.sl rR0 q.Fields)],16⟩) (fun st=>z17_k5 o p (z17_l4 N d e (z17_l2 N l_ n72) f i n84) q st=some r) ?_ (fun j127=>?_)))
   ·intro u h
    replace h:z17_k5 o p (z17_l4 N d e (z17_l2 N l_ n72) f i n84) q u=some r:=h
    unfold z17_k5 at h
    refine wa J 4 (eBs J [15] oO11 ([(⟨q.Name,q.Fields,u⟩:T11)]:List T11) ?_)
    obtain ⟨v,x,h⟩:=ob h
    exact eAp J rR11 x (wa J 8 (eSub [(9,.sl 17)] (ih120 (v,(w64 (p+1))) h)))
   refine wa J 1 (eLoop (σ:=(List T9) × Int) (fun st=>⟨[(3,.S 1),(6,.B 8 0),(9,.B 14 0),(12,.S 0),(13,.I (l_.length:Int)),(14,.I e),(27,.S 4),(28,.I (f.Messages.length:Int)),(29,.I p),(39,.S 12),(40,.I (q.Where.length:Int)),(41,.I st.2)],[(1,.own rR12 d true),(7,.own rR10 i true),(8,.box [.s f.Name,.sl 3,.sl 9,.sl 7] 57),(9,.own rR11 o true),(14,.box [.s q.Name,.sl 11,.sl 15] 77),(15,.own rR9 st.1 true)],((0,.sl rR7 l_)::(3,.sl rS f.Roles)::(4,.sl rR6 f.Messages)::vV6 11 12 q []),16⟩) (fun n st=>z17_l6 o p (z17_l4 N d e (z17_l2 N l_ n72) f i n84) q n st.1 st.2) (r:=r) (fun _=>rfl) ?_ (fun ih=>?_))
   ·intro n86 ih129
    rintro ⟨y,z⟩ h
    replace h:z17_l6 o p (z17_l4 N d e (z17_l2 N l_ n72) f i n84) q (n86+1) y z=some r:=h
    unfold z17_l6 at h
    refine wB' J 5 h (fun h=>wa J 2 (eSub [] (j127 y h))) fun h=>?_
    refine wO J 6 h fun A C h=>eIx J oO4 C (wa J 14 (eBs J [] oO9 ([(⟨A.Left,A.Op,A.Right⟩:T9)]:List T9) ?_))
    obtain ⟨D,G,h⟩:=ob h
    exact eAp J rR9 G (wa J 8 (eSub [(15,.sl 19)] (ih129 (D,(w64 (z+1))) h)))
   exact eSub [(15,.nil)] (ih N (([]:List T9),0) h)
  exact eSub [(9,.nil)] (ih N (([]:List T11),0) h)
 exact eSub [(1,.nil)] (ih N (([]:List T12),0) h)
theorem law10_SyntaxEqual_ct (N:Nat) (a_:(List T7)) (b_:(List T7)) (s_:ByteArray) (r:Bool) (h:law10_SyntaxEqual N a_ b_ s_=some r) :
 Fn Tryz.prog 5 ⟨3,[.S 0,.S 1,.c (.s s_)],[(0,.sl rR7 a_),(1,.sl rR7 b_)],[(2,.abs powT)],3,.O r,[],[(2,.abs powT)]⟩:=by
 refine eFn func5 rfl (fun E F w=>?_)
 unfold law10_SyntaxEqual at h
 refine wO J 7 h fun x1 d h=>eCl (z9_ct N _ d) [] [(0,.sl 2)] ?_
 refine wB J 2 h (fun h=>?_) fun h=>?_
 ·refine wO J 18 h fun x2 e h=>eCl (z9_ct N _ e) [] [(0,.sl 2)] ?_
  cases h
  exact wr J 2 func5 []
 refine wO J 1 h fun x3 f h=>eCl (z15_ct N a_ _ f) [] [(0,.sl 0)] ?_
 refine wB J 3 h (fun h=>?_) fun h=>?_
 ·refine wO J 13 h fun x4 g h=>eCl (z9_ct N _ g) [] [(0,.sl 2)] ?_
  cases h
  exact wr J 2 func5 []
 refine wO J 1 h fun x5 i h=>eCl (z15_ct N b_ _ i) [] [(0,.sl 1)] ?_
 refine wB J 3 h (fun h=>?_) fun h=>?_
 ·refine wO J 8 h fun x6 j h=>eCl (z9_ct N _ j) [] [(0,.sl 2)] ?_
  cases h
  exact wr J 2 func5 []
 refine wB J 5 h (fun h=>?_) fun h=>?_
 ·refine wO J 3 h fun x7 k h=>eCl (z9_ct N _ k) [] [(0,.sl 2)] ?_
  cases h
  exact wr J 2 func5 []
 refine wO J 5 h fun x8 l h=>eCl (z17_ct N a_ _ l) [] [(0,.sl 0)] ?_
 refine wO J 1 h fun x9 m h=>eCl (z17_ct N b_ _ m) [] [(0,.sl 1)] ?_
 obtain ⟨o,p,h⟩:=ob h
 refine eCb (z20_ct N x8 x9 _ p) [] [(0,.sl 3),(1,.sl 4)] [3,4] (.inr ⟨rfl,trivial⟩) ?_
 refine wO J 2 h fun q t h=>eCl (z12_ct N a_ b_ _ t) [] [(0,.sl 0),(1,.sl 1)] ?_
 refine wB' J 2 h (fun h=>?_) fun h=>?_
 ·cases h
  exact wr J 15 func5 []
 refine wO J 1 h fun u v h=>eCl (z17_ct N a_ _ v) [] [(0,.sl 0)] ?_
 refine wO J 1 h fun x y h=>eCl (z17_ct N a_ _ y) [] [(0,.sl 0)] ?_
 obtain ⟨z,A,h⟩:=ob h
 refine eCb (z20_ct N u x _ A) [] [(0,.sl 5),(1,.sl 6)] [5,6] (.inr ⟨rfl,trivial⟩) ?_
 refine wB' J 2 h (fun h=>?_) fun h=>?_
 ·cases h
  exact wr J 8 func5 []
 refine wO J 1 h fun C D h=>eCl (z21_ct N s_ _ D) [] [] ?_
 refine wO J 1 h fun G H h=>eCl (z22_ct N s_ _ H) [] [] ?_
 cases h
 exact wr J 4 func5 []
end Gx
end
