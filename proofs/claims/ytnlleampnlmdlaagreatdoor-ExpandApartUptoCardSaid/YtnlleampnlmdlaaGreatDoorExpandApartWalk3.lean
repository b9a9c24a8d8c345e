/- Each function of the statement computes what its plain definition says, part 3. -/
import Derived.Test.YtnlleampnlmdlaaGreatDoorExpandApartWalk2
set_option linter.all false
section
set_option maxRecDepth 10000
set_option maxHeartbeats 4000000
open Go Go.Kx Go.Proofs Tryz
namespace Gx
theorem z30_54_ct (N:Nat) (s1_:(List T17)) (s2_:(List T17)) (r:Bool) (h:z30_54 N s1_ s2_=some r) :
 Fn Tryz.prog 30 ⟨2,[.S 0,.S 1,.c (.cl 31 [] [])],[(0,.sl rR17 s1_),(1,.sl rR17 s2_)],[],2,.O r,[],[]⟩:=by
 refine eFn func30 rfl (fun E F w=>?_)
 unfold z30_54 at h
 refine wB J 13 h (fun h=>?_) fun h=>wa J 9 (eCut (σ:=Unit) (fun st=>⟨[],[],[(0,.sl rR17 s1_),(1,.sl rR17 s2_)],2⟩) (fun st=>z30_54_k1=some r) ?_ (fun j1=>?_))
 ·cases h
  exact wr J 5 func30 []
 ·intro _ h
  replace h:z30_54_k1=some r:=h
  unfold z30_54_k1 at h
  cases h
  exact wr J 4 func30 []
 refine wa J 1 (eLoop (σ:=Int) (fun st=>⟨[(1,.S 1),(2,.c (.cl 31 [] [])),(15,.S 0),(16,.I (s1_.length:Int)),(17,.I st)],[],[(0,.sl rR17 s1_),(1,.sl rR17 s2_)],2⟩) (fun n st=>z30_54_l2 N s1_ s2_ n st) (r:=r) (fun _=>rfl) ?_ (fun ih=>?_))
 ·intro n2 ih3
  intro d h
  replace h:z30_54_l2 N s1_ s2_ (n2+1) d=some r:=h
  unfold z30_54_l2 at h
  refine wB' J 5 h (fun h=>wa J 2 (eSub [] (j1 () h))) fun h=>?_
  refine wO J 7 h fun e f h=>eIx J oO17 f ?_
  refine wO J 9 h fun g i h=>eIx J oO17 i ?_
  refine wO J 9 h fun j k h=>eCl (z31_ct N e g _ k) [] [(0,.sl 3),(1,.sl 4),(2,.sl 5),(3,.sl 8),(4,.sl 9),(5,.sl 10)] ?_
  refine wB J 2 h (fun h=>?_) fun h=>wa J 7 (eSub [] (ih3 (w64 (d+1)) h))
  cases h
  exact wr J 5 func30 []
 exact eSub [] (ih N 0 h)
theorem z14_ct (N:Nat) (a_:(List T17)) (b_:(List T17)) (r:Bool) (h:z14 N a_ b_=some r) :
 Fn Tryz.prog 14 ⟨2,[.S 0,.S 1],[(0,.sl rR17 a_),(1,.sl rR17 b_)],[],2,.O r,[],[]⟩:=by
 refine eFn func14 rfl (fun E F w=>?_)
 unfold z14 at h
 refine wO J 8 h fun x1 c h=>eCl (z30_54_ct N a_ b_ _ c) [] [(0,.sl 0),(1,.sl 1)] ?_
 cases h
 exact wr J 2 func14 []
theorem law12_ExpandApart_ct (N:Nat) (l_:(List T12)) (more_:T12) (at_:Int) (r:Bool) (h:law12_ExpandApart N l_ more_ at_=some r) :
 Fn Tryz.prog 6 ⟨5,[.S 0,.a [.s more_.Name,.sl 1,.sl 2,.sl 3],.c (.i .u8 at_)],((0,.sl rR12 l_)::vV12 1 2 3 more_ []),[(4,.abs powT)],5,.O r,[],[(4,.abs powT)]⟩:=by
 refine eFn func6 rfl (fun E F w=>?_)
 unfold law12_ExpandApart at h
 refine wO J 8 h fun x1 d h=>eCl (z7_ct N _ d) [] [(0,.sl 4)] ?_
 refine wB J 2 h (fun h=>?_) fun h=>?_
 ·refine wO J 19 h fun x2 e h=>eCl (z7_ct N _ e) [] [(0,.sl 4)] ?_
  cases h
  exact wr J 2 func6 []
 refine wO J 1 h fun x3 f h=>eCl (z9_ct N l_ _ f) [] [(0,.sl 0)] ?_
 refine wB J 3 h (fun h=>?_) fun h=>?_
 ·refine wO J 14 h fun x4 g h=>eCl (z7_ct N _ g) [] [(0,.sl 4)] ?_
  cases h
  exact wr J 2 func6 []
 refine wB J 5 h (fun h=>?_) fun h=>wa J 1 (eBs J [] oO12 ([more_]:List T12) ?_)
 ·refine wO J 9 h fun x5 j h=>eCl (z7_ct N _ j) [] [(0,.sl 4)] ?_
  cases h
  exact wr J 2 func6 []
 obtain ⟨x6,k,h⟩:=ob h
 refine eCb (z9_ct N ([more_]:List T12) _ k) [] [(0,.sl 6)] [6] (.inr ⟨rfl,trivial⟩) ?_
 refine wB J 3 h (fun h=>?_) fun h=>?_
 ·refine wO J 3 h fun x7 l h=>eCl (z7_ct N _ l) [] [(0,.sl 4)] ?_
  cases h
  exact wr J 2 func6 []
 refine wO J 14 h fun x8 m h=>eBi m ?_
 obtain ⟨x9,o,h⟩:=ob h
 refine eIx J oO12 o (wa J 6 (eBs J [] oO12 ([]:List T12) ?_))
 refine wO J 1 h fun p q h=>eAp J rR12 q (wa J 1 (eBs J [] oO12 ([(⟨(str [90,90]),more_.Roles,more_.Messages,more_.Body⟩:T12)]:List T12) ?_))
 obtain ⟨t,u,h⟩:=ob h
 refine eAp J rR12 u ?_
 obtain ⟨v,x,h⟩:=ob h
 refine eCl (z10_ct N t _ x) [14] [(0,.sl 14)] (wa J 1 (eEnd ?_))
 refine wO J 5 h fun y z h=>eFr [15] (eIs J rR17 z ?_)
 refine wO J 6 h fun A C h=>eCl (z13_ct N v _ C) [] [(0,.sl 15),(1,.sl 4)] ?_
 refine wB J 3 h (fun h=>?_) fun h=>?_
 ·cases h
  exact wr J 11 func6 []
 refine wO J 1 h fun D G h=>eCl (z13_ct N y _ G) [] [(0,.sl 16),(1,.sl 4)] ?_
 refine wB J 4 h (fun h=>?_) fun h=>?_
 ·cases h
  exact wr J 5 func6 []
 refine wO J 6 h fun H R h=>eCl (z8_ct N y x9.Name _ R) [] [(0,.sl 16),(1,.sl 4)] ?_
 refine wO J 11 h fun T U h=>eCl (z8_ct N v x9.Name _ U) [] [(0,.sl 15),(1,.sl 4)] ?_
 refine wB' J 13 h (fun h=>?_) fun h=>wa J 1 (eBs J [] oO17 ([H.1]:List T17) (wa J 1 (eBs J [] oO17 ([T.1]:List T17) ?_)))
 ·cases h
  exact wr J 8 func6 []
 obtain ⟨X,Y,h⟩:=ob h
 refine eCb (z14_ct N ([H.1]:List T17) ([T.1]:List T17) _ Y) [] [(0,.sl 25),(1,.sl 26)] [25,26] (.inr ⟨rfl,trivial⟩) ?_
 cases h
 exact wr J 3 func6 []
end Gx
end
