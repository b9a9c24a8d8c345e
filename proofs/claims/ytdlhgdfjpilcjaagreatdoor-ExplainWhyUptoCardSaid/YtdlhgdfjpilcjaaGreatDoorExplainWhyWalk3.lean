/- Each function of the statement computes what its plain definition says, part 3. -/
import Derived.Test.YtdlhgdfjpilcjaaGreatDoorExplainWhyWalk2
set_option linter.all false
section
set_option maxRecDepth 10000
set_option maxHeartbeats 4000000
open Go Go.Kx Go.Proofs Tryz
namespace Gx
theorem Zq0 (N:Nat) (g_:T5) (m_:T8) (history_:(List T3)) (x_:T3) (r:ByteArray × Int) (h:Tj N g_ m_ history_ x_=some r) :
 Fn Tryz.prog 16 ⟨9,[.a (ZT 0 1 2 3 g_),.a (ZX 4 5 6 m_),.S 7,.a (X5 8 x_)],((0,.sl rS g_.Roles)::(1,.sl ZL g_.Decls)::(2,.sl Yf g_.Edges)::(3,.sl Z2 g_.Timeouts)::ZZ 4 5 6 m_ [(7,.sl Yv history_),(8,.sl ZD x_.Values)]),[],9,.t [.inl (.s r.1),.inl (.I r.2)],[],[]⟩:=by
 refine Zs func16 rfl (fun E F w=>?_)
 unfold Tj at h
 refine wO J 13 h fun x1 d h=>Zn (Zhg N g_ m_ history_ _ d) [] [(0,.sl 0),(1,.sl 1),(2,.sl 2),(3,.sl 3),(4,.sl 4),(5,.sl 5),(6,.sl 6),(7,.sl 7)] ?_
 refine wB J 17 h (fun h=>?_) fun h=>?_
 ·cases h
  exact wr J 6 func16 []
 refine wB J 7 h (fun h=>?_) fun h=>wa J 5 (Z8 J [] W1 ([]:List T3) ?_)
 ·cases h
  exact wr J 6 func16 []
 refine wO J 1 h fun x2 e h=>Yr J Yv e (wa J 1 (Z8 J [] W1 ([x_]:List T3) ?_))
 obtain ⟨x3,f,h⟩:=ob h
 refine Yr J Yv f (wa J 1 (ZA ?_))
 refine wO J 5 h fun x4 g h=>Xe (Zst N g_ m_ x3 _ g) [] [(0,.sl 0),(1,.sl 1),(2,.sl 2),(3,.sl 3),(4,.sl 4),(5,.sl 5),(6,.sl 6),(7,.sl 18)] [18] (.inr ⟨rfl,trivial⟩) ?_
 refine wB J 12 h (fun h=>?_) fun h=>?_
 ·cases h
  exact wr J 6 func16 []
 refine wO J 8 h fun x5 i h=>Zn (ZpG N g_ m_ x1.1.At _ i) [] [(0,.sl 0),(1,.sl 1),(2,.sl 2),(3,.sl 3),(4,.sl 4),(5,.sl 5),(6,.sl 6)] (wa J 13 (ZB (σ:=(List ByteArray)) (fun st=>(ZgR st g_.Roles g_.Decls g_.Edges g_.Timeouts m_ history_ x_.Values [(14,.c (.s x4.1)),(16,.S 20)])) (fun st=>QR N x4 st=some r) ?_ (fun j1=>?_)))
 ·intro j h
  replace h:QR N x4 j=some r:=h
  unfold QR at h
  refine wO J 3 h fun x6 k h=>ZC k (wa J 7 (ZB (σ:=ByteArray) (fun st=>⟨[(14,.c (.s st))],[],((0,.sl rS g_.Roles)::(1,.sl ZL g_.Decls)::(2,.sl Yf g_.Edges)::(3,.sl Z2 g_.Timeouts)::ZZ 4 5 6 m_ [(7,.sl Yv history_),(8,.sl ZD x_.Values)]),21⟩) (fun st=>GC st=some r) ?_ (fun j2=>?_)))
  ·intro l h
   replace h:GC l=some r:=h
   unfold GC at h
   cases h
   exact wr J 6 func16 []
  refine wa J 1 (ZF (σ:=ByteArray × Int) (fun st=>(ZgR j g_.Roles g_.Decls g_.Edges g_.Timeouts m_ history_ x_.Values [(14,.c (.s st.1)),(16,.S 20),(18,.I st.2)])) (fun n st=>Uw j n st.1 st.2) (r:=r) (fun _=>rfl) ?_ (fun ih=>?_))
  ·intro n2 ih4
   rintro ⟨m,o⟩ h
   replace h:Uw j (n2+1) m o=some r:=h
   unfold Uw at h
   refine Zo J 8 h (fun h=>wa J 2 (Zj [] (j2 m h))) fun h=>?_
   refine Zo J 10 h (fun h=>?_) fun h=>?_
   ·refine wO J 6 h fun p q h=>Z9 J rS q (YJ J oS q ?_)
    obtain ⟨u,v,h⟩:=ob h
    exact ZC v (wa J 8 (Zj [] (ih4 (u,(Zi (o+1))) h)))
   refine wO J 3 h fun x y h=>ZC y ?_
   refine wO J 6 h fun z A h=>Z9 J rS A (YJ J oS A ?_)
   obtain ⟨C,D,h⟩:=ob h
   exact ZC D (wa J 8 (Zj [] (ih4 (C,(Zi (o+1))) h)))
  exact Zj [] (ih N (x6,0) h)
 exact eB h (fun h=>wa J 2 (Z8 J [] oS ([(str [110,111,116,104,105,110,103])]:List ByteArray) (wa J 2 (Zj [] (j1 ([(str [110,111,116,104,105,110,103])]:List ByteArray) h))))) fun h=>wa J 2 (Zj [(20,.sl 19)] (j1 x5.1 h))
theorem ZlI (N:Nat) (g_:T5) (m_:T8) (l_:(List T3)) (r:Bool) (h:TJ N g_ m_ l_=some r) :
 Fn Tryz.prog 4 ⟨9,[.a (ZT 0 1 2 3 g_),.a (ZX 4 5 6 m_),.S 7],((0,.sl rS g_.Roles)::(1,.sl ZL g_.Decls)::(2,.sl Yf g_.Edges)::(3,.sl Z2 g_.Timeouts)::ZZ 4 5 6 m_ [(7,.sl Yv l_)]),[(8,.abs powT)],9,.O r,[],[(8,.abs powT)]⟩:=by
 refine Zs func4 rfl (fun E F w=>?_)
 unfold TJ at h
 refine wO J 9 h fun x1 c h=>Zn (Zma N _ c) [] [(0,.sl 8)] ?_
 refine wB J 2 h (fun h=>?_) fun h=>?_
 ·cases h
  exact wr J 5 func4 []
 refine wO J 8 h fun x2 d h=>Zn (Zos N g_ m_ l_ _ d) [] [(0,.sl 0),(1,.sl 1),(2,.sl 2),(3,.sl 3),(4,.sl 4),(5,.sl 5),(6,.sl 6),(7,.sl 7)] ?_
 refine wB J 2 h (fun h=>?_) fun h=>?_
 ·cases h
  exact wr J 10 func4 []
 refine wB J 5 h (fun h=>?_) fun h=>?_
 ·cases h
  exact wr J 5 func4 []
 refine wO J 15 h fun x3 e h=>Gz J Yv e ?_
 refine wO J 2 h fun x4 f h=>Zq J W1 f ?_
 refine wO J 1 h fun x5 g h=>Zn (ZiZ N g_ m_ x3 x4 _ g) [] [(0,.sl 0),(1,.sl 1),(2,.sl 2),(3,.sl 3),(4,.sl 4),(5,.sl 5),(6,.sl 6),(7,.sl 11),(8,.sl 13),(9,.sl 8)] (wa J 5 (ZA ?_))
 refine wO J 6 h fun x6 i h=>Gz J Yv i ?_
 refine wO J 2 h fun x7 j h=>Zq J W1 j ?_
 refine wO J 1 h fun x8 k h=>Zn (Zq0 N g_ m_ x6 x7 _ k) [] [(0,.sl 0),(1,.sl 1),(2,.sl 2),(3,.sl 3),(4,.sl 4),(5,.sl 5),(6,.sl 6),(7,.sl 14),(8,.sl 16)] (wa J 5 (ZA ?_))
 refine wO J 5 h fun x9 l h=>Zn (Zc8 N g_ m_ l_ _ l) [] [(0,.sl 0),(1,.sl 1),(2,.sl 2),(3,.sl 3),(4,.sl 4),(5,.sl 5),(6,.sl 6),(7,.sl 7)] ?_
 refine Zo J 15 h (fun h=>?_) fun h=>?_
 ·cases h
  exact wr J 17 func4 []
 refine Zo J 5 h (fun h=>?_) fun h=>?_
 ·cases h
  exact wr J 12 func4 []
 refine wB J 3 h (fun h=>?_) fun h=>?_
 ·cases h
  exact wr J 9 func4 []
 cases h
 exact wr J 9 func4 []
end Gx
end
