/- Each function of the statement computes what its plain definition says, part 1. -/
import Derived.Test.YtdlhgdfjpilcjaaGreatDoorExplainPermitsBase
import Derived.Test.YtdlhgdfjpilcjaaGreatDoorExplainPermitsLib
set_option linter.all false
section
set_option maxRecDepth 10000
set_option maxHeartbeats 4000000
open Go Go.Kx Go.Proofs Tryz
namespace Gx
theorem z262_ct (N:Nat) (c_:Int) (r:Bool) (h:z262 N c_=some r) :
 Fn Tryz.prog 262 ⟨0,[.c (.i .u8 c_)],[],[],0,.O r,[],[]⟩:=by
 refine eFn func262 rfl (fun E F w=>?_)
 unfold z262 at h
 refine wB' J 9 h (fun h=>?_) fun h=>?_
 ·refine wB J 7 h (fun h=>?_) fun h=>?_
  ·cases h
   exact wr J 6 func262 []
  cases h
  exact wr J 6 func262 []
 refine wB J 4 h (fun h=>?_) fun h=>?_
 ·cases h
  exact wr J 9 func262 []
 refine wB J 3 h (fun h=>?_) fun h=>?_
 ·cases h
  exact wr J 6 func262 []
 cases h
 exact wr J 6 func262 []
theorem z284_ct (N:Nat) (c_:Int) (r:Bool) (h:z284 N c_=some r) :
 Fn Tryz.prog 284 ⟨0,[.c (.i .u8 c_)],[],[],0,.O r,[],[]⟩:=by
 refine eFn func284 rfl (fun E F w=>?_)
 unfold z284 at h
 refine wB J 9 h (fun h=>?_) fun h=>?_
 ·cases h
  exact wr J 5 func284 []
 cases h
 exact wr J 5 func284 []
theorem z263_ct (N:Nat) (c_:Int) (r:Bool) (h:z263 N c_=some r) :
 Fn Tryz.prog 263 ⟨0,[.c (.i .u8 c_)],[],[],0,.O r,[],[]⟩:=by
 refine eFn func263 rfl (fun E F w=>?_)
 unfold z263 at h
 refine wO J 7 h fun x1 d h=>eCl (z262_ct N c_ _ d) [] [] ?_
 refine wB J 1 h (fun h=>?_) fun h=>?_
 ·cases h
  exact wr J 9 func263 []
 refine wO J 1 h fun x2 e h=>eCl (z284_ct N c_ _ e) [] [] ?_
 refine wB J 2 h (fun h=>?_) fun h=>?_
 ·cases h
  exact wr J 5 func263 []
 cases h
 exact wr J 5 func263 []
theorem z220_ct (N:Nat) (s_:ByteArray) (r:Bool) (h:z220 N s_=some r) :
 Fn Tryz.prog 220 ⟨0,[.c (.s s_)],[],[],0,.O r,[],[]⟩:=by
 refine eFn func220 rfl (fun E F w=>?_)
 unfold z220 at h
 refine wB J 10 h (fun h=>?_) fun h=>?_
 ·cases h
  exact wr J 16 func220 []
 refine wB J 5 h (fun h=>?_) fun h=>?_
 ·cases h
  exact wr J 11 func220 []
 refine wO J 1 h fun x1 d h=>eSx J d ?_
 obtain ⟨x2,e,h⟩:=ob h
 refine eCl (z262_ct N x1 _ e) [] [] ?_
 refine wB J 3 h (fun h=>?_) fun h=>wa J 9 (eCut (σ:=Unit) (fun st=>⟨[],[],[],0⟩) (fun st=>z220_k1=some r) ?_ (fun j1=>?_))
 ·cases h
  exact wr J 5 func220 []
 ·intro _ h
  replace h:z220_k1=some r:=h
  unfold z220_k1 at h
  cases h
  exact wr J 4 func220 []
 refine wa J 1 (eLoop (σ:=Int) (fun st=>⟨[(0,.c (.s s_)),(18,.I (s_.size:Int)),(19,.I st)],[],[],0⟩) (fun n st=>z220_l2 N s_ n st) (r:=r) (fun _=>rfl) ?_ (fun ih=>?_))
 ·intro n2 ih3
  intro f h
  replace h:z220_l2 N s_ (n2+1) f=some r:=h
  unfold z220_l2 at h
  refine wB' J 5 h (fun h=>wa J 2 (eSub [] (j1 () h))) fun h=>?_
  refine wO J 13 h fun g i h=>eSx J i ?_
  obtain ⟨j,k,h⟩:=ob h
  refine eCl (z263_ct N g _ k) [] [] ?_
  refine wB J 2 h (fun h=>?_) fun h=>wa J 7 (eSub [] (ih3 (w64 (f+1)) h))
  cases h
  exact wr J 5 func220 []
 exact eSub [] (ih N 0 h)
theorem z264_ct (N:Nat) (s_:(List ByteArray)) (v_:ByteArray) (r:Int) (h:z264 N s_ v_=some r) :
 Fn Tryz.prog 264 ⟨1,[.S 0,.c (.s v_)],[(0,.sl rS s_)],[],1,.I r,[],[]⟩:=by
 refine eFn func264 rfl (fun E F w=>?_)
 unfold z264 at h
 refine wa J 11 (eCut (σ:=Unit) (fun st=>⟨[],[],[(0,.sl rS s_)],1⟩) (fun st=>z264_k1=some r) ?_ (fun j1=>?_))
 ·intro _ h
  replace h:z264_k1=some r:=h
  unfold z264_k1 at h
  cases h
  exact wr J 4 func264 []
 refine wa J 1 (eLoop (σ:=Int) (fun st=>⟨[(0,.S 0),(1,.c (.s v_)),(7,.I (s_.length:Int)),(8,.I st)],[],[(0,.sl rS s_)],1⟩) (fun n st=>z264_l2 s_ v_ n st) (r:=r) (fun _=>rfl) ?_ (fun ih=>?_))
 ·intro n2 ih3
  intro d h
  replace h:z264_l2 s_ v_ (n2+1) d=some r:=h
  unfold z264_l2 at h
  refine wB' J 5 h (fun h=>wa J 2 (eSub [] (j1 () h))) fun h=>?_
  refine wO J 14 h fun x9 e h=>eIx J oS e ?_
  refine wB J 3 h (fun h=>?_) fun h=>wa J 7 (eSub [] (ih3 (w64 (d+1)) h))
  cases h
  exact wr J 6 func264 []
 exact eSub [] (ih N 0 h)
theorem z221_ct (N:Nat) (s_:(List ByteArray)) (v_:ByteArray) (r:Bool) (h:z221 N s_ v_=some r) :
 Fn Tryz.prog 221 ⟨1,[.S 0,.c (.s v_)],[(0,.sl rS s_)],[],1,.O r,[],[]⟩:=by
 refine eFn func221 rfl (fun E F w=>?_)
 unfold z221 at h
 refine wO J 8 h fun x1 d h=>eCl (z264_ct N s_ v_ _ d) [] [(0,.sl 0)] ?_
 cases h
 exact wr J 3 func221 []
theorem z146_ct (N:Nat) (s_:ByteArray) (r:Bool) (h:z146 N s_=some r) :
 Fn Tryz.prog 146 ⟨0,[.c (.s s_)],[],[],0,.O r,[],[]⟩:=by
 refine eFn func146 rfl (fun E F w=>?_)
 unfold z146 at h
 refine wO J 13 h fun x1 d h=>eCl (z220_ct N s_ _ d) [] [] ?_
 refine wB' J 1 h (fun h=>?_) fun h=>eSb [] oS ([(str [97,103,97,105,110]),(str [97,110,100]),(str [97,115]),(str [97,116]),(str [99,97,108,108]),(str [99,104,111,105,99,101]),(str [101,108,115,101]),(str [102,114,111,109]),(str [105,102]),(str [105,110,116]),(str [108,101,110]),(str [108,111,111,112]),(str [109,101,115,115,97,103,101]),(str [111,102]),(str [111,102,102,101,114]),(str [111,110]),(str [111,114]),(str [112,97,114]),(str [112,108,97,121,115]),(str [112,114,111,116,111,99,111,108]),(str [115,101,114,118,105,99,101]),(str [116,101,120,116]),(str [116,105,109,101,115]),(str [116,111]),(str [118,97,114]),(str [119,104,101,114,101]),(str [119,104,105,108,101]),(str [119,105,116,104,105,110])]:List ByteArray) ?_
 ·cases h
  exact wr J 7 func146 []
 refine wO J 1 h fun x2 e h=>eCb (z221_ct N ([(str [97,103,97,105,110]),(str [97,110,100]),(str [97,115]),(str [97,116]),(str [99,97,108,108]),(str [99,104,111,105,99,101]),(str [101,108,115,101]),(str [102,114,111,109]),(str [105,102]),(str [105,110,116]),(str [108,101,110]),(str [108,111,111,112]),(str [109,101,115,115,97,103,101]),(str [111,102]),(str [111,102,102,101,114]),(str [111,110]),(str [111,114]),(str [112,97,114]),(str [112,108,97,121,115]),(str [112,114,111,116,111,99,111,108]),(str [115,101,114,118,105,99,101]),(str [116,101,120,116]),(str [116,105,109,101,115]),(str [116,111]),(str [118,97,114]),(str [119,104,101,114,101]),(str [119,104,105,108,101]),(str [119,105,116,104,105,110])]:List ByteArray) s_ _ e) [] [(0,.sl 1)] [1] (.inr ⟨rfl,trivial⟩) ?_
 cases h
 exact wr J 4 func146 []
theorem z208_ct (N:Nat) (g_:T5) (r:Bool) (h:z208 N g_=some r) :
 Fn Tryz.prog 208 ⟨4,[.a (cC5 0 1 2 3 g_)],(vV5 0 1 2 3 g_ []),[],4,.O r,[],[]⟩:=by
 refine eFn func208 rfl (fun E F w=>?_)
 unfold z208 at h
 refine wO J 10 h fun x1 c h=>eCl (z146_ct N g_.Name _ c) [] [] ?_
 refine wB J 2 h (fun h=>?_) fun h=>?_
 ·cases h
  exact wr J 17 func208 []
 refine wB J 6 h (fun h=>?_) fun h=>?_
 ·cases h
  exact wr J 11 func208 []
 refine wB J 6 h (fun h=>?_) fun h=>wa J 10 (eCut (σ:=Unit) (fun st=>⟨[],[],(vV5 0 1 2 3 g_ []),5⟩) (fun st=>z208_k1=some r) ?_ (fun j1=>?_))
 ·cases h
  exact wr J 5 func208 []
 ·intro _ h
  replace h:z208_k1=some r:=h
  unfold z208_k1 at h
  cases h
  exact wr J 4 func208 []
 refine wa J 1 (eLoop (σ:=Int) (fun st=>(zz8 g_ [(1,.B 4 0),(22,.S 0),(23,.I (g_.Roles.length:Int)),(24,.I st)])) (fun n st=>z208_l2 N g_ n st) (r:=r) (fun _=>rfl) ?_ (fun ih=>?_))
 ·intro n2 ih3
  intro d h
  replace h:z208_l2 N g_ (n2+1) d=some r:=h
  unfold z208_l2 at h
  refine wB' J 5 h (fun h=>wa J 2 (eSub [] (j1 () h))) fun h=>?_
  refine wO J 7 h fun e f h=>eIx J oS f ?_
  refine wO J 7 h fun g i h=>eCl (z146_ct N e _ i) [] [] ?_
  refine wB J 2 h (fun h=>?_) fun h=>?_
  ·cases h
   exact wr J 13 func208 []
  refine wO J 3 h fun j k h=>eIs J rS k ?_
  refine wO J 1 h fun l m h=>eCl (z221_ct N j e _ m) [] [(0,.sl 6)] ?_
  refine wB J 2 h (fun h=>?_) fun h=>wa J 7 (eSub [] (ih3 (w64 (d+1)) h))
  cases h
  exact wr J 5 func208 []
 exact eSub [] (ih N 0 h)
theorem z209_ct (N:Nat) (g_:T5) (r:Bool) (h:z209 N g_=some r) :
 Fn Tryz.prog 209 ⟨4,[.a (cC5 0 1 2 3 g_)],(vV5 0 1 2 3 g_ []),[],4,.O r,[],[]⟩:=by
 refine eFn func209 rfl (fun E F w=>?_)
 unfold z209 at h
 refine wB J 12 h (fun h=>?_) fun h=>?_
 ·cases h
  exact wr J 34 func209 []
 refine wB J 5 h (fun h=>?_) fun h=>?_
 ·cases h
  exact wr J 29 func209 []
 refine wB J 8 h (fun h=>?_) fun h=>?_
 ·cases h
  exact wr J 21 func209 []
 refine wB J 10 h (fun h=>?_) fun h=>?_
 ·cases h
  exact wr J 11 func209 []
 refine wB J 6 h (fun h=>?_) fun h=>wa J 10 (eCut (σ:=Unit) (fun st=>⟨[],[],(vV5 0 1 2 3 g_ []),5⟩) (fun st=>z209_k1=some r) ?_ (fun j1=>?_))
 ·cases h
  exact wr J 5 func209 []
 ·intro _ h
  replace h:z209_k1=some r:=h
  unfold z209_k1 at h
  cases h
  exact wr J 4 func209 []
 refine wa J 1 (eLoop (σ:=Int) (fun st=>(zz8 g_ [(1,.B 4 0),(39,.S 2),(40,.I (g_.Edges.length:Int)),(41,.I st)])) (fun n st=>z209_l2 g_ n st) (r:=r) (fun _=>rfl) ?_ (fun ih=>?_))
 ·intro n2 ih3
  intro c h
  replace h:z209_l2 g_ (n2+1) c=some r:=h
  unfold z209_l2 at h
  refine wB' J 5 h (fun h=>wa J 2 (eSub [] (j1 () h))) fun h=>?_
  refine wO J 6 h fun x9 d h=>eIx J oO2 d ?_
  refine wB J 26 h (fun h=>?_) fun h=>?_
  ·cases h
   exact wr J 41 func209 []
  refine wB J 10 h (fun h=>?_) fun h=>?_
  ·cases h
   exact wr J 31 func209 []
  refine wB J 11 h (fun h=>?_) fun h=>?_
  ·cases h
   exact wr J 20 func209 []
  refine wB J 7 h (fun h=>?_) fun h=>?_
  ·cases h
   exact wr J 13 func209 []
  refine wB J 8 h (fun h=>?_) fun h=>wa J 7 (eSub [] (ih3 (w64 (c+1)) h))
  cases h
  exact wr J 5 func209 []
 exact eSub [] (ih N 0 h)
theorem z142_ct (N:Nat) (l_:(List T0)) (r:(List T4)) (h:z142 N l_=some r) :
 Fn Tryz.prog 142 ⟨1,[.S 0],[(0,.sl rR0 l_)],[],2,.S 1,[],[(1,.own rR4 r true)]⟩:=by
 refine eFn func142 rfl (fun E F w=>?_)
 unfold z142 at h
 refine wa J 15 (eCut (σ:=(List T4)) (fun st=>(zz12 st l_ [(3,.S 1)])) (fun st=>z142_k1 st=some r) ?_ (fun j1=>?_))
 ·intro c h
  replace h:z142_k1 c=some r:=h
  unfold z142_k1 at h
  cases h
  exact wr J 5 func142 [(1,.sl 1)]
 refine wa J 1 (eLoop (σ:=(List T4) × Int) (fun st=>(zz12 st.1 l_ [(3,.S 1),(6,.S 0),(7,.I (l_.length:Int)),(8,.I st.2)])) (fun n st=>z142_l2 l_ n st.1 st.2) (r:=r) (fun _=>rfl) ?_ (fun ih=>?_))
 ·intro n2 ih3
  rintro ⟨d,e⟩ h
  replace h:z142_l2 l_ (n2+1) d e=some r:=h
  unfold z142_l2 at h
  refine wB' J 5 h (fun h=>wa J 2 (eSub [] (j1 d h))) fun h=>?_
  refine wO J 6 h fun f g h=>eIx J oO0 g ?_
  exact wO J 8 h fun i j h=>eAp J rR4 j (wa J 7 (eSub [(1,.sl 7)] (ih3 (i,(w64 (e+1))) h)))
 exact eSub [(1,.nil)] (ih N (([]:List T4),0) h)
theorem z297_ct (N:Nat) (s_:ByteArray) (r:Int) (h:z297 N s_=some r) :
 Fn Tryz.prog 297 ⟨0,[.c (.s s_)],[],[],0,.I r,[],[]⟩:=by
 refine eFn func297 rfl (fun E F w=>?_)
 unfold z297 at h
 refine wa J 8 (eRn J (fun bk1=>wa J 1 (eCut (σ:=Int × Nat) (fun st=>(zz1 (itR bk1 s_ st.2) [(2,.I st.1)])) (fun st=>z297_k1 st.1 st.2=some r) ?_ (fun j1=>?_))))
 ·rintro ⟨d,vi0_1⟩ h
  replace h:z297_k1 d vi0_1=some r:=h
  unfold z297_k1 at h
  cases h
  exact wr J 5 func297 []
 refine wa J 1 (eLoop (σ:=Int × Nat) (fun st=>(zz1 (itR bk1 s_ st.2) [(2,.I st.1),(4,.c (.v (.pointer (some ⟨bk1,0,none⟩))))])) (fun n st=>z297_l2 s_ n st.1 st.2) (r:=r) (fun _=>rfl) ?_ (fun ih=>?_))
 ·intro n2 ih3
  rintro ⟨e,vi0_3⟩ h
  replace h:z297_l2 s_ (n2+1) e vi0_3=some r:=h
  unfold z297_l2 at h
  obtain ⟨K,h⟩|⟨K,h⟩:=oc h
  ·exact wa J 2 (eNt bk1 0 K (wa J 12 (eSub [] (ih3 ((w64 (e+1)),(vi0_3+(Utf8.decode s_ vi0_3).2)) h))))
  exact wa J 2 (eNf bk1 0 K (wa J 5 (eSub [] (j1 (e,vi0_3) h))))
 exact eSub [] (ih N (0,(0:Nat)) h)
theorem z306_ct (N:Nat) (s_:ByteArray) (r:Int × Int) (h:z306 N s_=some r) :
 Fn Tryz.prog 306 ⟨0,[.c (.s s_)],[],[],0,.t [.inl (.i .i32 r.1),.inl (.I r.2)],[],[]⟩:=by
 refine eFn func306 rfl (fun E F w=>?_)
 unfold z306 at h
 refine wB J 17 h (fun h=>?_) fun h=>?_
 ·cases h
  exact wr J 6 func306 []
 refine wO J 5 h fun x1 d h=>eSx J d ?_
 cases h
theorem z298_ct (N:Nat) (s_:ByteArray) (r:Int × Int) (h:z298 N s_=some r) :
 Fn Tryz.prog 298 ⟨0,[.c (.s s_)],[],[],0,.t [.inl (.i .i32 r.1),.inl (.I r.2)],[],[]⟩:=by
 refine eFn func298 rfl (fun E F w=>?_)
 unfold z298 at h
 refine wB' J 11 h (fun h=>?_) fun h=>?_
 ·refine wO J 8 h fun x4 d h=>eCl (z306_ct N s_ _ d) [] [] ?_
  cases h
  exact wr J 6 func298 []
 refine wO J 1 h fun x1 e h=>eSx J e ?_
 refine wB J 3 h (fun h=>?_) fun h=>?_
 ·refine wO J 4 h fun x2 f h=>eSx J f ?_
  cases h
  exact wr J 4 func298 []
 refine wO J 3 h fun x3 g h=>eCl (z306_ct N s_ _ g) [] [] ?_
 cases h
 exact wr J 6 func298 []
theorem z281_ct (N:Nat) (s_:ByteArray) (n_:Int) (r:(List ByteArray)) (h:z281 N s_ n_=some r) :
 Fn Tryz.prog 281 ⟨0,[.c (.s s_),.I n_],[],[],1,.S 0,[],[(0,.own rS r true)]⟩:=by
 refine eFn func281 rfl (fun E F w=>?_)
 unfold z281 at h
 refine wO J 7 h fun x1 d h=>eCl (z297_ct N s_ _ d) [] [] ?_
 refine wa J 8 (eCut (σ:=Bool) (fun st=>⟨[(0,.c (.s s_)),(1,.I n_),(5,.I x1),(18,.O st)],[],[],0⟩) (fun st=>z281_k4 N s_ n_ x1 st=some r) ?_ (fun j1=>?_))
 ·intro e h
  replace h:z281_k4 N s_ n_ x1 e=some r:=h
  unfold z281_k4 at h
  refine eCut (σ:=Int) (fun st=>⟨[(0,.c (.s s_)),(1,.I st)],[],[],0⟩) (fun st=>z281_k3 N s_ st=some r) ?_ (fun j2=>?_)
  ·intro f h
   replace h:z281_k3 N s_ f=some r:=h
   unfold z281_k3 at h
   refine wO J 3 h fun x2 g h=>eMk J oS g (wa J 7 (eCut (σ:=ByteArray × (List ByteArray)) (fun st=>(zz9 st.2 [(0,.c (.s st.1)),(1,.I f),(6,.S 0)])) (fun st=>z281_k1 f st.1 st.2=some r) ?_ (fun j3=>?_)))
   ·rintro ⟨i,j⟩ h
    replace h:z281_k1 f i j=some r:=h
    unfold z281_k1 at h
    refine wB' J 6 h (fun h=>?_) fun h=>?_
    ·cases h
     exact wr J 7 func281 [(0,.sl 0)]
    refine wO J 6 h fun k l h=>eIo J rS l (eSt J [] oS i l ?_)
    cases h
    exact wr J 6 func281 [(0,.sl 0)]
   refine wa J 1 (eLoop (σ:=ByteArray × (List ByteArray) × Int) (fun st=>(zz9 st.2.1 [(0,.c (.s st.1)),(1,.I f),(6,.S 0),(7,.I st.2.2)])) (fun n st=>z281_l2 N f n st.1 st.2.1 st.2.2) (r:=r) (fun _=>rfl) ?_ (fun ih=>?_))
   ·intro n2 ih5
    rintro ⟨m,o,p⟩ h
    replace h:z281_l2 N f (n2+1) m o p=some r:=h
    unfold z281_l2 at h
    refine wB' J 8 h (fun h=>wa J 2 (eSub [] (j3 (m,o) h))) fun h=>?_
    refine wO J 7 h fun q t h=>eCl (z298_ct N m _ t) [] [] ?_
    refine wO J 12 h fun u v h=>eSs J v ?_
    obtain ⟨x,y,h⟩:=ob h
    refine eIo J rS y (eSt J [] oS u y ?_)
    exact wO J 4 h fun z A h=>eSs J A (wa J 8 (eSub [] (ih5 (z,(setL' o p u),(w64 (p+1))) h)))
   exact eSub [] (ih N (s_,x2,0) h)
  exact eB h (fun h=>wa J 5 (eSub [] (j2 x1 h))) fun h=>wa J 2 (eSub [] (j2 n_ h))
 exact eB h (fun h=>wa J 5 (eSub [] (j1 true h))) fun h=>wa J 5 (eSub [] (j1 (decide (n_ > x1)) h))
theorem z307_ct (N:Nat) (s_:ByteArray) (c_:Int) (r:Int) (h:z307 N s_ c_=some r) :
 Fn Tryz.prog 307 ⟨0,[.c (.s s_),.c (.i .u8 c_)],[],[],0,.I r,[],[]⟩:=by
 refine eFn func307 rfl (fun E F w=>?_)
 unfold z307 at h
 refine wa J 8 (eEx (ext_indexByte func312 (by kernel_rfl) (by kernel_rfl) (by kernel_rfl) (by kernel_rfl) s_ c_) (fun _=>trivial) ?_)
 cases h
 exact wr J 2 func307 []
theorem z300_ct (N:Nat) (s_:ByteArray) (substr_:ByteArray) (r:Int) (h:z300 N s_ substr_=some r) :
 Fn Tryz.prog 300 ⟨0,[.c (.s s_),.c (.s substr_)],[],[],0,.I r,[],[]⟩:=by
 refine eFn func300 rfl (fun E F w=>?_)
 unfold z300 at h
 refine wB J 17 h (fun h=>?_) fun h=>?_
 ·cases h
  exact wr J 11 func300 []
 refine wB J 6 h (fun h=>?_) fun h=>?_
 ·cases h
  exact wr J 5 func300 []
 refine wB J 7 h (fun h=>?_) fun h=>?_
 ·refine wO J 5 h fun x1 d h=>eSx J d ?_
  obtain ⟨x2,e,h⟩:=ob h
  refine eCl (z307_ct N s_ x1 _ e) [] [] ?_
  cases h
  exact wr J 2 func300 []
 refine wB J 9 h (fun h=>?_) fun h=>?_
 ·cases h
  exact wr J 5 func300 []
 cases h
theorem z283_ct (N:Nat) (s_:ByteArray) (substr_:ByteArray) (r:Int) (h:z283 N s_ substr_=some r) :
 Fn Tryz.prog 283 ⟨0,[.c (.s s_),.c (.s substr_)],[],[],0,.I r,[],[]⟩:=by
 refine eFn func283 rfl (fun E F w=>?_)
 unfold z283 at h
 refine wO J 8 h fun x1 d h=>eCl (z300_ct N s_ substr_ _ d) [] [] ?_
 cases h
 exact wr J 2 func283 []
theorem z282_ct (N:Nat) (s_:ByteArray) (substr_:ByteArray) (r:Int) (h:z282 N s_ substr_=some r) :
 Fn Tryz.prog 282 ⟨0,[.c (.s s_),.c (.s substr_)],[],[],0,.I r,[],[]⟩:=by
 refine eFn func282 rfl (fun E F w=>?_)
 unfold z282 at h
 refine wB J 11 h (fun h=>?_) fun h=>?_
 ·refine wO J 4 h fun x1 d h=>eCl (z297_ct N s_ _ d) [] [] ?_
  cases h
  exact wr J 3 func282 []
 refine wB J 9 h (fun h=>?_) fun h=>wa J 7 (eLoop (σ:=ByteArray × Int) (fun st=>⟨[(0,.c (.s st.1)),(1,.c (.s substr_)),(5,.I st.2)],[],[],0⟩) (fun n st=>z282_l1 N substr_ n st.1 st.2) (r:=r) (fun _=>rfl) ?_ (fun ih=>?_))
 ·refine wO J 5 h fun x2 e h=>eSx J e (eEx (ext_countByte func299 (by kernel_rfl) (by kernel_rfl) (by kernel_rfl) (by kernel_rfl) s_ x2) (fun _=>trivial) ?_)
  cases h
  exact wr J 2 func282 []
 ·intro n1 ih1
  rintro ⟨f,g⟩ h
  replace h:z282_l1 N substr_ (n1+1) f g=some r:=h
  unfold z282_l1 at h
  refine wO J 5 h fun i j h=>eCl (z283_ct N f substr_ _ j) [] [] ?_
  refine wB J 8 h (fun h=>?_) fun h=>?_
  ·cases h
   exact wr J 6 func282 []
  exact wO J 14 h fun k l h=>eSs J l (wa J 3 (eSub [] (ih1 (k,(w64 (g+1))) h)))
 exact eSub [] (ih N (s_,0) h)
theorem z261_ct (N:Nat) (s_:ByteArray) (sep_:ByteArray) (sepSave_:Int) (n_:Int) (r:(List ByteArray)) (h:z261 N s_ sep_ sepSave_ n_=some r) :
 Fn Tryz.prog 261 ⟨0,[.c (.s s_),.c (.s sep_),.I sepSave_,.I n_],[],[],1,.S 0,[],[(0,.own rS r true)]⟩:=by
 refine eFn func261 rfl (fun E F w=>?_)
 unfold z261 at h
 refine wB J 10 h (fun h=>?_) fun h=>?_
 ·cases h
  exact wr J 5 func261 [(0,.nil)]
 refine wB J 8 h (fun h=>?_) fun h=>wa J 8 (eCut (σ:=Int) (fun st=>⟨[(0,.c (.s s_)),(1,.c (.s sep_)),(2,.I sepSave_),(3,.I st)],[],[],0⟩) (fun st=>z261_k3 N s_ sep_ sepSave_ st=some r) ?_ (fun j1=>?_))
 ·refine wO J 5 h fun x1 d h=>eCl (z281_ct N s_ n_ _ d) [] [] ?_
  cases h
  exact wr J 2 func261 [(0,.sl 0)]
 ·intro e h
  replace h:z261_k3 N s_ sep_ sepSave_ e=some r:=h
  unfold z261_k3 at h
  refine wO J 12 h fun x3 f h=>eMk J oS f (wa J 13 (eCut (σ:=ByteArray × (List ByteArray) × Int) (fun st=>(zz9 st.2.1 [(0,.c (.s st.1)),(9,.S 0),(10,.I st.2.2)])) (fun st=>z261_k1 st.1 st.2.1 st.2.2=some r) ?_ (fun j2=>?_)))
  ·rintro ⟨g,i,j⟩ h
   replace h:z261_k1 g i j=some r:=h
   unfold z261_k1 at h
   refine wO J 5 h fun k l h=>eIo J rS l (eSt J [] oS g l ?_)
   refine wO J 6 h fun m o h=>eVw J rS o (wa J 2 (eSl rS 2 o ?_))
   cases h
   exact eRet J func261 [(0,.sl 2)]
  refine wa J 1 (eLoop (σ:=ByteArray × (List ByteArray) × Int) (fun st=>(zz9 st.2.1 [(0,.c (.s st.1)),(1,.c (.s sep_)),(2,.I sepSave_),(3,.I (w64 ((minI e (w64 ((s_.size:Int)+1)))-1))),(9,.S 0),(10,.I st.2.2)])) (fun n st=>z261_l2 N s_ sep_ sepSave_ e n st.1 st.2.1 st.2.2) (r:=r) (fun _=>rfl) ?_ (fun ih=>?_))
  ·intro n2 ih4
   rintro ⟨p,q,t⟩ h
   replace h:z261_l2 N s_ sep_ sepSave_ e (n2+1) p q t=some r:=h
   unfold z261_l2 at h
   refine wB' J 7 h (fun h=>wa J 2 (eSub [] (j2 (p,q,t) h))) fun h=>?_
   refine wO J 7 h fun u v h=>eCl (z283_ct N p sep_ _ v) [] [] ?_
   refine wB J 8 h (fun h=>wa J 2 (eSub [] (j2 (p,q,t) h))) fun h=>?_
   refine wO J 10 h fun x y h=>eSs J y ?_
   obtain ⟨z,A,h⟩:=ob h
   refine eIo J rS A (eSt J [] oS x A ?_)
   exact wO J 8 h fun C D h=>eSs J D (wa J 8 (eSub [] (ih4 (C,(setL' q t x),(w64 (t+1))) h)))
  exact eSub [] (ih N (s_,x3,0) h)
 refine eB' h (fun h=>wa J 2 (eSub [] (j1 n_ h))) fun h=>?_
 exact wO J 4 h fun G H h=>eCl (z282_ct N s_ sep_ _ H) [] [] (wa J 3 (eSub [] (j1 (w64 (G+1)) h)))
theorem z217_ct (N:Nat) (s_:ByteArray) (sep_:ByteArray) (r:(List ByteArray)) (h:z217 N s_ sep_=some r) :
 Fn Tryz.prog 217 ⟨0,[.c (.s s_),.c (.s sep_)],[],[],1,.S 0,[],[(0,.own rS r true)]⟩:=by
 refine eFn func217 rfl (fun E F w=>?_)
 unfold z217 at h
 refine wO J 8 h fun x1 d h=>eCl (z261_ct N s_ sep_ 0 (-1) _ d) [] [] ?_
 cases h
 exact wr J 2 func217 [(0,.sl 0)]
theorem z218_ct (N:Nat) (w_:ByteArray) (r:Bool) (h:z218 N w_=some r) :
 Fn Tryz.prog 218 ⟨0,[.c (.s w_)],[],[],0,.O r,[],[]⟩:=by
 refine eFn func218 rfl (fun E F w=>?_)
 unfold z218 at h
 refine wO J 7 h fun x1 d h=>eCl (z146_ct N w_ _ d) [] [] ?_
 cases h
 exact wr J 3 func218 []
theorem z260_0_ct (N:Nat) (s_:(List ByteArray)) (r:Int) (h:z260_0 N s_=some r) :
 Fn Tryz.prog 260 ⟨1,[.S 0,.c (.cl 218 [] [])],[(0,.sl rS s_)],[],1,.I r,[],[]⟩:=by
 refine eFn func260 rfl (fun E F w=>?_)
 unfold z260_0 at h
 refine wa J 11 (eCut (σ:=Unit) (fun st=>⟨[],[],[(0,.sl rS s_)],1⟩) (fun st=>z260_0_k1=some r) ?_ (fun j1=>?_))
 ·intro _ h
  replace h:z260_0_k1=some r:=h
  unfold z260_0_k1 at h
  cases h
  exact wr J 4 func260 []
 refine wa J 1 (eLoop (σ:=Int) (fun st=>⟨[(0,.S 0),(1,.c (.cl 218 [] [])),(7,.I (s_.length:Int)),(8,.I st)],[],[(0,.sl rS s_)],1⟩) (fun n st=>z260_0_l2 N s_ n st) (r:=r) (fun _=>rfl) ?_ (fun ih=>?_))
 ·intro n2 ih3
  intro d h
  replace h:z260_0_l2 N s_ (n2+1) d=some r:=h
  unfold z260_0_l2 at h
  refine wB' J 5 h (fun h=>wa J 2 (eSub [] (j1 () h))) fun h=>?_
  refine wO J 14 h fun e f h=>eIx J oS f ?_
  refine wO J 1 h fun g i h=>eCl (z218_ct N e _ i) [] [] ?_
  refine wB J 1 h (fun h=>?_) fun h=>wa J 7 (eSub [] (ih3 (w64 (d+1)) h))
  cases h
  exact wr J 6 func260 []
 exact eSub [] (ih N 0 h)
theorem z216_1_ct (N:Nat) (s_:(List ByteArray)) (r:Bool) (h:z216_1 N s_=some r) :
 Fn Tryz.prog 216 ⟨1,[.S 0,.c (.cl 218 [] [])],[(0,.sl rS s_)],[],1,.O r,[],[]⟩:=by
 refine eFn func216 rfl (fun E F w=>?_)
 unfold z216_1 at h
 refine wO J 8 h fun x1 d h=>eCl (z260_0_ct N s_ _ d) [] [(0,.sl 0)] ?_
 cases h
 exact wr J 3 func216 []
theorem z143_ct (N:Nat) (s_:ByteArray) (r:Bool) (h:z143 N s_=some r) :
 Fn Tryz.prog 143 ⟨0,[.c (.s s_)],[],[],0,.O r,[],[]⟩:=by
 refine eFn func143 rfl (fun E F w=>?_)
 unfold z143 at h
 refine wB' J 10 h (fun h=>?_) fun h=>?_
 ·cases h
  exact wr J 7 func143 []
 refine wO J 1 h fun x1 d h=>eCl (z217_ct N s_ (str [46]) _ d) [] [] ?_
 obtain ⟨x2,e,h⟩:=ob h
 refine eCb (z216_1_ct N x1 _ e) [] [(0,.sl 0)] [0] (.inr ⟨rfl,trivial⟩) ?_
 cases h
 exact wr J 4 func143 []
theorem z145_2_ct (N:Nat) (x_:T0) (c0_:T0) (r:Bool) (h:z145_2 N x_ c0_=some r) :
 Fn Tryz.prog 145 ⟨7,[.a (cC0 0 1 2 x_),.B 3 0],(vV0 0 1 2 x_ (vV0 4 5 6 c0_ [])),[(3,.box (cC0 4 5 6 c0_) 75)],7,.O r,[],[(3,.box (cC0 4 5 6 c0_) 75)]⟩:=by
 refine eFn func145 rfl (fun E F w=>?_)
 unfold z145_2 at h
 cases h
 exact wr J 14 func145 []
theorem z219_3_ct (N:Nat) (s_:(List T0)) (c0_:T0) (r:Int) (h:z219_3 N s_ c0_=some r) :
 Fn Tryz.prog 219 ⟨5,[.S 0,.c (.cl 145 [] [1])],((0,.sl rR0 s_)::vV0 2 3 4 c0_ []),[(1,.box (cC0 2 3 4 c0_) 75)],5,.I r,[],[(1,.box (cC0 2 3 4 c0_) 75)]⟩:=by
 refine eFn func219 rfl (fun E F w=>?_)
 unfold z219_3 at h
 refine wa J 11 (eCut (σ:=Unit) (fun st=>⟨[],[(1,.box (cC0 2 3 4 c0_) 75)],((0,.sl rR0 s_)::vV0 2 3 4 c0_ []),5⟩) (fun st=>z219_3_k1=some r) ?_ (fun j1=>?_))
 ·intro _ h
  replace h:z219_3_k1=some r:=h
  unfold z219_3_k1 at h
  cases h
  exact wr J 4 func219 []
 refine wa J 1 (eLoop (σ:=Int) (fun st=>⟨[(0,.S 0),(1,.c (.cl 145 [] [1])),(7,.I (s_.length:Int)),(8,.I st)],[(1,.box (cC0 2 3 4 c0_) 75)],((0,.sl rR0 s_)::vV0 2 3 4 c0_ []),5⟩) (fun n st=>z219_3_l2 N s_ c0_ n st) (r:=r) (fun _=>rfl) ?_ (fun ih=>?_))
 ·intro n2 ih3
  intro d h
  replace h:z219_3_l2 N s_ c0_ (n2+1) d=some r:=h
  unfold z219_3_l2 at h
  refine wB' J 5 h (fun h=>wa J 2 (eSub [] (j1 () h))) fun h=>?_
  refine wO J 14 h fun e f h=>eIx J oO0 f ?_
  refine wO J 1 h fun g i h=>eCl (z145_2_ct N e c0_ _ i) [] [(0,.sl 6),(1,.sl 7),(2,.sl 8),(3,.bp 1 0),(4,.sl 2),(5,.sl 3),(6,.sl 4)] ?_
  refine wB J 1 h (fun h=>?_) fun h=>wa J 7 (eSub [] (ih3 (w64 (d+1)) h))
  cases h
  exact wr J 6 func219 []
 exact eSub [] (ih N 0 h)
theorem z144_4_ct (N:Nat) (s_:(List T0)) (c0_:T0) (r:Bool) (h:z144_4 N s_ c0_=some r) :
 Fn Tryz.prog 144 ⟨5,[.S 0,.c (.cl 145 [] [1])],((0,.sl rR0 s_)::vV0 2 3 4 c0_ []),[(1,.box (cC0 2 3 4 c0_) 75)],5,.O r,[],[(1,.box (cC0 2 3 4 c0_) 75)]⟩:=by
 refine eFn func144 rfl (fun E F w=>?_)
 unfold z144_4 at h
 refine wO J 8 h fun x1 d h=>eCl (z219_3_ct N s_ c0_ _ d) [] [(0,.sl 0),(1,.bp 1 0),(2,.sl 2),(3,.sl 3),(4,.sl 4)] ?_
 cases h
 exact wr J 3 func144 []
theorem z147_ct (N:Nat) (s_:T10) (r:Bool) (h:z147 N s_=some r) :
 Fn Tryz.prog 147 ⟨0,[.a (cC10 s_)],[],[],0,.O r,[],[]⟩:=by
 refine eFn func147 rfl (fun E F w=>?_)
 unfold z147 at h
 refine wB J 17 h (fun h=>?_) fun h=>?_
 ·refine wB' J 7 h (fun h=>?_) fun h=>?_
  ·cases h
   exact wr J 13 func147 []
  refine wB J 7 h (fun h=>?_) fun h=>?_
  ·cases h
   exact wr J 6 func147 []
  cases h
  exact wr J 6 func147 []
 refine wB' J 6 h (fun h=>?_) fun h=>?_
 ·cases h
  exact wr J 7 func147 []
 refine wB' J 7 h (fun h=>?_) fun h=>?_
 ·cases h
  exact wr J 13 func147 []
 refine wB J 7 h (fun h=>?_) fun h=>?_
 ·cases h
  exact wr J 6 func147 []
 cases h
 exact wr J 6 func147 []
theorem z149_5_ct (N:Nat) (x_:T4) (c0_:T4) (r:Bool) (h:z149_5 N x_ c0_=some r) :
 Fn Tryz.prog 149 ⟨1,[.a (cC4 x_),.B 0 0],[],[(0,.box (cC4 c0_) 68)],1,.O r,[],[(0,.box (cC4 c0_) 68)]⟩:=by
 refine eFn func149 rfl (fun E F w=>?_)
 unfold z149_5 at h
 cases h
 exact wr J 14 func149 []
theorem z222_6_ct (N:Nat) (s_:(List T4)) (c0_:T4) (r:Int) (h:z222_6 N s_ c0_=some r) :
 Fn Tryz.prog 222 ⟨2,[.S 0,.c (.cl 149 [] [1])],[(0,.sl rR4 s_)],[(1,.box (cC4 c0_) 68)],2,.I r,[],[(1,.box (cC4 c0_) 68)]⟩:=by
 refine eFn func222 rfl (fun E F w=>?_)
 unfold z222_6 at h
 refine wa J 11 (eCut (σ:=Unit) (fun st=>⟨[],[(1,.box (cC4 c0_) 68)],[(0,.sl rR4 s_)],2⟩) (fun st=>z222_6_k1=some r) ?_ (fun j1=>?_))
 ·intro _ h
  replace h:z222_6_k1=some r:=h
  unfold z222_6_k1 at h
  cases h
  exact wr J 4 func222 []
 refine wa J 1 (eLoop (σ:=Int) (fun st=>⟨[(0,.S 0),(1,.c (.cl 149 [] [1])),(7,.I (s_.length:Int)),(8,.I st)],[(1,.box (cC4 c0_) 68)],[(0,.sl rR4 s_)],2⟩) (fun n st=>z222_6_l2 N s_ c0_ n st) (r:=r) (fun _=>rfl) ?_ (fun ih=>?_))
 ·intro n2 ih3
  intro d h
  replace h:z222_6_l2 N s_ c0_ (n2+1) d=some r:=h
  unfold z222_6_l2 at h
  refine wB' J 5 h (fun h=>wa J 2 (eSub [] (j1 () h))) fun h=>?_
  refine wO J 14 h fun e f h=>eIx J oO4 f ?_
  refine wO J 1 h fun g i h=>eCl (z149_5_ct N e c0_ _ i) [] [(0,.bp 1 0)] ?_
  refine wB J 1 h (fun h=>?_) fun h=>wa J 7 (eSub [] (ih3 (w64 (d+1)) h))
  cases h
  exact wr J 6 func222 []
 exact eSub [] (ih N 0 h)
theorem z148_7_ct (N:Nat) (s_:(List T4)) (c0_:T4) (r:Bool) (h:z148_7 N s_ c0_=some r) :
 Fn Tryz.prog 148 ⟨2,[.S 0,.c (.cl 149 [] [1])],[(0,.sl rR4 s_)],[(1,.box (cC4 c0_) 68)],2,.O r,[],[(1,.box (cC4 c0_) 68)]⟩:=by
 refine eFn func148 rfl (fun E F w=>?_)
 unfold z148_7 at h
 refine wO J 8 h fun x1 d h=>eCl (z222_6_ct N s_ c0_ _ d) [] [(0,.sl 0),(1,.bp 1 0)] ?_
 cases h
 exact wr J 3 func148 []
theorem z150_ct (N:Nat) (g_:T6) (all_:(List T4)) (r:Bool) (h:z150 N g_ all_=some r) :
 Fn Tryz.prog 150 ⟨3,[.a [.sl 0,.sl 1],.S 2],[(0,.sl rR1 g_.Diffs),(1,.sl (rP (rI .i64) (rI .i64)) g_.Equals),(2,.sl rR4 all_)],[],3,.O r,[],[]⟩:=by
 refine eFn func150 rfl (fun E F w=>?_)
 unfold z150 at h
 refine wB J 13 h (fun h=>?_) fun h=>?_
 ·cases h
  exact wr J 11 func150 []
 refine wB J 6 h (fun h=>?_) fun h=>wa J 10 (eCut (σ:=Unit) (fun st=>(zz16 g_.Diffs g_.Equals all_ [(1,.S 2),(2,.B 3 0)])) (fun st=>z150_k5 N g_ all_=some r) ?_ (fun j1=>?_))
 ·cases h
  exact wr J 5 func150 []
 ·intro _ h
  replace h:z150_k5 N g_ all_=some r:=h
  unfold z150_k5 at h
  refine wa J 8 (eCut (σ:=Unit) (fun st=>⟨[],[],[(0,.sl rR1 g_.Diffs),(1,.sl (rP (rI .i64) (rI .i64)) g_.Equals),(2,.sl rR4 all_)],4⟩) (fun st=>z150_k1=some r) ?_ (fun j3=>?_))
  ·intro _ h
   replace h:z150_k1=some r:=h
   unfold z150_k1 at h
   cases h
   exact wr J 4 func150 []
  refine wa J 1 (eLoop (σ:=Int) (fun st=>⟨[(1,.S 2),(56,.S 1),(57,.I (g_.Equals.length:Int)),(58,.I st)],[],[(0,.sl rR1 g_.Diffs),(1,.sl (rP (rI .i64) (rI .i64)) g_.Equals),(2,.sl rR4 all_)],4⟩) (fun n st=>z150_l2 N g_ all_ n st) (r:=r) (fun _=>rfl) ?_ (fun ih=>?_))
  ·intro n13 ih14
   intro c h
   replace h:z150_l2 N g_ all_ (n13+1) c=some r:=h
   unfold z150_l2 at h
   refine wB' J 5 h (fun h=>wa J 2 (eSub [] (j3 () h))) fun h=>?_
   refine wO J 6 h fun d e h=>eIx J (oP (oI .i64) (oI .i64)) e (wa J 9 (eCut (σ:=Unit) (fun st=>⟨[(1,.S 2),(56,.S 1),(57,.I (g_.Equals.length:Int)),(58,.I c)],[],[(0,.sl rR1 g_.Diffs),(1,.sl (rP (rI .i64) (rI .i64)) g_.Equals),(2,.sl rR4 all_)],6⟩) (fun st=>z150_k3 c (z150_l2 N g_ all_ n13)=some r) ?_ (fun j21=>?_)))
   ·intro _ h
    replace h:z150_k3 c (z150_l2 N g_ all_ n13)=some r:=h
    unfold z150_k3 at h
    exact wa J 5 (eSub [] (ih14 (w64 (c+1)) h))
   refine wa J 1 (eLoop (σ:=Int) (fun st=>⟨[(1,.S 2),(56,.S 1),(57,.I (g_.Equals.length:Int)),(58,.I c),(62,.a [.I d.1,.I d.2]),(63,.I st)],[],[(0,.sl rR1 g_.Diffs),(1,.sl (rP (rI .i64) (rI .i64)) g_.Equals),(2,.sl rR4 all_)],6⟩) (fun n st=>z150_l4 all_ c (z150_l2 N g_ all_ n13) d n st) (r:=r) (fun _=>rfl) ?_ (fun ih=>?_))
   ·intro n15 ih23
    intro f h
    replace h:z150_l4 all_ c (z150_l2 N g_ all_ n13) d (n15+1) f=some r:=h
    unfold z150_l4 at h
    refine wB' J 5 h (fun h=>wa J 2 (eSub [] (j21 () h))) fun h=>?_
    refine wO J 6 h fun g j h=>eAx (SC.i .i64) ([d.1,d.2]:List Int) j ?_
    refine wB J 7 h (fun h=>?_) fun h=>?_
    ·cases h
     exact wr J 20 func150 []
    refine wB J 6 h (fun h=>?_) fun h=>?_
    ·cases h
     exact wr J 14 func150 []
    refine wO J 2 h fun k l h=>eIx J oO4 l ?_
    refine wB J 6 h (fun h=>?_) fun h=>wa J 7 (eSub [] (ih23 (w64 (f+1)) h))
    cases h
    exact wr J 5 func150 []
   exact eSub [] (ih N 0 h)
  exact eSub [] (ih N 0 h)
 refine wa J 1 (eLoop (σ:=Int) (fun st=>(zz16 g_.Diffs g_.Equals all_ [(1,.S 2),(2,.B 3 0),(22,.S 0),(23,.I (g_.Diffs.length:Int)),(24,.I st)])) (fun n st=>z150_l6 N g_ all_ n st) (r:=r) (fun _=>rfl) ?_ (fun ih=>?_))
 ·intro n16 ih24
  intro m h
  replace h:z150_l6 N g_ all_ (n16+1) m=some r:=h
  unfold z150_l6 at h
  refine wB' J 5 h (fun h=>wa J 2 (eSub [] (j1 () h))) fun h=>?_
  refine wO J 6 h fun o p h=>eIx J oO1 p ?_
  refine wB J 13 h (fun h=>?_) fun h=>?_
  ·cases h
   exact wr J 25 func150 []
  refine wB J 10 h (fun h=>?_) fun h=>?_
  ·cases h
   exact wr J 15 func150 []
  refine wB J 5 h (fun h=>?_) fun h=>?_
  ·cases h
   exact wr J 10 func150 []
  refine wB J 5 h (fun h=>?_) fun h=>wa J 7 (eSub [] (ih24 (w64 (m+1)) h))
  cases h
  exact wr J 5 func150 []
 exact eSub [] (ih N 0 h)
theorem z71_ct (N:Nat) (l_:(List T0)) (r:Bool) (h:z71 N l_=some r) :
 Fn Tryz.prog 71 ⟨1,[.S 0],[(0,.sl rR0 l_)],[],1,.O r,[],[]⟩:=by
 refine eFn func71 rfl (fun E F w=>?_)
 unfold z71 at h
 refine wB J 11 h (fun h=>?_) fun h=>?_
 ·cases h
  exact wr J 5 func71 []
 refine wO J 5 h fun x1 c h=>eCl (z142_ct N l_ _ c) [] [(0,.sl 0)] ?_
 refine wB J 9 h (fun h=>?_) fun h=>wa J 13 (eCut (σ:=Unit) (fun st=>⟨[],[],[(0,.sl rR0 l_)],2⟩) (fun st=>z71_k1=some r) ?_ (fun j1=>?_))
 ·cases h
  exact wr J 5 func71 []
 ·intro _ h
  replace h:z71_k1=some r:=h
  unfold z71_k1 at h
  cases h
  exact wr J 4 func71 []
 refine wa J 1 (eLoop (σ:=Int × Int) (fun st=>(zz12 x1 l_ [(0,.S 0),(3,.S 1),(4,.I st.1),(17,.S 0),(18,.I (l_.length:Int)),(19,.I st.2)])) (fun n st=>z71_l2 N l_ x1 n st.1 st.2) (r:=r) (fun _=>rfl) ?_ (fun ih=>?_))
 ·intro n12 ih12
  rintro ⟨d,e⟩ h
  replace h:z71_l2 N l_ x1 (n12+1) d e=some r:=h
  unfold z71_l2 at h
  refine wB' J 5 h (fun h=>wa J 2 (eSub [] (j1 () h))) fun h=>?_
  refine wO J 7 h fun f g h=>eIx J oO0 g ?_
  refine wO J 10 h fun i j h=>eCl (z143_ct N f.Name _ j) [] [] ?_
  refine wB J 2 h (fun h=>?_) fun h=>?_
  ·cases h
   exact wr J 24 func71 []
  refine wB J 6 h (fun h=>?_) fun h=>?_
  ·cases h
   exact wr J 18 func71 []
  refine wB J 6 h (fun h=>?_) fun h=>?_
  ·cases h
   exact wr J 12 func71 []
  refine wO J 2 h fun k l h=>eIs J rR0 l ?_
  refine wO J 1 h fun m o h=>eCl (z144_4_ct N k f _ o) [] [(0,.sl 7),(1,.bp 6 0),(2,.sl 3),(3,.sl 4),(4,.sl 5)] ?_
  refine wB J 2 h (fun h=>?_) fun h=>wa J 19 (eCut (σ:=Unit) (fun st=>(zz17 x1 f l_ [(0,.S 0),(3,.S 1),(4,.I (w64 (d+(f.Fields.length:Int)))),(6,.B 6 0),(17,.S 0),(18,.I (l_.length:Int)),(19,.I e)])) (fun st=>z71_k3 N x1 d e (z71_l2 N l_ x1 n12) f=some r) ?_ (fun j19=>?_))
  ·cases h
   exact wr J 5 func71 []
  ·intro _ h
   replace h:z71_k3 N x1 d e (z71_l2 N l_ x1 n12) f=some r:=h
   unfold z71_k3 at h
   refine wO J 5 h fun p q h=>eCb (z150_ct N f.Guard x1 _ q) [] [(0,.sl 4),(1,.sl 5),(2,.sl 1)] [1] (.inr ⟨rfl,trivial⟩) ?_
   refine wB J 2 h (fun h=>?_) fun h=>wa J 7 (eSub [] (ih12 ((w64 (d+(f.Fields.length:Int))),(w64 (e+1))) h))
   cases h
   exact wr J 5 func71 []
  refine wa J 1 (eLoop (σ:=Int) (fun st=>(zz17 x1 f l_ [(0,.S 0),(3,.S 1),(4,.I (w64 (d+(f.Fields.length:Int)))),(6,.B 6 0),(17,.S 0),(18,.I (l_.length:Int)),(19,.I e),(53,.S 3),(54,.I (f.Fields.length:Int)),(55,.I st)])) (fun n st=>z71_l4 N x1 d e (z71_l2 N l_ x1 n12) f n st) (r:=r) (fun _=>rfl) ?_ (fun ih=>?_))
  ·intro n14 ih21
   intro s h
   replace h:z71_l4 N x1 d e (z71_l2 N l_ x1 n12) f (n14+1) s=some r:=h
   unfold z71_l4 at h
   refine wB' J 5 h (fun h=>wa J 2 (eSub [] (j19 () h))) fun h=>?_
   refine wO J 7 h fun t u h=>eIx J oO4 u ?_
   refine wO J 9 h fun v x h=>eCl (z146_ct N t.Name _ x) [] [] ?_
   refine wB J 2 h (fun h=>?_) fun h=>?_
   ·cases h
    exact wr J 19 func71 []
   refine wO J 2 h fun y z h=>eCl (z147_ct N t.Sort' _ z) [] [] ?_
   refine wB J 3 h (fun h=>?_) fun h=>?_
   ·cases h
    exact wr J 13 func71 []
   refine wO J 3 h fun A C h=>eIs J rR4 C ?_
   refine wO J 1 h fun D G h=>eCl (z148_7_ct N A t _ G) [] [(0,.sl 10),(1,.bp 9 0)] ?_
   refine wB J 2 h (fun h=>?_) fun h=>wa J 7 (eSub [] (ih21 (w64 (s+1)) h))
   cases h
   exact wr J 5 func71 []
  exact eSub [] (ih N 0 h)
 exact eSub [] (ih N (0,0) h)
theorem z72_ct (N:Nat) (d_:T0) (r:(List T1)) (h:z72 N d_=some r) :
 Fn Tryz.prog 72 ⟨3,[.a (cC0 0 1 2 d_)],(vV0 0 1 2 d_ []),[],4,.S 3,[],[(3,.own rR1 r true)]⟩:=by
 refine eFn func72 rfl (fun E F w=>?_)
 unfold z72 at h
 refine wa J 17 (eCut (σ:=(List T1)) (fun st=>⟨[(1,.B 3 0),(3,.S 4)],[(3,.box (cC0 0 1 2 d_) 75),(4,.own rR1 st true)],(vV0 0 1 2 d_ []),5⟩) (fun st=>z72_k3 N d_ st=some r) ?_ (fun j1=>?_))
 ·intro c h
  replace h:z72_k3 N d_ c=some r:=h
  unfold z72_k3 at h
  refine wO J 6 h fun x9 d h=>eAp J rR1 d (wa J 11 (eCut (σ:=(List T1)) (fun st=>⟨[(3,.S 6)],[(6,.own rR1 st true)],(vV0 0 1 2 d_ []),7⟩) (fun st=>z72_k1 st=some r) ?_ (fun j3=>?_)))
  ·intro e h
   replace h:z72_k1 e=some r:=h
   unfold z72_k1 at h
   cases h
   exact wr J 5 func72 [(3,.sl 6)]
  refine wa J 1 (eLoop (σ:=(List T1) × Int) (fun st=>⟨[(3,.S 6),(44,.S 2),(45,.I (d_.Guard.Equals.length:Int)),(46,.I st.2)],[(6,.own rR1 st.1 true)],(vV0 0 1 2 d_ []),7⟩) (fun n st=>z72_l2 d_ n st.1 st.2) (r:=r) (fun _=>rfl) ?_ (fun ih=>?_))
  ·intro n3 ih5
   rintro ⟨f,g⟩ h
   replace h:z72_l2 d_ (n3+1) f g=some r:=h
   unfold z72_l2 at h
   refine wB' J 5 h (fun h=>wa J 2 (eSub [] (j3 f h))) fun h=>?_
   refine wO J 6 h fun i j h=>eIx J (oP (oI .i64) (oI .i64)) j (wa J 6 (eAb 0 rfl (wa J 1 (eAb 1 rfl (wa J 2 (eAb 1 rfl (wa J 1 (eAb 0 rfl (wa J 2 (eBs J [] oO1 ([(⟨i.1,i.2,0⟩:T1),(⟨i.2,i.1,0⟩:T1)]:List T1) ?_))))))))))
   obtain ⟨k,l,h⟩:=ob h
   exact eAp J rR1 l (wa J 7 (eSub [(6,.sl 10)] (ih5 (k,(w64 (g+1))) h)))
  exact eSub [(6,.sl 5)] (ih N (x9,0) h)
 refine wa J 1 (eLoop (σ:=(List T1) × Int) (fun st=>⟨[(1,.B 3 0),(3,.S 4),(9,.S 0),(10,.I (d_.Fields.length:Int)),(11,.I st.2)],[(3,.box (cC0 0 1 2 d_) 75),(4,.own rR1 st.1 true)],(vV0 0 1 2 d_ []),5⟩) (fun n st=>z72_l4 N d_ n st.1 st.2) (r:=r) (fun _=>rfl) ?_ (fun ih=>?_))
 ·intro n4 ih6
  rintro ⟨m,o⟩ h
  replace h:z72_l4 N d_ (n4+1) m o=some r:=h
  unfold z72_l4 at h
  refine wB' J 5 h (fun h=>wa J 2 (eSub [] (j1 m h))) fun h=>?_
  refine wO J 7 h fun p q h=>eIx J oO4 q (wa J 24 (eBs J [] oO1 ([(⟨(w64 (d_.First+o)),(-1),p.Sort'.Hi⟩:T1),(⟨(-1),(w64 (d_.First+o)),(w64 (0-p.Sort'.Lo))⟩:T1)]:List T1) ?_))
  obtain ⟨s,t,h⟩:=ob h
  exact eAp J rR1 t (wa J 7 (eSub [(4,.sl 8)] (ih6 (s,(w64 (o+1))) h)))
 exact eSub [(4,.nil)] (ih N (([]:List T1),0) h)
theorem z37_ct (N:Nat) (decls_:(List T0)) (label_:Int) (r:(List T1) × Int) (h:z37 N decls_ label_=some r) :
 Fn Tryz.prog 37 ⟨1,[.S 0,.I label_],[(0,.sl rR0 decls_)],[],2,.t [.inl (.sl 1),.inl (.I r.2)],[],[(1,.own rR1 r.1 true)]⟩:=by
 refine eFn func37 rfl (fun E F w=>?_)
 unfold z37 at h
 refine wB J 11 h (fun h=>?_) fun h=>?_
 ·cases h
  exact wr J 17 func37 [(1,.nil)]
 refine wB J 6 h (fun h=>?_) fun h=>?_
 ·cases h
  exact wr J 11 func37 [(1,.nil)]
 refine wO J 1 h fun x1 c h=>eCl (z71_ct N decls_ _ c) [] [(0,.sl 0)] ?_
 refine wB J 3 h (fun h=>?_) fun h=>?_
 ·cases h
  exact wr J 6 func37 [(1,.nil)]
 refine wO J 6 h fun x2 d h=>eIx J oO0 d ?_
 refine wO J 1 h fun x3 e h=>eCl (z72_ct N x2 _ e) [] [(0,.sl 2),(1,.sl 3),(2,.sl 4)] ?_
 cases h
 exact wr J 3 func37 [(1,.sl 5)]
theorem z210_ct (N:Nat) (l_:(List T0)) (r:Bool) (h:z210 N l_=some r) :
 Fn Tryz.prog 210 ⟨1,[.S 0],[(0,.sl rR0 l_)],[],1,.O r,[],[]⟩:=by
 refine eFn func210 rfl (fun E F w=>?_)
 unfold z210 at h
 refine wB J 11 h (fun h=>?_) fun h=>?_
 ·cases h
  exact wr J 5 func210 []
 refine wO J 5 h fun x1 c h=>eCl (z37_ct N l_ 0 _ c) [] [(0,.sl 0)] ?_
 cases h
 exact wr J 12 func210 []
theorem z211_ct (N:Nat) (g_:T5) (r:Bool) (h:z211 N g_=some r) :
 Fn Tryz.prog 211 ⟨4,[.a (cC5 0 1 2 3 g_)],(vV5 0 1 2 3 g_ []),[],4,.O r,[],[]⟩:=by
 refine eFn func211 rfl (fun E F w=>?_)
 unfold z211 at h
 refine wa J 13 (eCut (σ:=Unit) (fun st=>⟨[],[],(vV5 0 1 2 3 g_ []),5⟩) (fun st=>z211_k1=some r) ?_ (fun j1=>?_))
 ·intro _ h
  replace h:z211_k1=some r:=h
  unfold z211_k1 at h
  cases h
  exact wr J 4 func211 []
 refine wa J 1 (eLoop (σ:=Int) (fun st=>(zz8 g_ [(1,.B 4 0),(8,.S 2),(9,.I (g_.Edges.length:Int)),(10,.I st)])) (fun n st=>z211_l2 N g_ n st) (r:=r) (fun _=>rfl) ?_ (fun ih=>?_))
 ·intro n12 ih33
  intro c h
  replace h:z211_l2 N g_ (n12+1) c=some r:=h
  unfold z211_l2 at h
  refine wB' J 5 h (fun h=>wa J 2 (eSub [] (j1 () h))) fun h=>?_
  refine wO J 7 h fun d e h=>eIx J oO2 e ?_
  refine wa J 14 (eCut (σ:=Bool) (fun st=>⟨[(1,.B 4 0),(3,.I c),(4,.B 6 0),(8,.S 2),(9,.I (g_.Edges.length:Int)),(10,.I c),(30,.O st)],[(4,.box (cC5 0 1 2 3 g_) 27),(6,.box (cC2 d) 79)],(vV5 0 1 2 3 g_ []),7⟩) (fun st=>z211_k6 N g_ c (z211_l2 N g_ n12) d st=some r) ?_ (fun j54=>?_))
  ·intro f h
   replace h:z211_k6 N g_ c (z211_l2 N g_ n12) d f=some r:=h
   unfold z211_k6 at h
   refine eB h (fun h=>?_) fun h=>wa J 9 (eCut (σ:=Unit) (fun st=>⟨[(1,.B 4 0),(8,.S 2),(9,.I (g_.Edges.length:Int)),(10,.I c)],[(4,.box (cC5 0 1 2 3 g_) 27)],(vV5 0 1 2 3 g_ []),7⟩) (fun st=>z211_k3 c (z211_l2 N g_ n12)=some r) ?_ (fun j55=>?_))
   ·cases h
    exact wr J 5 func211 []
   ·intro _ h
    replace h:z211_k3 c (z211_l2 N g_ n12)=some r:=h
    unfold z211_k3 at h
    exact wa J 5 (eSub [] (ih33 (w64 (c+1)) h))
   refine wa J 1 (eLoop (σ:=Int) (fun st=>⟨[(1,.B 4 0),(3,.I c),(4,.B 6 0),(8,.S 2),(9,.I (g_.Edges.length:Int)),(10,.I c),(32,.S 2),(33,.I (g_.Edges.length:Int)),(34,.I st)],[(4,.box (cC5 0 1 2 3 g_) 27),(6,.box (cC2 d) 79)],(vV5 0 1 2 3 g_ []),7⟩) (fun n st=>z211_l4 g_ c (z211_l2 N g_ n12) d n st) (r:=r) (fun _=>rfl) ?_ (fun ih=>?_))
   ·intro n14 ih60
    intro g h
    replace h:z211_l4 g_ c (z211_l2 N g_ n12) d (n14+1) g=some r:=h
    unfold z211_l4 at h
    refine wB' J 5 h (fun h=>wa J 2 (eSub [] (j55 () h))) fun h=>?_
    refine wO J 7 h fun i j h=>eIx J oO2 j ?_
    refine wa J 12 (eCut (σ:=Bool) (fun st=>⟨[(1,.B 4 0),(3,.I c),(4,.B 6 0),(6,.B 8 0),(8,.S 2),(9,.I (g_.Edges.length:Int)),(10,.I c),(32,.S 2),(33,.I (g_.Edges.length:Int)),(34,.I g),(68,.O st)],[(4,.box (cC5 0 1 2 3 g_) 27),(6,.box (cC2 d) 79),(8,.box (cC2 i) 79)],(vV5 0 1 2 3 g_ []),9⟩) (fun st=>z211_k5 d g (z211_l4 g_ c (z211_l2 N g_ n12) d n14) i st=some r) ?_ (fun j63=>?_))
    ·intro k h
     replace h:z211_k5 d g (z211_l4 g_ c (z211_l2 N g_ n12) d n14) i k=some r:=h
     unfold z211_k5 at h
     refine eB h (fun h=>?_) fun h=>?_
     ·cases h
      exact wr J 5 func211 []
     refine wB' J 7 h (fun h=>wa J 32 (eSub [] (ih60 (w64 (g+1)) h))) fun h=>?_
     refine wB' J 7 h (fun h=>wa J 25 (eSub [] (ih60 (w64 (g+1)) h))) fun h=>?_
     refine wB J 8 h (fun h=>?_) fun h=>?_
     ·cases h
      exact wr J 15 func211 []
     refine wB J 10 h (fun h=>?_) fun h=>wa J 7 (eSub [] (ih60 (w64 (g+1)) h))
     cases h
     exact wr J 5 func211 []
    refine eB' h (fun h=>wa J 27 (eSub [] (j63 false h))) fun h=>?_
    refine wB' J 7 h (fun h=>wa J 20 (eSub [] (j63 false h))) fun h=>wa J 4 (eEq ?_)
    refine wB J 1 h (fun h=>wa J 14 (eSub [] (j63 true h))) fun h=>?_
    exact wB J 9 h (fun h=>wa J 5 (eSub [] (j63 true h))) fun h=>wa J 5 (eSub [] (j63 d.Again h))
   exact eSub [] (ih N 0 h)
  refine eB h (fun h=>wa J 11 (eSub [] (j54 true h))) fun h=>?_
  exact wB J 3 h (fun h=>wa J 8 (eSub [] (j54 (d.From==g_.Start) h))) fun h=>wa J 8 (eSub [] (j54 false h))
 exact eSub [] (ih N 0 h)
theorem z212_ct (N:Nat) (g_:T5) (r:Bool) (h:z212 N g_=some r) :
 Fn Tryz.prog 212 ⟨4,[.a (cC5 0 1 2 3 g_)],(vV5 0 1 2 3 g_ []),[],4,.O r,[],[]⟩:=by
 refine eFn func212 rfl (fun E F w=>?_)
 unfold z212 at h
 refine wa J 17 (eCut (σ:=Unit) (fun st=>⟨[],[],(vV5 0 1 2 3 g_ []),5⟩) (fun st=>z212_k1=some r) ?_ (fun j1=>?_))
 ·intro _ h
  replace h:z212_k1=some r:=h
  unfold z212_k1 at h
  cases h
  exact wr J 4 func212 []
 refine wa J 1 (eLoop (σ:=Int × Int) (fun st=>(zz8 g_ [(1,.B 4 0),(3,.I st.1),(7,.S 3),(8,.I (g_.Timeouts.length:Int)),(9,.I st.2)])) (fun n st=>z212_l2 g_ n st.1 st.2) (r:=r) (fun _=>rfl) ?_ (fun ih=>?_))
 ·intro n2 ih3
  rintro ⟨c,d⟩ h
  replace h:z212_l2 g_ (n2+1) c d=some r:=h
  unfold z212_l2 at h
  refine wB' J 5 h (fun h=>wa J 2 (eSub [] (j1 () h))) fun h=>?_
  refine wO J 6 h fun e f h=>eIx J oO11 f ?_
  refine wB J 12 h (fun h=>wa J 43 (eEnd ?_)) fun h=>?_
  ·cases h
   exact wr J 5 func212 []
  refine wB J 5 h (fun h=>wa J 38 (eEnd ?_)) fun h=>?_
  ·cases h
   exact wr J 5 func212 []
  refine wB J 5 h (fun h=>wa J 33 (eEnd ?_)) fun h=>?_
  ·cases h
   exact wr J 5 func212 []
  refine wB J 5 h (fun h=>wa J 28 (eEnd ?_)) fun h=>?_
  ·cases h
   exact wr J 5 func212 []
  refine wB J 8 h (fun h=>wa J 20 (eEnd ?_)) fun h=>?_
  ·cases h
   exact wr J 5 func212 []
  refine wO J 4 h fun g i h=>eIx J oO2 i ?_
  refine wB J 7 h (fun h=>wa J 8 (eEnd ?_)) fun h=>?_
  ·cases h
   exact wr J 5 func212 []
  refine wO J 4 h fun j k h=>eIx J oO2 k (wa J 3 (eEnd ?_))
  refine eB h (fun h=>?_) fun h=>wa J 12 (eSub [] (ih3 (e.State,(w64 (d+1))) h))
  cases h
  exact wr J 5 func212 []
 exact eSub [] (ih N ((-1),0) h)
theorem z252_ct (N:Nat) (x_:Int) (y_:Int) (r:Int × Int) (h:z252 N x_ y_=some r) :
 Fn Tryz.prog 252 ⟨0,[.c (.i .u64 x_),.c (.i .u64 y_)],[],[],0,.t [.inl (.i .u64 r.1),.inl (.i .u64 r.2)],[],[]⟩:=by
 refine eFn func252 rfl (fun E F w=>?_)
 unfold z252 at h
 refine wO J 8 h fun x1 d h=>eBi d ?_
 refine wO J 5 h fun x2 e h=>eBi e ?_
 refine wO J 5 h fun x3 f h=>eBi f ?_
 refine wO J 5 h fun x4 g h=>eBi g ?_
 refine wO J 15 h fun x5 j h=>eBi j ?_
 refine wO J 6 h fun x6 k h=>eBi k ?_
 refine wO J 5 h fun x7 l h=>eBi l ?_
 refine wO J 19 h fun x8 m h=>eBi m ?_
 cases h
 exact wr J 10 func252 []
theorem z201_ct (N:Nat) (x_:Int) (y_:Int) (r:Int × Int) (h:z201 N x_ y_=some r) :
 Fn Tryz.prog 201 ⟨0,[.c (.i .u64 x_),.c (.i .u64 y_)],[],[],0,.t [.inl (.i .u64 r.1),.inl (.i .u64 r.2)],[],[]⟩:=by
 refine eFn func201 rfl (fun E F w=>?_)
 unfold z201 at h
 refine wO J 12 h fun x1 d h=>eCl (z252_ct N x_ y_ _ d) [] [] ?_
 cases h
 exact wr J 13 func201 []
theorem z255_ct (N:Nat) (x_:(List Int)) (count_:Int) (r:(List Int)) (h:z255 N x_ count_=some r) :
 Fn Tryz.prog 255 ⟨1,[.S 0,.I count_],[(0,.sl (rI .i64) x_)],[],2,.S 1,[],[(1,.own (rI .i64) r true)]⟩:=by
 refine eFn func255 rfl (fun E F w=>?_)
 unfold z255 at h
 refine wB J 10 h (fun h=>?_) fun h=>?_
 ·cases h
 refine wO J 9 h fun x1 d h=>eCl (z201_ct N (wk .u64 ((x_.length:Int))) (wk .u64 (count_)) _ d) [] [] ?_
 refine wa J 12 (eCut (σ:=Bool) (fun st=>(zz5 x_ [(0,.S 0),(6,.c (.i .u64 x1.2)),(26,.O st)])) (fun st=>z255_k3 N x_ x1 st=some r) ?_ (fun j2=>?_))
 ·intro e h
  replace h:z255_k3 N x_ x1 e=some r:=h
  unfold z255_k3 at h
  refine eB h (fun h=>?_) fun h=>?_
  ·cases h
  refine wO J 6 h fun x2 f h=>eMk J (oI .i64) f ?_
  refine wO J 6 h fun x3 g h=>eCp J (rI .i64) g (wa J 3 (eCut (σ:=(List Int)) (fun st=>⟨[(7,.S 1)],[(1,.own (rI .i64) st true)],[(0,.sl (rI .i64) x_)],2⟩) (fun st=>z255_k1 st=some r) ?_ (fun j4=>?_)))
  ·intro j h
   replace h:z255_k1 j=some r:=h
   unfold z255_k1 at h
   cases h
   exact wr J 5 func255 [(1,.sl 1)]
  refine wa J 1 (eLoop (σ:=(List Int) × Int) (fun st=>⟨[(7,.S 1),(8,.I st.2)],[(1,.own (rI .i64) st.1 true)],[(0,.sl (rI .i64) x_)],2⟩) (fun n st=>z255_l2 n st.1 st.2) (r:=r) (fun _=>rfl) ?_ (fun ih=>?_))
  ·intro n2 ih6
   rintro ⟨k,l⟩ h
   replace h:z255_l2 (n2+1) k l=some r:=h
   unfold z255_l2 at h
   refine wB' J 8 h (fun h=>wa J 2 (eSub [] (j4 k h))) fun h=>?_
   refine wO J 7 h fun m o h=>eVw J (rI .i64) o ?_
   refine wO J 2 h fun p q h=>eVw J (rI .i64) q ?_
   obtain ⟨s,t,h⟩:=ob h
   exact eDw J (rI .i64) q t (wa J 2 (eEnd (wa J 1 (eSub [] (ih6 (s.1,(w64 (l+s.2))) h)))))
  exact eSub [] (ih N (x3.1,x3.2) h)
 exact eB h (fun h=>wa J 4 (eSub [] (j2 true h))) fun h=>wa J 4 (eSub [] (j2 (decide (x1.2 > 9223372036854775807)) h))
theorem z214_ct (N:Nat) (g_:T5) (from_:Int) (back_:Bool) (r:(List Int)) (h:z214 N g_ from_ back_=some r) :
 Fn Tryz.prog 214 ⟨4,[.a (cC5 0 1 2 3 g_),.I from_,.O back_],(vV5 0 1 2 3 g_ []),[],5,.S 4,[],[(4,.own (rI .i64) r true)]⟩:=by
 refine eFn func214 rfl (fun E F w=>?_)
 unfold z214 at h
 refine wa J 7 (eBs J [] (oI .i64) ([(-1)]:List Int) ?_)
 refine wO J 2 h fun x1 c h=>eCb (z255_ct N ([(-1)]:List Int) g_.States _ c) [] [(0,.sl 5)] [5] (.inr ⟨rfl,⟨(rI_flat _),trivial⟩⟩) ?_
 refine wO J 6 h fun x2 d h=>eIo J (rI .i64) d (eSt J [] (oI .i64) 0 d (wa J 5 (eBs J [] (oI .i64) ([from_]:List Int) (wa J 2 (eCut (σ:=(List Int)) (fun st=>⟨[(7,.S 6)],[(6,.own (rI .i64) st true)],(vV5 0 1 2 3 g_ []),9⟩) (fun st=>z214_k1 st=some r) ?_ (fun j1=>?_))))))
 ·intro e h
  replace h:z214_k1 e=some r:=h
  unfold z214_k1 at h
  cases h
  exact wr J 5 func214 [(4,.sl 6)]
 refine wa J 1 (eLoop (σ:=(List Int) × (List Int)) (fun st=>⟨[(2,.O back_),(3,.B 4 0),(7,.S 6),(8,.S 9)],[(4,.box (cC5 0 1 2 3 g_) 27),(6,.own (rI .i64) st.1 true),(9,.own (rI .i64) st.2 true)],(vV5 0 1 2 3 g_ []),10⟩) (fun n st=>z214_l2 N g_ back_ n st.1 st.2) (r:=r) (fun _=>rfl) ?_ (fun ih=>?_))
 ·intro n12 ih30
  rintro ⟨f,g⟩ h
  replace h:z214_l2 N g_ back_ (n12+1) f g=some r:=h
  unfold z214_l2 at h
  refine wB' J 7 h (fun h=>wa J 2 (eSub [] (j1 f h))) fun h=>wa J 11 (eCut (σ:=(List Int) × (List Int)) (fun st=>(zz18 g_ st.1 st.2 [(2,.O back_),(3,.B 4 0),(7,.S 6),(8,.S 10)])) (fun st=>z214_k3 (z214_l2 N g_ back_ n12) st.1 st.2=some r) ?_ (fun j49=>?_))
  ·rintro ⟨i,j⟩ h
   replace h:z214_k3 (z214_l2 N g_ back_ n12) i j=some r:=h
   unfold z214_k3 at h
   exact wO J 3 h fun k l h=>eVw J (rI .i64) l (wa J 2 (eSl (rI .i64) 11 l (eSub [(9,.sl 11)] (ih30 (i,k) h))))
  refine wa J 1 (eLoop (σ:=(List Int) × (List Int) × Int) (fun st=>(zz18 g_ st.1 st.2.1 [(2,.O back_),(3,.B 4 0),(7,.S 6),(8,.S 10),(28,.S 2),(29,.I (g_.Edges.length:Int)),(30,.I st.2.2)])) (fun n st=>z214_l4 g_ back_ (z214_l2 N g_ back_ n12) n st.1 st.2.1 st.2.2) (r:=r) (fun _=>rfl) ?_ (fun ih=>?_))
  ·intro n14 ih54
   rintro ⟨m,o,p⟩ h
   replace h:z214_l4 g_ back_ (z214_l2 N g_ back_ n12) (n14+1) m o p=some r:=h
   unfold z214_l4 at h
   refine wB' J 5 h (fun h=>wa J 2 (eSub [] (j49 (m,o) h))) fun h=>?_
   refine wO J 6 h fun q s h=>eIx J oO2 s (wa J 12 (eEnd (wa J 5 (eCut (σ:=Int × Int) (fun st=>⟨[(2,.O back_),(3,.B 4 0),(7,.S 6),(8,.S 10),(11,.I st.1),(12,.I st.2),(28,.S 2),(29,.I (g_.Edges.length:Int)),(30,.I p)],[(4,.box (cC5 0 1 2 3 g_) 27),(6,.own (rI .i64) m true),(10,.own (rI .i64) o true)],(vV5 0 1 2 3 g_ []),13⟩) (fun st=>z214_k5 m o p (z214_l4 g_ back_ (z214_l2 N g_ back_ n12) n14) st.1 st.2=some r) ?_ (fun j57=>?_)))))
   ·rintro ⟨t,u⟩ h
    replace h:z214_k5 m o p (z214_l4 g_ back_ (z214_l2 N g_ back_ n12) n14) t u=some r:=h
    unfold z214_k5 at h
    refine wO J 4 h fun v x h=>eIo J (rI .i64) x (eLd J (oI .i64) x ?_)
    refine wB' J 2 h (fun h=>wa J 14 (eSub [] (ih54 (m,o,(w64 (p+1))) h))) fun h=>?_
    refine wO J 2 h fun y z h=>eIo J (rI .i64) z (eLd J (oI .i64) z ?_)
    refine wB' J 3 h (fun h=>wa J 7 (eSub [] (ih54 (m,o,(w64 (p+1))) h))) fun h=>?_
    refine wO J 7 h fun A C h=>eIo J (rI .i64) C (eLd J (oI .i64) C ?_)
    refine wO J 1 h fun D G h=>eIo J (rI .i64) G (eSt J [] (oI .i64) (w64 (A+1)) G (wa J 4 (eBs J [] (oI .i64) ([u]:List Int) ?_)))
    obtain ⟨H,R,h⟩:=ob h
    exact eAp J (rI .i64) R (wa J 7 (eSub [(10,.sl 18)] (ih54 ((setL' m u (w64 (A+1))),H,(w64 (p+1))) h)))
   exact eB h (fun h=>wa J 7 (eSub [] (j57 (q.To,q.From) h))) fun h=>wa J 2 (eSub [] (j57 (q.From,q.To) h))
  exact eSub [(10,.sl 9)] (ih N (f,g,0) h)
 exact eSub [(9,.sl 8)] (ih N ((setL' x1 from_ 0),([from_]:List Int)) h)
theorem z254_ct (N:Nat) (s_:(List Int)) (v_:Int) (r:Int) (h:z254 N s_ v_=some r) :
 Fn Tryz.prog 254 ⟨1,[.S 0,.I v_],[(0,.sl (rI .i64) s_)],[],1,.I r,[],[]⟩:=by
 refine eFn func254 rfl (fun E F w=>?_)
 unfold z254 at h
 refine wa J 11 (eCut (σ:=Unit) (fun st=>(zz5 s_ [])) (fun st=>z254_k1=some r) ?_ (fun j1=>?_))
 ·intro _ h
  replace h:z254_k1=some r:=h
  unfold z254_k1 at h
  cases h
  exact wr J 4 func254 []
 refine wa J 1 (eLoop (σ:=Int) (fun st=>(zz5 s_ [(0,.S 0),(1,.I v_),(7,.I (s_.length:Int)),(8,.I st)])) (fun n st=>z254_l2 s_ v_ n st) (r:=r) (fun _=>rfl) ?_ (fun ih=>?_))
 ·intro n2 ih3
  intro c h
  replace h:z254_l2 s_ v_ (n2+1) c=some r:=h
  unfold z254_l2 at h
  refine wB' J 5 h (fun h=>wa J 2 (eSub [] (j1 () h))) fun h=>?_
  refine wO J 14 h fun x9 d h=>eIx J (oI .i64) d ?_
  refine wB J 3 h (fun h=>?_) fun h=>wa J 7 (eSub [] (ih3 (w64 (c+1)) h))
  cases h
  exact wr J 6 func254 []
 exact eSub [] (ih N 0 h)
theorem z213_ct (N:Nat) (s_:(List Int)) (v_:Int) (r:Bool) (h:z213 N s_ v_=some r) :
 Fn Tryz.prog 213 ⟨1,[.S 0,.I v_],[(0,.sl (rI .i64) s_)],[],1,.O r,[],[]⟩:=by
 refine eFn func213 rfl (fun E F w=>?_)
 unfold z213 at h
 refine wO J 8 h fun x1 c h=>eCl (z254_ct N s_ v_ _ c) [] [(0,.sl 0)] ?_
 cases h
 exact wr J 3 func213 []
theorem z133_ct (N:Nat) (g_:T5) (r:Bool) (h:z133 N g_=some r) :
 Fn Tryz.prog 133 ⟨4,[.a (cC5 0 1 2 3 g_)],(vV5 0 1 2 3 g_ []),[],4,.O r,[],[]⟩:=by
 refine eFn func133 rfl (fun E F w=>?_)
 unfold z133 at h
 refine wO J 8 h fun x1 c h=>eCl (z208_ct N g_ _ c) [] [(0,.sl 0),(1,.sl 1),(2,.sl 2),(3,.sl 3)] ?_
 refine wB' J 1 h (fun h=>?_) fun h=>?_
 ·cases h
  exact wr J 34 func133 []
 refine wO J 1 h fun x2 d h=>eCl (z209_ct N g_ _ d) [] [(0,.sl 0),(1,.sl 1),(2,.sl 2),(3,.sl 3)] ?_
 refine wB' J 2 h (fun h=>?_) fun h=>?_
 ·cases h
  exact wr J 30 func133 []
 refine wO J 2 h fun x3 e h=>eCl (z210_ct N g_.Decls _ e) [] [(0,.sl 1)] ?_
 refine wB' J 2 h (fun h=>?_) fun h=>?_
 ·cases h
  exact wr J 25 func133 []
 refine wO J 1 h fun x4 f h=>eCl (z211_ct N g_ _ f) [] [(0,.sl 0),(1,.sl 1),(2,.sl 2),(3,.sl 3)] ?_
 refine wB' J 2 h (fun h=>?_) fun h=>?_
 ·cases h
  exact wr J 21 func133 []
 refine wO J 1 h fun x5 g h=>eCl (z212_ct N g_ _ g) [] [(0,.sl 0),(1,.sl 1),(2,.sl 2),(3,.sl 3)] ?_
 refine wB' J 2 h (fun h=>?_) fun h=>?_
 ·cases h
  exact wr J 17 func133 []
 refine wO J 3 h fun x6 i h=>eCl (z214_ct N g_ g_.Start false _ i) [] [(0,.sl 0),(1,.sl 1),(2,.sl 2),(3,.sl 3)] ?_
 obtain ⟨x7,j,h⟩:=ob h
 refine eCb (z213_ct N x6 (-1) _ j) [] [(0,.sl 5)] [5] (.inr ⟨rfl,trivial⟩) ?_
 refine wB' J 3 h (fun h=>?_) fun h=>?_
 ·cases h
  exact wr J 9 func133 []
 refine wO J 3 h fun x8 k h=>eCl (z214_ct N g_ g_.End true _ k) [] [(0,.sl 0),(1,.sl 1),(2,.sl 2),(3,.sl 3)] ?_
 obtain ⟨x9,l,h⟩:=ob h
 refine eCb (z213_ct N x8 (-1) _ l) [] [(0,.sl 6)] [6] (.inr ⟨rfl,trivial⟩) ?_
 cases h
 exact wr J 4 func133 []
theorem z241_ct (N:Nat) (m_:T8) (n_:Int) (r:Bool) (h:z241 N m_ n_=some r) :
 Fn Tryz.prog 241 ⟨3,[.a (cC8 0 1 2 m_),.I n_],(vV8 0 1 2 m_ []),[],3,.O r,[],[]⟩:=by
 refine eFn func241 rfl (fun E F w=>?_)
 unfold z241 at h
 refine wB J 10 h (fun h=>?_) fun h=>?_
 ·cases h
  exact wr J 7 func241 []
 cases h
 exact wr J 7 func241 []
theorem z188_ct (N:Nat) (m_:T8) (r:Bool) (h:z188 N m_=some r) :
 Fn Tryz.prog 188 ⟨3,[.a (cC8 0 1 2 m_)],(vV8 0 1 2 m_ []),[],3,.O r,[],[]⟩:=by
 refine eFn func188 rfl (fun E F w=>?_)
 unfold z188 at h
 refine wB J 12 h (fun h=>?_) fun h=>?_
 ·cases h
  exact wr J 41 func188 []
 refine wB J 5 h (fun h=>?_) fun h=>?_
 ·cases h
  exact wr J 36 func188 []
 refine wB J 5 h (fun h=>?_) fun h=>?_
 ·cases h
  exact wr J 31 func188 []
 refine wB J 5 h (fun h=>?_) fun h=>?_
 ·cases h
  exact wr J 26 func188 []
 refine wO J 3 h fun x1 c h=>eCl (z241_ct N m_ m_.Start _ c) [] [(0,.sl 0),(1,.sl 1),(2,.sl 2)] ?_
 refine wB J 3 h (fun h=>?_) fun h=>?_
 ·cases h
  exact wr J 19 func188 []
 refine wB J 8 h (fun h=>?_) fun h=>?_
 ·cases h
  exact wr J 11 func188 []
 refine wB J 6 h (fun h=>?_) fun h=>wa J 10 (eCut (σ:=Unit) (fun st=>⟨[],[],(vV8 0 1 2 m_ []),4⟩) (fun st=>z188_k1=some r) ?_ (fun j1=>?_))
 ·cases h
  exact wr J 5 func188 []
 ·intro _ h
  replace h:z188_k1=some r:=h
  unfold z188_k1 at h
  cases h
  exact wr J 4 func188 []
 refine wa J 1 (eLoop (σ:=Int) (fun st=>⟨[(1,.B 3 0),(45,.S 1),(46,.I (m_.Moves.length:Int)),(47,.I st)],[(3,.box (cC8 0 1 2 m_) 31)],(vV8 0 1 2 m_ []),4⟩) (fun n st=>z188_l2 N m_ n st) (r:=r) (fun _=>rfl) ?_ (fun ih=>?_))
 ·intro n2 ih3
  intro d h
  replace h:z188_l2 N m_ (n2+1) d=some r:=h
  unfold z188_l2 at h
  refine wB' J 5 h (fun h=>wa J 2 (eSub [] (j1 () h))) fun h=>?_
  refine wO J 6 h fun e f h=>eIx J oO9 f ?_
  refine wO J 9 h fun g i h=>eCl (z241_ct N m_ e.From _ i) [] [(0,.sl 0),(1,.sl 1),(2,.sl 2)] ?_
  refine wB J 2 h (fun h=>?_) fun h=>?_
  ·cases h
   exact wr J 39 func188 []
  refine wO J 3 h fun j k h=>eCl (z241_ct N m_ e.To _ k) [] [(0,.sl 0),(1,.sl 1),(2,.sl 2)] ?_
  refine wB J 3 h (fun h=>?_) fun h=>?_
  ·cases h
   exact wr J 32 func188 []
  refine wB J 5 h (fun h=>?_) fun h=>?_
  ·cases h
   exact wr J 27 func188 []
  refine wB J 5 h (fun h=>?_) fun h=>?_
  ·cases h
   exact wr J 22 func188 []
  refine wB J 7 h (fun h=>?_) fun h=>?_
  ·cases h
   exact wr J 15 func188 []
  refine wB J 5 h (fun h=>?_) fun h=>?_
  ·cases h
   exact wr J 10 func188 []
  refine wB J 5 h (fun h=>?_) fun h=>wa J 7 (eSub [] (ih3 (w64 (d+1)) h))
  cases h
  exact wr J 5 func188 []
 exact eSub [] (ih N 0 h)
section
variable [LxP]
theorem z244_ct (N:Nat) (x_:T9) (r:T14) (h:z244 N x_=some r) :
 Fn Tryz.prog 244 ⟨0,[.a (cC9 x_)],[],[],0,.a (cC14 r),[],[]⟩:=by
 refine eFn func244 rfl (fun E F w=>?_)
 unfold z244 at h
 cases h
 exact wr J 16 func244 []
end
section
variable [LxP]
theorem z270_ct (N:Nat) (x_:Int) (r:Bool) (h:z270 N x_=some r) :
 Fn Tryz.prog 270 ⟨0,[.I x_],[],[],0,.O r,[],[]⟩:=by
 refine eFn func270 rfl (fun E F w=>?_)
 unfold z270 at h
 cases h
 exact wr J 11 func270 []
end
section
variable [LxP]
theorem z232_ct (N:Nat) (x_:Int) (y_:Int) (r:Int) (h:z232 N x_ y_=some r) :
 Fn Tryz.prog 232 ⟨0,[.I x_,.I y_],[],[],0,.I r,[],[]⟩:=by
 refine eFn func232 rfl (fun E F w=>?_)
 unfold z232 at h
 refine wO J 7 h fun x1 c h=>eCl (z270_ct N x_ _ c) [] [] ?_
 refine wO J 5 h fun x2 d h=>eCl (z270_ct N y_ _ d) [] [] ?_
 refine wB J 7 h (fun h=>?_) fun h=>?_
 ·refine wB J 6 h (fun h=>?_) fun h=>?_
  ·cases h
   exact wr J 5 func232 []
  cases h
  exact wr J 6 func232 []
 refine wB J 7 h (fun h=>?_) fun h=>?_
 ·cases h
  exact wr J 5 func232 []
 refine wB J 9 h (fun h=>?_) fun h=>?_
 ·cases h
  exact wr J 5 func232 []
 refine wB J 9 h (fun h=>?_) fun h=>?_
 ·cases h
  exact wr J 5 func232 []
 cases h
 exact wr J 6 func232 []
end
section
variable [LxP]
theorem z231_ct (N:Nat) (vals_:(List Int)) (r:Int) (h:z231 N vals_=some r) :
 Fn Tryz.prog 231 ⟨1,[.S 0],[(0,.sl (rI .i64) vals_)],[],1,.I r,[],[]⟩:=by
 refine eFn func231 rfl (fun E F w=>?_)
 unfold z231 at h
 refine wa J 15 (eCut (σ:=Unit) (fun st=>(zz5 vals_ [(3,.I 0)])) (fun st=>z231_k1=some r) ?_ (fun j1=>?_))
 ·intro _ h
  replace h:z231_k1=some r:=h
  unfold z231_k1 at h
  cases h
  exact wr J 5 func231 []
 refine wa J 1 (eLoop (σ:=Int) (fun st=>(zz5 vals_ [(3,.I 0),(6,.S 0),(7,.I (vals_.length:Int)),(8,.I st)])) (fun n st=>z231_l2 vals_ n st) (r:=r) (fun _=>rfl) ?_ (fun ih=>?_))
 ·intro n2 ih3
  intro c h
  replace h:z231_l2 vals_ (n2+1) c=some r:=h
  unfold z231_l2 at h
  refine wB' J 5 h (fun h=>wa J 2 (eSub [] (j1 () h))) fun h=>?_
  refine wO J 6 h fun x9 d h=>eIx J (oI .i64) d ?_
  refine wB J 9 h (fun h=>?_) fun h=>wa J 7 (eSub [] (ih3 (w64 (c+1)) h))
  cases h
  exact wr J 6 func231 []
 exact eSub [] (ih N 0 h)
end
section
variable [LxP]
theorem z245_ct (N:Nat) (x_:T14) (y_:T14) (r:Int) (h:z245 N x_ y_=some r) :
 Fn Tryz.prog 245 ⟨0,[.a (cC14 x_),.a (cC14 y_)],[],[],0,.I r,[],[]⟩:=by
 refine eFn func245 rfl (fun E F w=>?_)
 unfold z245 at h
 refine wB J 15 h (fun h=>?_) fun h=>?_
 ·refine wB J 7 h (fun h=>?_) fun h=>?_
  ·cases h
   exact wr J 5 func245 []
  cases h
  exact wr J 6 func245 []
 refine wO J 8 h fun x1 c h=>eCl (z232_ct N x_.peer' y_.peer' _ c) [] [] ?_
 refine wO J 4 h fun x2 d h=>eCl (z232_ct N x_.label' y_.label' _ d) [] [] (eBs J [] (oI .i64) ([x1,x2]:List Int) ?_)
 obtain ⟨x3,e,h⟩:=ob h
 refine eCb (z231_ct N ([x1,x2]:List Int) _ e) [] [(0,.sl 2)] [2] (.inr ⟨rfl,trivial⟩) (wa J 1 (eEnd ?_))
 cases h
 exact eRet J func245 []
end
section
variable [LxP]
theorem z243_8_ct (N:Nat) (i_:Int) (k_:Int) (c0_:T8) (r:Int) (h:z243_8 N i_ k_ c0_=some r) :
 Fn Tryz.prog 243 ⟨4,[.I i_,.I k_,.B 0 0],(vV8 1 2 3 c0_ []),[(0,.box (cC8 1 2 3 c0_) 31)],4,.I r,[],[(0,.box (cC8 1 2 3 c0_) 31)]⟩:=by
 refine eFn func243 rfl (fun E F w=>?_)
 unfold z243_8 at h
 refine wO J 9 h fun x1 c h=>eIx J oO9 c ?_
 refine wO J 1 h fun x2 d h=>eCl (z244_ct N x1 _ d) [] [] ?_
 refine wO J 3 h fun x3 e h=>eIx J oO9 e ?_
 refine wO J 1 h fun x4 f h=>eCl (z244_ct N x3 _ f) [] [] ?_
 obtain ⟨x5,g,h⟩:=ob h
 refine eCl (z245_ct N x2 x4 _ g) [] [] (wa J 1 (eEnd ?_))
 cases h
 exact eRet J func243 []
end
theorem z189_ct (N:Nat) (m_:T8) (r:T15) (h:z189 N m_=some r) :
 Fn Tryz.prog 189 ⟨3,[.a (cC8 0 1 2 m_)],(vV8 0 1 2 m_ []),[],8,.B 3 0,(vV15 4 5 6 7 r []),[(3,.box (cC15 4 5 6 7 r) 170)]⟩:=by
 refine eFn func189 rfl (fun E F w=>?_)
 unfold z189 at h
 obtain ⟨us,hus,h⟩:=ob h
 obtain ⟨K,h⟩|⟨K,h⟩:=oc h
 ·cases h
 have hne:us≠[]:=by intro e;rw [e] at K;cases K
 refine wm J (eMk J oNil hus (wm J (eEnd (eGt (rI .i64) 4 hne (fun q=>?_)))))
 refine wm J (eLoop (σ:=List Value × List (List Int) × Int) (fun st=>(zz19 m_ m_.Role m_.States m_.Start (tabR (rI .i64) w.heap.size q.1 q.2 st.1 st.2.1 none) (hdrV q.1 q.2 us.length) [(1,.B 3 0),(3,.B 5 0),(15,.S 1),(16,.I (m_.Moves.length:Int)),(17,.I st.2.2)]))
  (fun n st=>bif Nat.beq st.2.1.length us.length then z189_l1 N m_ n st.2.1 st.2.2 else none) (r:=r) (fun st=>by cases Nat.beq st.2.1.length us.length<;>rfl) ?_ (fun ih=>?_))
 ·intro n1 ih1
  rintro ⟨vs,xss,i⟩ h
  obtain ⟨hl,h⟩:=og h
  replace hl:Nat.beq xss.length us.length=true:=hl
  have hl':=Nat.eq_of_beq_eq_true hl
  replace h:z189_l1 N m_ (n1+1) xss i=some r:=h
  unfold z189_l1 at h
  obtain ⟨K,h⟩|⟨K,h⟩:=oc' h
  ·refine wH J 5 K (wm J (eTn (b:=q.1) (p0:=q.2) (len:=us.length) J (wm J (eLoop (σ:=List (List Int) × Int) (fun st=>(zz19 m_ m_.Role m_.States m_.Start (tabR (rI .i64) w.heap.size q.1 q.2 vs st.1 none) (hdrV q.1 q.2 us.length) [(1,.B 3 0),(3,.B 5 0),(44,.S 4),(45,.I (us.length:Int)),(46,.I st.2)]))
    (fun n st=>bif Nat.beq st.1.length us.length then z189_l2 N m_ n st.1 st.2 else none) (r:=r) (fun st=>by cases Nat.beq st.1.length us.length<;>rfl) ?_ (fun ih=>?_)))))
   ·intro n2 ih2
    rintro ⟨yss,j⟩ h
    obtain ⟨hl,h⟩:=og h
    replace hl:Nat.beq yss.length us.length=true:=hl
    have hl':=Nat.eq_of_beq_eq_true hl
    replace h:z189_l2 N m_ (n2+1) yss j=some r:=h
    unfold z189_l2 at h
    rw [hl'] at h
    obtain ⟨K,h⟩|⟨K,h⟩:=oc' h
    ·cases h
     exact wH J 5 K (eGf (R:=rI .i64) (b:=q.1) (p0:=q.2) (vs:=vs) 4 hl' (wm J (eRet J func189 [(3,.bp 5 0),(4,.sl 0),(5,.sl 1),(6,.sl 2),(7,.sl 4)])))
    obtain ⟨xs,hxs,h⟩:=ob h
    obtain ⟨hk,h⟩:=og h
    unfold machine_sorted_ok at hk
    rw [Bool.and_eq_true,Bool.and_eq_true,decide_eq_true_eq] at hk
    obtain ⟨k1,k2,k3⟩:=hk
    obtain ⟨j1,j2,j3⟩:=idx_ok hxs
    have hn:(decide (0≤j) && decide (j < (us.length:Int)))=true:=by rw [hl'] at j2;simp [j1,j2]
    refine wH J 5 K (eGk (R:=rI .i64) (b:=q.1) (p0:=q.2) (vs:=vs) 4 j3 (wm J (eTx (b:=q.1) (p0:=q.2) (len:=us.length) J hn (eTl (R:=rI .i64) (n1:=w.heap.size) (b:=q.1) (p0:=q.2) (vs:=vs) (xss:=yss) (h:=some j.toNat) 4 6 j.toNat J (wm J (eSr (q:=6) slLays k3 (swo_of k2) (cf:=machine_sorted_cf N m_) ⟨Tryz.f243,func243,rfl,rfl⟩ (fun a b ha hb=>@z243_8_ct LxF N a b m_ (machine_sorted_cf N m_ a b) ?_) [(0,.bp 3 0),(1,.sl 0),(2,.sl 1),(3,.sl 2)] (eGp (R:=rI .i64) (b:=q.1) (p0:=q.2) (vs:=vs) (xss:=yss) (j:=j.toNat) (xs:=sortP (machine_sorted_cf N m_) xs) 4 6 (wm J (eSub [] (ih2 (yss.set j.toNat (sortP (machine_sorted_cf N m_) xs),(w64 (j+1))) ?_))))))))))
    ·have:=List.all_eq_true.1 (List.all_eq_true.1 k1 a ha) b hb
     obtain ⟨z,hz⟩:=Option.isSome_iff_exists.1 this
     unfold machine_sorted_cf
     rw [hz];rfl
    ·show (bif Nat.beq (yss.set j.toNat _).length us.length then _ else none)=some r
     rw [List.length_set,hl]
     exact h
   ·refine eSub [] (ih N (xss,0) ?_)
    show (bif Nat.beq xss.length us.length then _ else none)=some r
    rw [hl];exact h
  refine wH J 5 K ?_
  obtain ⟨x,hx,h⟩:=ob h
  obtain ⟨xs,hxs,h⟩:=ob h
  obtain ⟨ys,hys,h⟩:=ob h
  obtain ⟨j1,j2,j3⟩:=idx_ok hxs
  have hn:(decide (0≤x.From) && decide (x.From < (us.length:Int)))=true:=by rw [hl'] at j2;simp [j1,j2]
  have hj:Nat.blt x.From.toNat xss.length=true:=Nat.ble_eq_true_of_le (by omega)
  refine wm J (eIx J oO9 hx (eGk (R:=rI .i64) (b:=q.1) (p0:=q.2) (vs:=vs) 4 j3 (wm J (eTx (b:=q.1) (p0:=q.2) (len:=us.length) J hn (eTl (R:=rI .i64) (n1:=w.heap.size) (b:=q.1) (p0:=q.2) (vs:=vs) (xss:=xss) (h:=some x.From.toNat) 4 7 x.From.toNat J (wm J (eBs J [] (oI .i64) ([i]:List Int) (eAp J (rI .i64) hys (eTx (b:=q.1) (p0:=q.2) (len:=us.length) J hn (eTt (eTs (R:=rI .i64) (b:=q.1) (p0:=q.2) (vs:=vs) (xss:=xss) (xs:=ys) 4 10 x.From.toNat J hj (fun v=>wm J (eSub [] (ih1 (vs.set x.From.toNat v,xss.set x.From.toNat ys,(w64 (i+1))) ?_))))))))))))))
  show (bif Nat.beq (xss.set x.From.toNat ys).length us.length then _ else none)=some r
  rw [List.length_set,hl]
  exact h
 refine eSub [] (ih N (List.replicate us.length (.slice none 0 0),List.replicate us.length [],0) ?_)
 show (bif Nat.beq (List.replicate us.length []).length us.length then _ else none)=some r
 rw [List.length_replicate,Nat.beq_refl]
 exact h
theorem z190_ct (N:Nat) (t_:T15) (r:Bool) (h:z190 N t_=some r) :
 Fn Tryz.prog 190 ⟨5,[.B 0 0],(vV15 1 2 3 4 t_ []),[(0,.box (cC15 1 2 3 4 t_) 170)],5,.O r,[],[(0,.box (cC15 1 2 3 4 t_) 170)]⟩:=by
 refine eFn func190 rfl (fun E F w=>?_)
 unfold z190 at h
 refine wa J 14 (eCut (σ:=Unit) (fun st=>(zz2 t_ [])) (fun st=>z190_k1=some r) ?_ (fun j1=>?_))
 ·intro _ h
  replace h:z190_k1=some r:=h
  unfold z190_k1 at h
  cases h
  exact wr J 4 func190 []
 refine wa J 1 (eLoop (σ:=Int) (fun st=>(zz2 t_ [(0,.B 0 0),(11,.S 4),(12,.I (t_.out'.length:Int)),(13,.I st)])) (fun n st=>z190_l2 N t_ n st) (r:=r) (fun _=>rfl) ?_ (fun ih=>?_))
 ·intro n12 ih12
  intro c h
  replace h:z190_l2 N t_ (n12+1) c=some r:=h
  unfold z190_l2 at h
  refine wB' J 5 h (fun h=>wa J 2 (eSub [] (j1 () h))) fun h=>?_
  refine wO J 6 h fun d e h=>eIx J (oSl (rI .i64)) e (wa J 7 (eCut (σ:=Unit) (fun st=>⟨[(0,.B 0 0),(11,.S 4),(12,.I (t_.out'.length:Int)),(13,.I c)],[(0,.box (cC15 1 2 3 4 t_) 170)],(vV15 1 2 3 4 t_ []),7⟩) (fun st=>z190_k3 c (z190_l2 N t_ n12)=some r) ?_ (fun j19=>?_)))
  ·intro _ h
   replace h:z190_k3 c (z190_l2 N t_ n12)=some r:=h
   unfold z190_k3 at h
   exact wa J 5 (eSub [] (ih12 (w64 (c+1)) h))
  refine wa J 1 (eLoop (σ:=Int) (fun st=>⟨[(0,.B 0 0),(4,.S 6),(5,.I st),(11,.S 4),(12,.I (t_.out'.length:Int)),(13,.I c)],[(0,.box (cC15 1 2 3 4 t_) 170)],(vV15 1 2 3 4 t_ [(6,.sl (rI .i64) d)]),7⟩) (fun n st=>z190_l4 N t_ c (z190_l2 N t_ n12) d n st) (r:=r) (fun _=>rfl) ?_ (fun ih=>?_))
  ·intro n14 ih21
   intro f h
   replace h:z190_l4 N t_ c (z190_l2 N t_ n12) d (n14+1) f=some r:=h
   unfold z190_l4 at h
   refine wB' J 8 h (fun h=>wa J 2 (eSub [] (j19 () h))) fun h=>?_
   refine wO J 14 h fun g i h=>eIx J (oI .i64) i ?_
   refine wO J 1 h fun j k h=>eIx J oO9 k ?_
   refine wO J 8 h fun l m h=>eIx J (oI .i64) m ?_
   refine wO J 1 h fun o p h=>eIx J oO9 p (wa J 5 (eEnd ?_))
   refine wO J 3 h fun q s h=>eCl (z244_ct N j _ s) [] [] ?_
   refine wO J 1 h fun t u h=>eCl (z244_ct N o _ u) [] [] (eEq ?_)
   refine wB J 1 h (fun h=>wa J 6 (eEnd ?_)) fun h=>wa J 6 (eEnd ?_)
   ·cases h
    exact wr J 5 func190 []
   refine eB h (fun h=>?_) fun h=>wa J 8 (eSub [] (ih21 (w64 (f+1)) h))
   cases h
   exact wr J 5 func190 []
  exact eSub [] (ih N 1 h)
 exact eSub [] (ih N 0 h)
theorem z191_ct (N:Nat) (t_:T15) (r:Bool) (h:z191 N t_=some r) :
 Fn Tryz.prog 191 ⟨5,[.B 0 0],(vV15 1 2 3 4 t_ []),[(0,.box (cC15 1 2 3 4 t_) 170)],5,.O r,[],[(0,.box (cC15 1 2 3 4 t_) 170)]⟩:=by
 refine eFn func191 rfl (fun E F w=>?_)
 unfold z191 at h
 refine wO J 11 h fun x1 c h=>eMk J oB c ?_
 refine wO J 10 h fun x2 d h=>eIo J rB d (eSt J [] oB true d (wa J 8 (eBs J [] (oI .i64) ([t_.Machine.Start]:List Int) (wa J 7 (eCut (σ:=(List Int)) (fun st=>⟨[(0,.B 0 0),(4,.S 8)],[(0,.box (cC15 1 2 3 4 t_) 170),(8,.own (rI .i64) st true)],(vV15 1 2 3 4 t_ []),9⟩) (fun st=>z191_k1 t_ st=some r) ?_ (fun j1=>?_))))))
 ·intro e h
  replace h:z191_k1 t_ e=some r:=h
  unfold z191_k1 at h
  cases h
  exact wr J 12 func191 []
 refine wa J 1 (eLoop (σ:=(List Bool) × (List Int) × Int) (fun st=>⟨[(0,.B 0 0),(3,.S 5),(4,.S 8),(5,.I st.2.2)],[(0,.box (cC15 1 2 3 4 t_) 170),(5,.own rB st.1 true),(8,.own (rI .i64) st.2.1 true)],(vV15 1 2 3 4 t_ []),9⟩) (fun n st=>z191_l2 N t_ n st.1 st.2.1 st.2.2) (r:=r) (fun _=>rfl) ?_ (fun ih=>?_))
 ·intro n12 ih12
  rintro ⟨f,g,i⟩ h
  replace h:z191_l2 N t_ (n12+1) f g i=some r:=h
  unfold z191_l2 at h
  refine wB' J 8 h (fun h=>wa J 2 (eSub [] (j1 g h))) fun h=>?_
  refine wO J 12 h fun j k h=>eIo J (rI .i64) k (eLd J (oI .i64) k ?_)
  obtain ⟨l,m,h⟩:=ob h
  refine eIx J (oSl (rI .i64)) m (wa J 3 (eEnd (eCut (σ:=(List Bool) × (List Int)) (fun st=>⟨[(0,.B 0 0),(3,.S 5),(4,.S 12),(5,.I i)],[(0,.box (cC15 1 2 3 4 t_) 170),(5,.own rB st.1 true),(12,.own (rI .i64) st.2 true)],(vV15 1 2 3 4 t_ []),13⟩) (fun st=>z191_k3 i (z191_l2 N t_ n12) st.1 st.2=some r) ?_ (fun j19=>?_))))
  ·rintro ⟨o,p⟩ h
   replace h:z191_k3 i (z191_l2 N t_ n12) o p=some r:=h
   unfold z191_k3 at h
   exact wa J 6 (eSub [(8,.sl 12)] (ih12 (o,p,(w64 (i+1))) h))
  refine wa J 1 (eLoop (σ:=(List Bool) × (List Int) × Int) (fun st=>⟨[(0,.B 0 0),(3,.S 5),(4,.S 12),(5,.I i),(43,.S 11),(44,.I (l.length:Int)),(45,.I st.2.2)],[(0,.box (cC15 1 2 3 4 t_) 170),(5,.own rB st.1 true),(12,.own (rI .i64) st.2.1 true)],(vV15 1 2 3 4 t_ [(11,.sl (rI .i64) l)]),13⟩) (fun n st=>z191_l4 t_ i (z191_l2 N t_ n12) l n st.1 st.2.1 st.2.2) (r:=r) (fun _=>rfl) ?_ (fun ih=>?_))
  ·intro n14 ih21
   rintro ⟨q,s,t⟩ h
   replace h:z191_l4 t_ i (z191_l2 N t_ n12) l (n14+1) q s t=some r:=h
   unfold z191_l4 at h
   refine wB' J 5 h (fun h=>wa J 2 (eSub [] (j19 (q,s) h))) fun h=>?_
   refine wO J 6 h fun u v h=>eIx J (oI .i64) v ?_
   refine wO J 11 h fun x y h=>eIx J oO9 y ?_
   refine wO J 8 h fun z A h=>eIo J rB A (eLd J oB A ?_)
   refine wB' J 2 h (fun h=>wa J 7 (eSub [] (ih21 (q,s,(w64 (t+1))) h))) fun h=>?_
   refine wO J 5 h fun C D h=>eIo J rB D (eSt J [] oB true D (wa J 4 (eBs J [] (oI .i64) ([x.To]:List Int) ?_)))
   obtain ⟨G,H,h⟩:=ob h
   exact eAp J (rI .i64) H (wa J 7 (eSub [(12,.sl 18)] (ih21 ((setL' q x.To true),G,(w64 (t+1))) h)))
  exact eSub [(12,.sl 8)] (ih N (f,g,0) h)
 exact eSub [(8,.sl 7)] (ih N ((setL' x1 t_.Machine.Start true),([t_.Machine.Start]:List Int),0) h)
theorem z192_ct (N:Nat) (t_:T15) (r:Bool) (h:z192 N t_=some r) :
 Fn Tryz.prog 192 ⟨5,[.B 0 0],(vV15 1 2 3 4 t_ []),[(0,.box (cC15 1 2 3 4 t_) 170)],5,.O r,[],[(0,.box (cC15 1 2 3 4 t_) 170)]⟩:=by
 refine eFn func192 rfl (fun E F w=>?_)
 unfold z192 at h
 refine wa J 15 (eCut (σ:=Unit) (fun st=>(zz2 t_ [])) (fun st=>z192_k1=some r) ?_ (fun j1=>?_))
 ·intro _ h
  replace h:z192_k1=some r:=h
  unfold z192_k1 at h
  cases h
  exact wr J 4 func192 []
 refine wa J 1 (eLoop (σ:=Int) (fun st=>(zz2 t_ [(0,.B 0 0),(11,.S 2),(12,.I (t_.Machine.Moves.length:Int)),(13,.I st)])) (fun n st=>z192_l2 N t_ n st) (r:=r) (fun _=>rfl) ?_ (fun ih=>?_))
 ·intro n12 ih12
  intro c h
  replace h:z192_l2 N t_ (n12+1) c=some r:=h
  unfold z192_l2 at h
  refine wB' J 5 h (fun h=>wa J 2 (eSub [] (j1 () h))) fun h=>?_
  refine wO J 6 h fun d e h=>eIx J oO9 e ?_
  refine wB J 11 h (fun h=>wa J 6 (eSub [] (ih12 (w64 (c+1)) h))) fun h=>?_
  refine wB J 9 h (fun h=>wa J 32 (eEnd ?_)) fun h=>?_
  ·cases h
   exact wr J 5 func192 []
  refine wO J 6 h fun f g h=>eIx J (oSl (rI .i64)) g ?_
  refine wB J 5 h (fun h=>wa J 20 (eEnd ?_)) fun h=>?_
  ·cases h
   exact wr J 5 func192 []
  refine wB J 10 h (fun h=>wa J 10 (eEnd ?_)) fun h=>?_
  ·cases h
   exact wr J 5 func192 []
  refine wO J 7 h fun i j h=>eIx J oB j (wa J 2 (eEnd ?_))
  refine eB h (fun h=>?_) fun h=>wa J 12 (eCut (σ:=Unit) (fun st=>⟨[(0,.B 0 0),(11,.S 2),(12,.I (t_.Machine.Moves.length:Int)),(13,.I c)],[(0,.box (cC15 1 2 3 4 t_) 170)],(vV15 1 2 3 4 t_ []),10⟩) (fun st=>z192_k3 c (z192_l2 N t_ n12)=some r) ?_ (fun j19=>?_))
  ·cases h
   exact wr J 5 func192 []
  ·intro _ h
   replace h:z192_k3 c (z192_l2 N t_ n12)=some r:=h
   unfold z192_k3 at h
   exact wa J 5 (eSub [] (ih12 (w64 (c+1)) h))
  refine wa J 1 (eLoop (σ:=Int) (fun st=>⟨[(0,.B 0 0),(4,.B 6 0),(11,.S 2),(12,.I (t_.Machine.Moves.length:Int)),(13,.I c),(60,.S 2),(61,.I (t_.Machine.Moves.length:Int)),(62,.I st)],[(0,.box (cC15 1 2 3 4 t_) 170),(6,.box (cC9 d) 52)],(vV15 1 2 3 4 t_ []),10⟩) (fun n st=>z192_l4 t_ c (z192_l2 N t_ n12) d n st) (r:=r) (fun _=>rfl) ?_ (fun ih=>?_))
  ·intro n14 ih21
   intro k h
   replace h:z192_l4 t_ c (z192_l2 N t_ n12) d (n14+1) k=some r:=h
   unfold z192_l4 at h
   refine wB' J 5 h (fun h=>wa J 2 (eSub [] (j19 () h))) fun h=>?_
   refine wO J 6 h fun l m h=>eIx J oO9 m ?_
   refine wB' J 12 h (fun h=>wa J 19 (eSub [] (ih21 (w64 (k+1)) h))) fun h=>?_
   refine wB J 4 h (fun h=>?_) fun h=>?_
   ·cases h
    exact wr J 13 func192 []
   refine wB J 8 h (fun h=>?_) fun h=>wa J 7 (eSub [] (ih21 (w64 (k+1)) h))
   cases h
   exact wr J 5 func192 []
  exact eSub [] (ih N 0 h)
 exact eSub [] (ih N 0 h)
theorem z193_ct (N:Nat) (t_:T15) (r:Bool) (h:z193 N t_=some r) :
 Fn Tryz.prog 193 ⟨5,[.B 0 0],(vV15 1 2 3 4 t_ []),[(0,.box (cC15 1 2 3 4 t_) 170)],5,.O r,[],[(0,.box (cC15 1 2 3 4 t_) 170)]⟩:=by
 refine eFn func193 rfl (fun E F w=>?_)
 unfold z193 at h
 refine wa J 15 (eCut (σ:=Unit) (fun st=>(zz2 t_ [])) (fun st=>z193_k1=some r) ?_ (fun j1=>?_))
 ·intro _ h
  replace h:z193_k1=some r:=h
  unfold z193_k1 at h
  cases h
  exact wr J 4 func193 []
 refine wa J 1 (eLoop (σ:=Int) (fun st=>(zz2 t_ [(0,.B 0 0),(10,.S 3),(11,.I (t_.Machine.Timeouts.length:Int)),(12,.I st)])) (fun n st=>z193_l2 t_ n st) (r:=r) (fun _=>rfl) ?_ (fun ih=>?_))
 ·intro n2 ih6
  intro c h
  replace h:z193_l2 t_ (n2+1) c=some r:=h
  unfold z193_l2 at h
  refine wB' J 5 h (fun h=>wa J 2 (eSub [] (j1 () h))) fun h=>?_
  refine wO J 7 h fun d e h=>eIx J oO11 e ?_
  refine wa J 11 (eCut (σ:=Bool) (fun st=>⟨[(0,.B 0 0),(4,.B 6 0),(10,.S 3),(11,.I (t_.Machine.Timeouts.length:Int)),(12,.I c),(59,.O st)],[(0,.box (cC15 1 2 3 4 t_) 170),(6,.box (cC11 d) 54)],(vV15 1 2 3 4 t_ []),7⟩) (fun st=>z193_k3 t_ c (z193_l2 t_ n2) d st=some r) ?_ (fun j9=>?_))
  ·intro f h
   replace h:z193_k3 t_ c (z193_l2 t_ n2) d f=some r:=h
   unfold z193_k3 at h
   refine eB h (fun h=>?_) fun h=>?_
   ·cases h
    exact wr J 5 func193 []
   refine wO J 11 h fun g i h=>eIx J oO9 i (wa J 3 (eEnd ?_))
   refine wB J 8 h (fun h=>?_) fun h=>?_
   ·cases h
    exact wr J 14 func193 []
   refine wB J 5 h (fun h=>?_) fun h=>?_
   ·cases h
    exact wr J 9 func193 []
   refine wB J 4 h (fun h=>?_) fun h=>wa J 7 (eSub [] (ih6 (w64 (c+1)) h))
   cases h
   exact wr J 5 func193 []
  refine eB' h (fun h=>?_) fun h=>?_
  ·refine wB J 20 h (fun h=>wa J 20 (eEnd (eSub [] (j9 true h)))) fun h=>?_
   refine wB J 5 h (fun h=>wa J 15 (eEnd (eSub [] (j9 true h)))) fun h=>?_
   exact wB J 5 h (fun h=>wa J 10 (eEnd (eSub [] (j9 true h)))) fun h=>wa J 10 (eEnd (eSub [] (j9 (decide (d.Else≥(t_.Machine.Moves.length:Int))) h)))
  refine wO J 7 h fun j k h=>eIx J oO11 k ?_
  refine wB J 7 h (fun h=>wa J 25 (eEnd (eSub [] (j9 true h)))) fun h=>?_
  refine wB J 5 h (fun h=>wa J 20 (eEnd (eSub [] (j9 true h)))) fun h=>?_
  refine wB J 5 h (fun h=>wa J 15 (eEnd (eSub [] (j9 true h)))) fun h=>?_
  exact wB J 5 h (fun h=>wa J 10 (eEnd (eSub [] (j9 true h)))) fun h=>wa J 10 (eEnd (eSub [] (j9 (decide (d.Else≥(t_.Machine.Moves.length:Int))) h)))
 exact eSub [] (ih N 0 h)
theorem z107_ct (N:Nat) (m_:T8) (r:(Option T15) × Bool) (h:z107 N m_=some r) :
 Fn Tryz.prog 107 ⟨3,[.a (cC8 0 1 2 m_)],(vV8 0 1 2 m_ []),[],8,(optC r.1 (.t [.inl (.v (.pointer none)),.inl (.b r.2)]) fun q=>.t [.inl (.bp 3 0),.inl (.b r.2)]),(optC r.1 [] fun q=>(vV15 4 5 6 7 q [])),(optC r.1 [] fun q=>[(3,.box (cC15 4 5 6 7 q) 170)])⟩:=by
 refine eFn func107 rfl (fun E F w=>?_)
 unfold z107 at h
 refine wO J 10 h fun x1 c h=>eCl (z188_ct N m_ _ c) [] [(0,.sl 0),(1,.sl 1),(2,.sl 2)] ?_
 refine wB J 2 h (fun h=>?_) fun h=>?_
 ·cases h
  exact wr J 6 func107 []
 refine wO J 5 h fun x2 d h=>eCl (z189_ct N m_ _ d) [] [(0,.sl 0),(1,.sl 1),(2,.sl 2)] ?_
 refine wO J 6 h fun x3 e h=>eCl (z190_ct N x2 _ e) [] [(0,.bp 4 0),(1,.sl 5),(2,.sl 6),(3,.sl 7),(4,.sl 8)] ?_
 refine wB' J 1 h (fun h=>?_) fun h=>?_
 ·cases h
  exact wr J 14 func107 [(3,.bp 4 0),(4,.sl 5),(5,.sl 6),(6,.sl 7),(7,.sl 8)]
 refine wO J 1 h fun x4 f h=>eCl (z191_ct N x2 _ f) [] [(0,.bp 4 0),(1,.sl 5),(2,.sl 6),(3,.sl 7),(4,.sl 8)] ?_
 refine wB' J 2 h (fun h=>?_) fun h=>?_
 ·cases h
  exact wr J 10 func107 [(3,.bp 4 0),(4,.sl 5),(5,.sl 6),(6,.sl 7),(7,.sl 8)]
 refine wO J 1 h fun x5 g h=>eCl (z192_ct N x2 _ g) [] [(0,.bp 4 0),(1,.sl 5),(2,.sl 6),(3,.sl 7),(4,.sl 8)] ?_
 refine wB' J 2 h (fun h=>?_) fun h=>?_
 ·cases h
  exact wr J 6 func107 [(3,.bp 4 0),(4,.sl 5),(5,.sl 6),(6,.sl 7),(7,.sl 8)]
 refine wO J 1 h fun x6 i h=>eCl (z193_ct N x2 _ i) [] [(0,.bp 4 0),(1,.sl 5),(2,.sl 6),(3,.sl 7),(4,.sl 8)] ?_
 cases h
 exact wr J 4 func107 [(3,.bp 4 0),(4,.sl 5),(5,.sl 6),(6,.sl 7),(7,.sl 8)]
theorem machine_open_ctn (N:Nat) (m_:T8) (r:(Option T15) × Bool) (h:z107 N m_=some r) (ho:r.1=none):Fn Tryz.prog 107 ⟨3,[.a (cC8 0 1 2 m_)],(vV8 0 1 2 m_ []),[],8,.t [.inl (.v (.pointer none)),.inl (.b r.2)],[],[]⟩:=by
 have hf:=z107_ct N m_ r h
 rw [ho] at hf
 exact hf
theorem machine_open_cts (N:Nat) (m_:T8) (r:(Option T15) × Bool) (h:z107 N m_=some r) (q:T15) (ho:r.1=some q):Fn Tryz.prog 107 ⟨3,[.a (cC8 0 1 2 m_)],(vV8 0 1 2 m_ []),[],8,.t [.inl (.bp 3 0),.inl (.b r.2)],(vV15 4 5 6 7 q []),[(3,.box (cC15 4 5 6 7 q) 170)]⟩:=by
 have hf:=z107_ct N m_ r h
 rw [ho] at hf
 exact hf
theorem z134_ct (N:Nat) (m_:T8) (r:Bool) (h:z134 N m_=some r) :
 Fn Tryz.prog 134 ⟨3,[.a (cC8 0 1 2 m_)],(vV8 0 1 2 m_ []),[],3,.O r,[],[]⟩:=by
 refine eFn func134 rfl (fun E F w=>?_)
 unfold z134 at h
 obtain ⟨x1,c,h⟩:=ob h
 rcases oO h with ⟨ox1,h⟩ | ⟨q2,ox1,h⟩
 ·refine wa J 8 (eCl (machine_open_ctn N m_ _ c ox1) [] [(0,.sl 0),(1,.sl 1),(2,.sl 2)] ?_)
  cases h
  exact wr J 11 func134 []
 refine wa J 8 (eCl (machine_open_cts N m_ _ c q2 ox1) [] [(0,.sl 0),(1,.sl 1),(2,.sl 2)] ?_)
 cases h
 exact wr J 11 func134 []
theorem z132_9_ct (N:Nat) (x_:T9) (c0_:T5) (r:Bool) (h:z132_9 N x_ c0_=some r) :
 Fn Tryz.prog 132 ⟨5,[.a (cC9 x_),.B 0 0],(vV5 1 2 3 4 c0_ []),[(0,.box (cC5 1 2 3 4 c0_) 27)],5,.O r,[],[(0,.box (cC5 1 2 3 4 c0_) 27)]⟩:=by
 refine eFn func132 rfl (fun E F w=>?_)
 unfold z132_9 at h
 refine wB J 14 h (fun h=>?_) fun h=>?_
 ·cases h
  exact wr J 9 func132 []
 cases h
 exact wr J 9 func132 []
theorem z92_10_ct (N:Nat) (s_:(List T9)) (c0_:T5) (r:Int) (h:z92_10 N s_ c0_=some r) :
 Fn Tryz.prog 92 ⟨6,[.S 0,.c (.cl 132 [] [1])],((0,.sl rR9 s_)::vV5 2 3 4 5 c0_ []),[(1,.box (cC5 2 3 4 5 c0_) 27)],6,.I r,[],[(1,.box (cC5 2 3 4 5 c0_) 27)]⟩:=by
 refine eFn func92 rfl (fun E F w=>?_)
 unfold z92_10 at h
 refine wa J 11 (eCut (σ:=Unit) (fun st=>⟨[],[(1,.box (cC5 2 3 4 5 c0_) 27)],((0,.sl rR9 s_)::vV5 2 3 4 5 c0_ []),6⟩) (fun st=>z92_10_k1=some r) ?_ (fun j1=>?_))
 ·intro _ h
  replace h:z92_10_k1=some r:=h
  unfold z92_10_k1 at h
  cases h
  exact wr J 4 func92 []
 refine wa J 1 (eLoop (σ:=Int) (fun st=>⟨[(0,.S 0),(1,.c (.cl 132 [] [1])),(7,.I (s_.length:Int)),(8,.I st)],[(1,.box (cC5 2 3 4 5 c0_) 27)],((0,.sl rR9 s_)::vV5 2 3 4 5 c0_ []),6⟩) (fun n st=>z92_10_l2 N s_ c0_ n st) (r:=r) (fun _=>rfl) ?_ (fun ih=>?_))
 ·intro n2 ih3
  intro d h
  replace h:z92_10_l2 N s_ c0_ (n2+1) d=some r:=h
  unfold z92_10_l2 at h
  refine wB' J 5 h (fun h=>wa J 2 (eSub [] (j1 () h))) fun h=>?_
  refine wO J 14 h fun e f h=>eIx J oO9 f ?_
  refine wO J 1 h fun g i h=>eCl (z132_9_ct N e c0_ _ i) [] [(0,.bp 1 0),(1,.sl 2),(2,.sl 3),(3,.sl 4),(4,.sl 5)] ?_
  refine wB J 1 h (fun h=>?_) fun h=>wa J 7 (eSub [] (ih3 (w64 (d+1)) h))
  cases h
  exact wr J 6 func92 []
 exact eSub [] (ih N 0 h)
theorem z135_11_ct (N:Nat) (s_:(List T9)) (c0_:T5) (r:Bool) (h:z135_11 N s_ c0_=some r) :
 Fn Tryz.prog 135 ⟨6,[.S 0,.c (.cl 132 [] [1])],((0,.sl rR9 s_)::vV5 2 3 4 5 c0_ []),[(1,.box (cC5 2 3 4 5 c0_) 27)],6,.O r,[],[(1,.box (cC5 2 3 4 5 c0_) 27)]⟩:=by
 refine eFn func135 rfl (fun E F w=>?_)
 unfold z135_11 at h
 refine wO J 8 h fun x1 d h=>eCl (z92_10_ct N s_ c0_ _ d) [] [(0,.sl 0),(1,.bp 1 0),(2,.sl 2),(3,.sl 3),(4,.sl 4),(5,.sl 5)] ?_
 cases h
 exact wr J 3 func135 []
theorem z60_ct (N:Nat) (g_:T5) (m_:T8) (r:Bool) (h:z60 N g_ m_=some r) :
 Fn Tryz.prog 60 ⟨7,[.a (cC5 0 1 2 3 g_),.a (cC8 4 5 6 m_)],((0,.sl rS g_.Roles)::(1,.sl rR0 g_.Decls)::(2,.sl rR2 g_.Edges)::(3,.sl rR11 g_.Timeouts)::vV8 4 5 6 m_ []),[],7,.O r,[],[]⟩:=by
 refine eFn func60 rfl (fun E F w=>?_)
 unfold z60 at h
 refine wO J 14 h fun x1 c h=>eCl (z133_ct N g_ _ c) [] [(0,.sl 0),(1,.sl 1),(2,.sl 2),(3,.sl 3)] ?_
 refine wB' J 1 h (fun h=>?_) fun h=>?_
 ·cases h
  exact wr J 20 func60 []
 refine wO J 1 h fun x2 d h=>eCl (z134_ct N m_ _ d) [] [(0,.sl 4),(1,.sl 5),(2,.sl 6)] ?_
 refine wB' J 2 h (fun h=>?_) fun h=>?_
 ·cases h
  exact wr J 16 func60 []
 refine wB' J 8 h (fun h=>?_) fun h=>?_
 ·cases h
  exact wr J 8 func60 []
 refine wO J 3 h fun x3 e h=>eCl (z135_11_ct N m_.Moves g_ _ e) [] [(0,.sl 5),(1,.bp 7 0),(2,.sl 0),(3,.sl 1),(4,.sl 2),(5,.sl 3)] ?_
 cases h
 exact wr J 4 func60 []
theorem z61_ct (N:Nat) (g_:T5) (r:(List T4)) (h:z61 N g_=some r) :
 Fn Tryz.prog 61 ⟨4,[.a (cC5 0 1 2 3 g_)],(vV5 0 1 2 3 g_ []),[],5,.S 4,[],[(4,.own rR4 r true)]⟩:=by
 refine eFn func61 rfl (fun E F w=>?_)
 unfold z61 at h
 refine wa J 17 (eCut (σ:=(List T4)) (fun st=>⟨[(3,.S 5)],[(5,.own rR4 st true)],(vV5 0 1 2 3 g_ []),6⟩) (fun st=>z61_k1 st=some r) ?_ (fun j1=>?_))
 ·intro c h
  replace h:z61_k1 c=some r:=h
  unfold z61_k1 at h
  cases h
  exact wr J 5 func61 [(4,.sl 5)]
 refine wa J 1 (eLoop (σ:=(List T4) × Int) (fun st=>⟨[(3,.S 5),(7,.S 1),(8,.I (g_.Decls.length:Int)),(9,.I st.2)],[(5,.own rR4 st.1 true)],(vV5 0 1 2 3 g_ []),6⟩) (fun n st=>z61_l2 g_ n st.1 st.2) (r:=r) (fun _=>rfl) ?_ (fun ih=>?_))
 ·intro n2 ih3
  rintro ⟨d,e⟩ h
  replace h:z61_l2 g_ (n2+1) d e=some r:=h
  unfold z61_l2 at h
  refine wB' J 5 h (fun h=>wa J 2 (eSub [] (j1 d h))) fun h=>?_
  refine wO J 6 h fun f g h=>eIx J oO0 g ?_
  exact wO J 8 h fun i j h=>eAp J rR4 j (wa J 7 (eSub [(5,.sl 11)] (ih3 (i,(w64 (e+1))) h)))
 exact eSub [(5,.nil)] (ih N (([]:List T4),0) h)
theorem z24_ct (N:Nat) (g_:T5) (m_:T8) (r:T16) (h:z24 N g_ m_=some r) :
 Fn Tryz.prog 24 ⟨7,[.a (cC5 0 1 2 3 g_),.a (cC8 4 5 6 m_)],((0,.sl rS g_.Roles)::(1,.sl rR0 g_.Decls)::(2,.sl rR2 g_.Edges)::(3,.sl rR11 g_.Timeouts)::vV8 4 5 6 m_ []),[],9,.a (cC16 7 8 r),(vV16 7 8 r []),[]⟩:=by
 refine eFn func24 rfl (fun E F w=>?_)
 unfold z24 at h
 refine wO J 11 h fun x1 c h=>eCl (z60_ct N g_ m_ _ c) [] [(0,.sl 0),(1,.sl 1),(2,.sl 2),(3,.sl 3),(4,.sl 4),(5,.sl 5),(6,.sl 6)] ?_
 refine wB J 2 h (fun h=>?_) fun h=>?_
 ·cases h
  exact wr J 6 func24 [(7,.nil),(8,.nil)]
 refine wO J 7 h fun x2 d h=>eCl (z61_ct N g_ _ d) [] [(0,.sl 0),(1,.sl 1),(2,.sl 2),(3,.sl 3)] ?_
 refine wO J 1 h fun x3 e h=>eMk J oO12 e (wa J 2 (eEnd (eFr [11] ?_)))
 cases h
 exact eRet J func24 [(7,.sl 11),(8,.nil)]
theorem z167_ct (N:Nat) (v_:T12) (r:Int) (h:z167 N v_=some r) :
 Fn Tryz.prog 167 ⟨0,[.a (cC12 v_)],[],[],0,.I r,[],[]⟩:=by
 refine eFn func167 rfl (fun E F w=>?_)
 unfold z167 at h
 refine wB J 17 h (fun h=>?_) fun h=>?_
 ·cases h
  exact wr J 7 func167 []
 refine wB J 6 h (fun h=>?_) fun h=>?_
 ·cases h
  exact wr J 8 func167 []
 cases h
 exact wr J 7 func167 []
theorem z168_ct (N:Nat) (s_:T10) (r:Bool) (h:z168 N s_=some r) :
 Fn Tryz.prog 168 ⟨0,[.a (cC10 s_)],[],[],0,.O r,[],[]⟩:=by
 refine eFn func168 rfl (fun E F w=>?_)
 unfold z168 at h
 refine wa J 22 (eCut (σ:=Int × Int) (fun st=>⟨[(1,.B 0 0),(3,.I st.1),(4,.I st.2)],[(0,.box (cC10 s_) 66)],[],1⟩) (fun st=>z168_k1 s_ st.1 st.2=some r) ?_ (fun j1=>?_))
 ·rintro ⟨c,d⟩ h
  replace h:z168_k1 s_ c d=some r:=h
  unfold z168_k1 at h
  refine wB' J 8 h (fun h=>?_) fun h=>?_
  ·cases h
   exact wr J 14 func168 []
  refine wB J 7 h (fun h=>?_) fun h=>?_
  ·cases h
   exact wr J 7 func168 []
  cases h
  exact wr J 7 func168 []
 refine eB h (fun h=>wa J 5 (eSub [] (j1 ((-1000),1000) h))) fun h=>?_
 refine wB J 6 h (fun h=>wa J 5 (eSub [] (j1 (0,40) h))) fun h=>?_
 cases h
 exact wr J 5 func168 []
theorem z269_ct (N:Nat) (c_:Int) (r:Bool) (h:z269 N c_=some r) :
 Fn Tryz.prog 269 ⟨0,[.c (.i .i32 c_)],[],[],0,.O r,[],[]⟩:=by
 refine eFn func269 rfl (fun E F w=>?_)
 unfold z269 at h
 refine wB J 9 h (fun h=>?_) fun h=>?_
 ·cases h
  exact wr J 5 func269 []
 cases h
 exact wr J 5 func269 []
theorem z294_12_ct (N:Nat) (s_:ByteArray) (truth_:Bool) (r:Int) (h:z294_12 N s_ truth_=some r) :
 Fn Tryz.prog 294 ⟨0,[.c (.s s_),.c (.cl 269 [] []),.O truth_],[],[],0,.I r,[],[]⟩:=by
 refine eFn func294 rfl (fun E F w=>?_)
 unfold z294_12 at h
 refine wa J 8 (eRn J (fun bk1=>wa J 1 (eCut (σ:=Nat) (fun st=>(zz1 (itR bk1 s_ st) [])) (fun st=>z294_12_k1 st=some r) ?_ (fun j1=>?_))))
 ·intro vi0_1 h
  replace h:z294_12_k1 vi0_1=some r:=h
  unfold z294_12_k1 at h
  cases h
  exact wr J 4 func294 []
 refine wa J 1 (eLoop (σ:=Nat) (fun st=>(zz1 (itR bk1 s_ st) [(1,.c (.cl 269 [] [])),(2,.O truth_),(10,.c (.v (.pointer (some ⟨bk1,0,none⟩))))])) (fun n st=>z294_12_l2 N s_ truth_ n st) (r:=r) (fun _=>rfl) ?_ (fun ih=>?_))
 ·intro n2 ih3
  intro vi0_3 h
  replace h:z294_12_l2 N s_ truth_ (n2+1) vi0_3=some r:=h
  unfold z294_12_l2 at h
  obtain ⟨K,h⟩|⟨K,h⟩:=oc' h
  ·exact wa J 2 (eNf bk1 0 K (wa J 5 (eSub [] (j1 vi0_3 h))))
  refine wa J 2 (eNt bk1 0 K ?_)
  refine wO J 17 h fun d e h=>eCl (z269_ct N ((Utf8.decode s_ vi0_3).1:Int) _ e) [] [] ?_
  refine wB J 3 h (fun h=>?_) fun h=>wa J 3 (eSub [] (ih3 (vi0_3+(Utf8.decode s_ vi0_3).2) h))
  cases h
  exact wr J 6 func294 []
 exact eSub [] (ih N (0:Nat) h)
theorem z275_13_ct (N:Nat) (s_:ByteArray) (r:Int) (h:z275_13 N s_=some r) :
 Fn Tryz.prog 275 ⟨0,[.c (.s s_),.c (.cl 269 [] [])],[],[],0,.I r,[],[]⟩:=by
 refine eFn func275 rfl (fun E F w=>?_)
 unfold z275_13 at h
 refine wO J 8 h fun x1 d h=>eCl (z294_12_ct N s_ true _ d) [] [] ?_
 cases h
 exact wr J 2 func275 []
theorem z246_14_ct (N:Nat) (s_:ByteArray) (r:Bool) (h:z246_14 N s_=some r) :
 Fn Tryz.prog 246 ⟨0,[.c (.s s_),.c (.cl 269 [] [])],[],[],0,.O r,[],[]⟩:=by
 refine eFn func246 rfl (fun E F w=>?_)
 unfold z246_14 at h
 refine wO J 8 h fun x1 d h=>eCl (z275_13_ct N s_ _ d) [] [] ?_
 cases h
 exact wr J 3 func246 []
theorem z230_ct (N:Nat) (s_:ByteArray) (r:Bool) (h:z230 N s_=some r) :
 Fn Tryz.prog 230 ⟨0,[.c (.s s_)],[],[],0,.O r,[],[]⟩:=by
 refine eFn func230 rfl (fun E F w=>?_)
 unfold z230 at h
 refine wO J 7 h fun x1 d h=>eCl (z246_14_ct N s_ _ d) [] [] ?_
 cases h
 exact wr J 3 func230 []
theorem z169_ct (N:Nat) (v_:T12) (r:Bool) (h:z169 N v_=some r) :
 Fn Tryz.prog 169 ⟨0,[.a (cC12 v_)],[],[],0,.O r,[],[]⟩:=by
 refine eFn func169 rfl (fun E F w=>?_)
 unfold z169 at h
 refine wB J 17 h (fun h=>?_) fun h=>?_
 ·refine wB' J 7 h (fun h=>?_) fun h=>?_
  ·cases h
   exact wr J 11 func169 []
  refine wB J 5 h (fun h=>?_) fun h=>?_
  ·cases h
   exact wr J 6 func169 []
  cases h
  exact wr J 6 func169 []
 refine wB' J 6 h (fun h=>?_) fun h=>?_
 ·cases h
  exact wr J 7 func169 []
 refine wB' J 7 h (fun h=>?_) fun h=>?_
 ·cases h
  exact wr J 12 func169 []
 refine wB' J 6 h (fun h=>?_) fun h=>?_
 ·cases h
  exact wr J 6 func169 []
 refine wO J 2 h fun x1 c h=>eCl (z230_ct N v_.S _ c) [] [] ?_
 cases h
 exact wr J 3 func169 []
theorem z90_ct (N:Nat) (s_:T10) (v_:T12) (r:Bool) (h:z90 N s_ v_=some r) :
 Fn Tryz.prog 90 ⟨0,[.a (cC10 s_),.a (cC12 v_)],[],[],0,.O r,[],[]⟩:=by
 refine eFn func90 rfl (fun E F w=>?_)
 unfold z90 at h
 refine wO J 9 h fun x1 c h=>eCl (z167_ct N v_ _ c) [] [] ?_
 refine wO J 5 h fun x2 d h=>eCl (z168_ct N s_ _ d) [] [] ?_
 refine wB' J 1 h (fun h=>?_) fun h=>?_
 ·cases h
  exact wr J 24 func90 []
 refine wO J 1 h fun x3 e h=>eCl (z169_ct N v_ _ e) [] [] ?_
 refine wB' J 2 h (fun h=>?_) fun h=>?_
 ·cases h
  exact wr J 20 func90 []
 refine wB' J 7 h (fun h=>?_) fun h=>?_
 ·cases h
  exact wr J 13 func90 []
 refine wB J 6 h (fun h=>?_) fun h=>?_
 ·cases h
  exact wr J 7 func90 []
 cases h
 exact wr J 7 func90 []
theorem z89_ct (N:Nat) (f_:T4) (v_:T12) (r:Bool) (h:z89 N f_ v_=some r) :
 Fn Tryz.prog 89 ⟨0,[.a (cC4 f_),.a (cC12 v_)],[],[],0,.O r,[],[]⟩:=by
 refine eFn func89 rfl (fun E F w=>?_)
 unfold z89 at h
 refine wa J 10 (eEq ?_)
 refine wB J 1 h (fun h=>?_) fun h=>?_
 ·cases h
  exact wr J 7 func89 []
 refine wO J 3 h fun x1 c h=>eCl (z90_ct N f_.Sort' v_ _ c) [] [] ?_
 cases h
 exact wr J 3 func89 []
theorem z91_15_ct (N:Nat) (s1_:(List T4)) (s2_:(List T12)) (r:Bool) (h:z91_15 N s1_ s2_=some r) :
 Fn Tryz.prog 91 ⟨2,[.S 0,.S 1,.c (.cl 89 [] [])],[(0,.sl rR4 s1_),(1,.sl rR12 s2_)],[],2,.O r,[],[]⟩:=by
 refine eFn func91 rfl (fun E F w=>?_)
 unfold z91_15 at h
 refine wB J 13 h (fun h=>?_) fun h=>wa J 9 (eCut (σ:=Unit) (fun st=>(zz3 s1_ s2_ [])) (fun st=>z91_15_k1=some r) ?_ (fun j1=>?_))
 ·cases h
  exact wr J 5 func91 []
 ·intro _ h
  replace h:z91_15_k1=some r:=h
  unfold z91_15_k1 at h
  cases h
  exact wr J 4 func91 []
 refine wa J 1 (eLoop (σ:=Int) (fun st=>(zz3 s1_ s2_ [(1,.S 1),(2,.c (.cl 89 [] [])),(15,.S 0),(16,.I (s1_.length:Int)),(17,.I st)])) (fun n st=>z91_15_l2 N s1_ s2_ n st) (r:=r) (fun _=>rfl) ?_ (fun ih=>?_))
 ·intro n2 ih3
  intro d h
  replace h:z91_15_l2 N s1_ s2_ (n2+1) d=some r:=h
  unfold z91_15_l2 at h
  refine wB' J 5 h (fun h=>wa J 2 (eSub [] (j1 () h))) fun h=>?_
  refine wO J 7 h fun e f h=>eIx J oO4 f ?_
  refine wO J 9 h fun g i h=>eIx J oO12 i ?_
  refine wO J 9 h fun j k h=>eCl (z89_ct N e g _ k) [] [] ?_
  refine wB J 2 h (fun h=>?_) fun h=>wa J 7 (eSub [] (ih3 (w64 (d+1)) h))
  cases h
  exact wr J 5 func91 []
 exact eSub [] (ih N 0 h)
theorem z46_ct (N:Nat) (g_:T5) (m_:T8) (s_:T16) (r:Bool) (h:z46 N g_ m_ s_=some r) :
 Fn Tryz.prog 46 ⟨9,[.a (cC5 0 1 2 3 g_),.a (cC8 4 5 6 m_),.a (cC16 7 8 s_)],((0,.sl rS g_.Roles)::(1,.sl rR0 g_.Decls)::(2,.sl rR2 g_.Edges)::(3,.sl rR11 g_.Timeouts)::(4,.sl rB m_.Finals)::(5,.sl rR9 m_.Moves)::(6,.sl rR11 m_.Timeouts)::vV16 7 8 s_ []),[],9,.O r,[],[]⟩:=by
 refine eFn func46 rfl (fun E F w=>?_)
 unfold z46 at h
 refine wO J 15 h fun x1 c h=>eCl (z60_ct N g_ m_ _ c) [] [(0,.sl 0),(1,.sl 1),(2,.sl 2),(3,.sl 3),(4,.sl 4),(5,.sl 5),(6,.sl 6)] ?_
 refine wB' J 1 h (fun h=>wa J 20 (eEnd ?_)) fun h=>?_
 ·cases h
  exact eRet J func46 []
 refine wB' J 5 h (fun h=>wa J 15 (eEnd ?_)) fun h=>?_
 ·cases h
  exact eRet J func46 []
 refine wB' J 7 h (fun h=>wa J 8 (eEnd ?_)) fun h=>?_
 ·cases h
  exact eRet J func46 []
 refine wO J 1 h fun x2 d h=>eCl (z61_ct N g_ _ d) [] [(0,.sl 0),(1,.sl 1),(2,.sl 2),(3,.sl 3)] ?_
 refine wO J 3 h fun x3 e h=>eCb (z91_15_ct N x2 s_.Known _ e) [] [(0,.sl 12),(1,.sl 7)] [12] (.inr ⟨rfl,trivial⟩) (wa J 2 (eEnd ?_))
 cases h
 exact eRet J func46 []
theorem z30_ct (N:Nat) (g_:T5) (m_:T8) (r:Bool) (h:z30 N g_ m_=some r) :
 Fn Tryz.prog 30 ⟨7,[.a (cC5 0 1 2 3 g_),.a (cC8 4 5 6 m_)],((0,.sl rS g_.Roles)::(1,.sl rR0 g_.Decls)::(2,.sl rR2 g_.Edges)::(3,.sl rR11 g_.Timeouts)::vV8 4 5 6 m_ []),[],7,.O r,[],[]⟩:=by
 refine eFn func30 rfl (fun E F w=>?_)
 unfold z30 at h
 refine wO J 12 h fun x1 c h=>eCl (z24_ct N g_ m_ _ c) [] [(0,.sl 0),(1,.sl 1),(2,.sl 2),(3,.sl 3),(4,.sl 4),(5,.sl 5),(6,.sl 6)] ?_
 obtain ⟨x2,d,h⟩:=ob h
 refine eCl (z46_ct N g_ m_ x1 _ d) [] [(0,.sl 0),(1,.sl 1),(2,.sl 2),(3,.sl 3),(4,.sl 4),(5,.sl 5),(6,.sl 6),(7,.sl 9),(8,.sl 10)] (wa J 1 (eEnd ?_))
 cases h
 exact eRet J func30 []
theorem z53_ct (N:Nat) (m_:T8) (state_:Int) (r:(List Int)) (h:z53 N m_ state_=some r) :
 Fn Tryz.prog 53 ⟨3,[.a (cC8 0 1 2 m_),.I state_],(vV8 0 1 2 m_ []),[],4,.S 3,[(3,.sl (rI .i64) r)],[]⟩:=by
 refine eFn func53 rfl (fun E F w=>?_)
 unfold z53 at h
 obtain ⟨x1,c,h⟩:=ob h
 rcases oO h with ⟨ox1,h⟩ | ⟨q2,ox1,h⟩
 ·refine wa J 8 (eCl (machine_open_ctn N m_ _ c ox1) [] [(0,.sl 0),(1,.sl 1),(2,.sl 2)] ?_)
  refine wB J 12 h (fun h=>?_) fun h=>?_
  ·cases h
   exact wr J 15 func53 [(3,.nil)]
  refine wB J 4 h (fun h=>?_) fun h=>?_
  ·cases h
   exact wr J 11 func53 [(3,.nil)]
  refine wB J 6 h (fun h=>?_) fun h=>?_
  ·cases h
   exact wr J 5 func53 [(3,.nil)]
  cases h
 refine wa J 8 (eCl (machine_open_cts N m_ _ c q2 ox1) [] [(0,.sl 0),(1,.sl 1),(2,.sl 2)] ?_)
 refine wB J 12 h (fun h=>?_) fun h=>?_
 ·cases h
  exact wr J 15 func53 [(3,.nil)]
 refine wB J 4 h (fun h=>?_) fun h=>?_
 ·cases h
  exact wr J 11 func53 [(3,.nil)]
 refine wB J 6 h (fun h=>?_) fun h=>?_
 ·cases h
  exact wr J 5 func53 [(3,.nil)]
 refine wO J 9 h fun x3 d h=>eIx J (oSl (rI .i64)) d ?_
 cases h
 exact wr J 3 func53 [(3,.sl 10)]
theorem z65_ct (N:Nat) (i_:Int) (r:ByteArray) (h:z65 N i_=some r):Fn Tryz.prog 65 ⟨1,[.I i_],[],[(0,.abs powT)],1,.c (.s r),[],[(0,.abs powT)]⟩:=by
 unfold z65 at h
 cases hb:(decide ((-9223372036854775808)≤i_) && decide (i_≤9223372036854775807)) with
 | false=>rw [hb] at h;cases h
 | true =>
  rw [hb] at h
  simp only [cond_true,Option.some.injEq] at h
  subst h
  simp only [Bool.and_eq_true,decide_eq_true_eq] at hb
  exact itoa_fn i_ hb.1 hb.2
theorem z38_ct (N:Nat) (f_:T4) (r:ByteArray) (h:z38 N f_=some r) :
 Fn Tryz.prog 38 ⟨1,[.a (cC4 f_)],[],[(0,.abs powT)],1,.c (.s r),[],[(0,.abs powT)]⟩:=by
 refine eFn func38 rfl (fun E F w=>?_)
 unfold z38 at h
 refine wa J 17 (eCut (σ:=ByteArray) (fun st=>⟨[(1,.B 1 0),(3,.c (.s st))],[(0,.abs powT),(1,.box (cC4 f_) 68)],[],2⟩) (fun st=>z38_k1 N f_ st=some r) ?_ (fun j1=>?_))
 ·intro d h
  replace h:z38_k1 N f_ d=some r:=h
  unfold z38_k1 at h
  refine wO J 4 h fun x1 e h=>eCa e ?_
  refine wO J 1 h fun x2 f h=>eCa f ?_
  obtain ⟨x3,g,h⟩:=ob h
  refine eCa g ?_
  refine wO J 3 h fun x4 i h=>eCl (z65_ct N f_.Sort'.Lo _ i) [] [(0,.sl 0)] ?_
  obtain ⟨x5,j,h⟩:=ob h
  refine eCa j ?_
  obtain ⟨x6,k,h⟩:=ob h
  refine eCa k ?_
  refine wO J 3 h fun x7 l h=>eCl (z65_ct N f_.Sort'.Hi _ l) [] [(0,.sl 0)] ?_
  obtain ⟨x8,m,h⟩:=ob h
  refine eCa m (wa J 1 (eEnd ?_))
  cases h
  exact eRet J func38 []
 exact eB h (fun h=>wa J 4 (eSub [] (j1 (str [116,101,120,116]) h))) fun h=>wa J 2 (eSub [] (j1 (str [105,110,116]) h))
theorem z152_ct (N:Nat) (decls_:(List T0)) (x_:Int) (r:T0 × T4 × Bool) (h:z152 N decls_ x_=some r) :
 Fn Tryz.prog 152 ⟨1,[.S 0,.I x_],[(0,.sl rR0 decls_)],[],4,.t [.inr (cC0 1 2 3 r.1),.inr (cC4 r.2.1),.inl (.b r.2.2)],(vV0 1 2 3 r.1 []),[]⟩:=by
 refine eFn func152 rfl (fun E F w=>?_)
 unfold z152 at h
 refine wa J 13 (eCut (σ:=Unit) (fun st=>(zz20 decls_ [(4,.B 1 0),(5,.B 2 0)])) (fun st=>z152_k1=some r) ?_ (fun j1=>?_))
 ·intro _ h
  replace h:z152_k1=some r:=h
  unfold z152_k1 at h
  cases h
  exact wr J 8 func152 [(1,.nil),(2,.nil),(3,.nil)]
 refine wa J 1 (eLoop (σ:=Int × Int) (fun st=>(zz20 decls_ [(1,.I st.1),(4,.B 1 0),(5,.B 2 0),(9,.S 0),(10,.I (decls_.length:Int)),(11,.I st.2)])) (fun n st=>z152_l2 decls_ n st.1 st.2) (r:=r) (fun _=>rfl) ?_ (fun ih=>?_))
 ·intro n2 ih3
  rintro ⟨c,d⟩ h
  replace h:z152_l2 decls_ (n2+1) c d=some r:=h
  unfold z152_l2 at h
  refine wB' J 5 h (fun h=>wa J 2 (eSub [] (j1 () h))) fun h=>?_
  refine wO J 6 h fun e f h=>eIx J oO0 f ?_
  refine wB' J 10 h (fun h=>wa J 22 (eSub [] (ih3 ((w64 (c-(e.Fields.length:Int))),(w64 (d+1))) h))) fun h=>?_
  refine wB' J 7 h (fun h=>wa J 15 (eSub [] (ih3 ((w64 (c-(e.Fields.length:Int))),(w64 (d+1))) h))) fun h=>?_
  refine wO J 7 h fun g i h=>eIx J oO4 i (wa J 4 (eEnd ?_))
  cases h
  exact eRet J func152 [(1,.sl 4),(2,.sl 5),(3,.sl 6)]
 exact eSub [] (ih N (x_,0) h)
theorem z74_ct (N:Nat) (decls_:(List T0)) (x_:Int) (r:ByteArray) (h:z74 N decls_ x_=some r) :
 Fn Tryz.prog 74 ⟨1,[.S 0,.I x_],[(0,.sl rR0 decls_)],[],1,.c (.s r),[],[]⟩:=by
 refine eFn func74 rfl (fun E F w=>?_)
 unfold z74 at h
 refine wO J 8 h fun x1 d h=>eCl (z152_ct N decls_ x_ _ d) [] [(0,.sl 0)] ?_
 refine wO J 14 h fun x2 e h=>eCa e ?_
 refine wO J 2 h fun x3 f h=>eCa f ?_
 cases h
 exact wr J 2 func74 []
theorem z151_ct (N:Nat) (decls_:(List T0)) (x_:Int) (r:ByteArray) (h:z151 N decls_ x_=some r) :
 Fn Tryz.prog 151 ⟨1,[.S 0,.I x_],[(0,.sl rR0 decls_)],[],1,.c (.s r),[],[]⟩:=by
 refine eFn func151 rfl (fun E F w=>?_)
 unfold z151 at h
 refine wO J 9 h fun x1 d h=>eCl (z152_ct N decls_ x_ _ d) [] [(0,.sl 0)] ?_
 refine wB' J 17 h (fun h=>?_) fun h=>?_
 ·refine wO J 6 h fun x5 e h=>eCl (z74_ct N decls_ x_ _ e) [] [(0,.sl 0)] ?_
  cases h
  exact wr J 2 func151 []
 refine wO J 5 h fun x2 f h=>eCl (z74_ct N decls_ x_ _ f) [] [(0,.sl 0)] ?_
 obtain ⟨x3,g,h⟩:=ob h
 refine eCa g ?_
 obtain ⟨x4,i,h⟩:=ob h
 refine eCa i ?_
 cases h
 exact wr J 2 func151 []
theorem z73_ct (N:Nat) (decls_:(List T0)) (d_:T1) (r:ByteArray) (h:z73 N decls_ d_=some r) :
 Fn Tryz.prog 73 ⟨2,[.S 0,.a (cC1 d_)],[(0,.sl rR0 decls_)],[(1,.abs powT)],2,.c (.s r),[],[(1,.abs powT)]⟩:=by
 refine eFn func73 rfl (fun E F w=>?_)
 unfold z73 at h
 refine wa J 13 (eCut (σ:=Bool) (fun st=>⟨[(0,.S 0),(3,.B 2 0),(6,.O st)],[(1,.abs powT),(2,.box (cC1 d_) 128)],[(0,.sl rR0 decls_)],3⟩) (fun st=>z73_k1 N decls_ d_ st=some r) ?_ (fun j1=>?_))
 ·intro d h
  replace h:z73_k1 N decls_ d_ d=some r:=h
  unfold z73_k1 at h
  refine eB h (fun h=>?_) fun h=>?_
  ·refine wO J 5 h fun x1 e h=>eCl (z65_ct N d_.C _ e) [] [(0,.sl 1)] ?_
   obtain ⟨x2,f,h⟩:=ob h
   refine eCa f ?_
   cases h
   exact wr J 2 func73 []
  refine wB J 8 h (fun h=>?_) fun h=>?_
  ·refine wO J 6 h fun x3 g h=>eCl (z151_ct N decls_ d_.X _ g) [] [(0,.sl 0)] ?_
   obtain ⟨x4,i,h⟩:=ob h
   refine eCa i ?_
   refine wO J 2 h fun x5 j h=>eCl (z65_ct N d_.C _ j) [] [(0,.sl 1)] ?_
   obtain ⟨x6,k,h⟩:=ob h
   refine eCa k (wa J 1 (eEnd ?_))
   cases h
   exact eRet J func73 []
  refine wB J 8 h (fun h=>?_) fun h=>?_
  ·refine wO J 6 h fun x7 l h=>eCl (z151_ct N decls_ d_.Y _ l) [] [(0,.sl 0)] ?_
   obtain ⟨x8,m,h⟩:=ob h
   refine eCa m ?_
   refine wO J 3 h fun x9 o h=>eCl (z65_ct N (w64 (0-d_.C)) _ o) [] [(0,.sl 1)] ?_
   obtain ⟨p,q,h⟩:=ob h
   refine eCa q (wa J 1 (eEnd ?_))
   cases h
   exact eRet J func73 []
  refine wO J 8 h fun t u h=>eCl (z151_ct N decls_ d_.X _ u) [] [(0,.sl 0)] ?_
  obtain ⟨v,x,h⟩:=ob h
  refine eCa x ?_
  refine wO J 3 h fun y z h=>eCl (z151_ct N decls_ d_.Y _ z) [] [(0,.sl 0)] ?_
  obtain ⟨A,D,h⟩:=ob h
  refine eCa D (wa J 1 (eEnd ?_))
  refine wB J 9 h (fun h=>?_) fun h=>?_
  ·refine wO J 4 h fun G H h=>eCa H ?_
   refine wO J 2 h fun R T h=>eCl (z65_ct N d_.C _ T) [] [(0,.sl 1)] ?_
   obtain ⟨U,Z,h⟩:=ob h
   refine eCa Z ?_
   cases h
   exact wr J 2 func73 []
  refine wB' J 8 h (fun h=>?_) fun h=>?_
  ·cases h
   exact wr J 8 func73 []
  refine wO J 4 h fun a0 b0 h=>eCa b0 ?_
  refine wO J 3 h fun c0 d0 h=>eCl (z65_ct N (w64 (0-d_.C)) _ d0) [] [(0,.sl 1)] ?_
  obtain ⟨e0,f0,h⟩:=ob h
  refine eCa f0 ?_
  cases h
  exact wr J 2 func73 []
 exact eB h (fun h=>wa J 6 (eSub [] (j1 (decide (d_.Y < 0)) h))) fun h=>wa J 6 (eSub [] (j1 false h))
theorem z39_ct (N:Nat) (decls_:(List T0)) (label_:Int) (part_:Int) (r:ByteArray) (h:z39 N decls_ label_ part_=some r) :
 Fn Tryz.prog 39 ⟨2,[.S 0,.I label_,.I part_],[(0,.sl rR0 decls_)],[(1,.abs powT)],2,.c (.s r),[],[(1,.abs powT)]⟩:=by
 refine eFn func39 rfl (fun E F w=>?_)
 unfold z39 at h
 refine wO J 9 h fun x1 d h=>eCl (z37_ct N decls_ label_ _ d) [] [(0,.sl 0)] ?_
 refine wB J 11 h (fun h=>?_) fun h=>?_
 ·cases h
  exact wr J 9 func39 []
 refine wB J 4 h (fun h=>?_) fun h=>?_
 ·cases h
  exact wr J 5 func39 []
 refine wO J 6 h fun x2 e h=>eIx J oO0 e ?_
 refine wB J 14 h (fun h=>?_) fun h=>?_
 ·refine wO J 7 h fun x3 f h=>eIx J oO1 f ?_
  refine wO J 1 h fun x4 g h=>eCl (z73_ct N decls_ x3 _ g) [] [(0,.sl 0),(1,.sl 1)] ?_
  cases h
  exact wr J 2 func39 []
 refine wB' J 20 h (fun h=>?_) fun h=>?_
 ·cases h
  exact wr J 6 func39 []
 refine wO J 7 h fun x5 i h=>eIx J (oP (oI .i64) (oI .i64)) i (eAq 0 rfl ?_)
 refine wO J 1 h fun x6 j h=>eCl (z74_ct N decls_ x5.1 _ j) [] [(0,.sl 0)] ?_
 obtain ⟨x7,k,h⟩:=ob h
 refine eCa k ?_
 refine wO J 4 h fun x8 l h=>eIx J (oP (oI .i64) (oI .i64)) l (eAq 1 rfl ?_)
 refine wO J 1 h fun x9 m h=>eCl (z74_ct N decls_ x8.2 _ m) [] [(0,.sl 0)] ?_
 obtain ⟨o,p,h⟩:=ob h
 refine eCa p (wa J 1 (eEnd ?_))
 cases h
 exact eRet J func39 []
theorem z40_ct (N:Nat) (elems_:List ByteArray) (sep_:ByteArray) (r:ByteArray) (h:z40 N elems_ sep_=some r):Fn Tryz.prog 40 ⟨1,[.S 0,.c (.s sep_)],[(0,.sl rS elems_)],[],1,.c (.s r),[],[]⟩:=by
  unfold z40 at h
  cases hb:(decide (elems_.length≤140737488355328) && decide ((joinL sep_.data.toList (elems_.map (·.data.toList))).length≤140737488355328)) with
  | false=>rw [hb] at h;cases h
  | true =>
    rw [hb] at h
    simp only [cond_true,Option.some.injEq] at h
    subst h
    simp only [Bool.and_eq_true,decide_eq_true_eq] at hb
    exact join_fn elems_ sep_ hb.1 hb.2
theorem z13_ct (N:Nat) (decls_:(List T0)) (label_:Int) (r:ByteArray) (h:z13 N decls_ label_=some r) :
 Fn Tryz.prog 13 ⟨2,[.S 0,.I label_],[(0,.sl rR0 decls_)],[(1,.abs powT)],2,.c (.s r),[],[(1,.abs powT)]⟩:=by
 refine eFn func13 rfl (fun E F w=>?_)
 unfold z13 at h
 refine wO J 9 h fun x1 d h=>eCl (z37_ct N decls_ label_ _ d) [] [(0,.sl 0)] ?_
 refine wB J 11 h (fun h=>?_) fun h=>?_
 ·cases h
  exact wr J 5 func13 []
 refine wO J 6 h fun x2 e h=>eIx J oO0 e (wa J 17 (eCut (σ:=(List ByteArray)) (fun st=>(zz21 powT x2 st decls_ [(0,.S 0),(1,.I label_),(7,.B 7 0),(8,.S 8),(9,.c .nil)])) (fun st=>z13_k3 N decls_ label_ x2 st=some r) ?_ (fun j1=>?_)))
 ·intro f h
  replace h:z13_k3 N decls_ label_ x2 f=some r:=h
  unfold z13_k3 at h
  refine wa J 14 (eCut (σ:=(List ByteArray)) (fun st=>(zz22 powT x2 f st decls_ [(7,.B 7 0),(8,.S 8),(9,.S 9)])) (fun st=>z13_k1 N x2 f st=some r) ?_ (fun j3=>?_))
  ·intro g h
   replace h:z13_k1 N x2 f g=some r:=h
   unfold z13_k1 at h
   refine wO J 4 h fun i j h=>eCa j ?_
   refine wO J 1 h fun k l h=>eCb (z40_ct N f (str [44,32]) _ l) [] [(0,.sl 8)] [8] (.inr ⟨rfl,trivial⟩) ?_
   obtain ⟨m,o,h⟩:=ob h
   refine eCa o ?_
   obtain ⟨p,q,h⟩:=ob h
   refine eCa q (wa J 1 (eEnd ?_))
   refine wB' J 7 h (fun h=>?_) fun h=>?_
   ·cases h
    exact wr J 7 func13 []
   refine wO J 4 h fun t u h=>eCb (z40_ct N g (str [32,97,110,100,32]) _ u) [] [(0,.sl 9)] [9] (.inr ⟨rfl,trivial⟩) ?_
   obtain ⟨v,x,h⟩:=ob h
   refine eCa x ?_
   obtain ⟨y,z,h⟩:=ob h
   refine eCa z ?_
   cases h
   exact wr J 7 func13 []
  refine wa J 1 (eLoop (σ:=(List ByteArray) × Int) (fun st=>(zz22 powT x2 f st.1 decls_ [(0,.S 0),(1,.I label_),(7,.B 7 0),(8,.S 8),(9,.S 9),(47,.I (w64 ((x2.Guard.Diffs.length:Int)+(x2.Guard.Equals.length:Int)))),(48,.I st.2)])) (fun n st=>z13_l2 N decls_ label_ x2 f n st.1 st.2) (r:=r) (fun _=>rfl) ?_ (fun ih=>?_))
  ·intro n3 ih5
   rintro ⟨A,C⟩ h
   replace h:z13_l2 N decls_ label_ x2 f (n3+1) A C=some r:=h
   unfold z13_l2 at h
   refine wB' J 5 h (fun h=>wa J 2 (eSub [] (j3 A h))) fun h=>?_
   refine wO J 14 h fun D G h=>eCl (z39_ct N decls_ label_ C _ G) [] [(0,.sl 0),(1,.sl 1)] (eBs J [] oS ([D]:List ByteArray) ?_)
   obtain ⟨H,R,h⟩:=ob h
   exact eAp J rS R (wa J 7 (eSub [(9,.sl 11)] (ih5 (H,(w64 (C+1))) h)))
  exact eSub [(9,.nil)] (ih N (([]:List ByteArray),0) h)
 refine wa J 1 (eLoop (σ:=(List ByteArray) × Int) (fun st=>(zz21 powT x2 st.1 decls_ [(0,.S 0),(1,.I label_),(7,.B 7 0),(8,.S 8),(9,.c .nil),(27,.S 4),(28,.I (x2.Fields.length:Int)),(29,.I st.2)])) (fun n st=>z13_l4 N decls_ label_ x2 n st.1 st.2) (r:=r) (fun _=>rfl) ?_ (fun ih=>?_))
 ·intro n4 ih6
  rintro ⟨T,U⟩ h
  replace h:z13_l4 N decls_ label_ x2 (n4+1) T U=some r:=h
  unfold z13_l4 at h
  refine wB' J 5 h (fun h=>wa J 2 (eSub [] (j1 T h))) fun h=>?_
  refine wO J 6 h fun X Y h=>eIx J oO4 Y ?_
  refine wO J 7 h fun Z a0 h=>eCl (z38_ct N X _ a0) [] [(0,.sl 1)] (eBs J [] oS ([Z]:List ByteArray) ?_)
  obtain ⟨b0,c0,h⟩:=ob h
  exact eAp J rS c0 (wa J 7 (eSub [(8,.sl 12)] (ih6 (b0,(w64 (U+1))) h)))
 exact eSub [(8,.nil)] (ih N (([]:List ByteArray),0) h)
theorem z137_16_ct (N:Nat) (t_:T11) (c0_:Int) (r:Bool) (h:z137_16 N t_ c0_=some r) :
 Fn Tryz.prog 137 ⟨1,[.a (cC11 t_),.B 0 0],[],[(0,.box [.I c0_] 3)],1,.O r,[],[(0,.box [.I c0_] 3)]⟩:=by
 refine eFn func137 rfl (fun E F w=>?_)
 unfold z137_16 at h
 cases h
 exact wr J 13 func137 []
theorem z136_17_ct (N:Nat) (s_:(List T11)) (c0_:Int) (r:Int) (h:z136_17 N s_ c0_=some r) :
 Fn Tryz.prog 136 ⟨2,[.S 0,.c (.cl 137 [] [1])],[(0,.sl rR11 s_)],[(1,.box [.I c0_] 3)],2,.I r,[],[(1,.box [.I c0_] 3)]⟩:=by
 refine eFn func136 rfl (fun E F w=>?_)
 unfold z136_17 at h
 refine wa J 11 (eCut (σ:=Unit) (fun st=>⟨[],[(1,.box [.I c0_] 3)],[(0,.sl rR11 s_)],2⟩) (fun st=>z136_17_k1=some r) ?_ (fun j1=>?_))
 ·intro _ h
  replace h:z136_17_k1=some r:=h
  unfold z136_17_k1 at h
  cases h
  exact wr J 4 func136 []
 refine wa J 1 (eLoop (σ:=Int) (fun st=>⟨[(0,.S 0),(1,.c (.cl 137 [] [1])),(7,.I (s_.length:Int)),(8,.I st)],[(1,.box [.I c0_] 3)],[(0,.sl rR11 s_)],2⟩) (fun n st=>z136_17_l2 N s_ c0_ n st) (r:=r) (fun _=>rfl) ?_ (fun ih=>?_))
 ·intro n2 ih3
  intro d h
  replace h:z136_17_l2 N s_ c0_ (n2+1) d=some r:=h
  unfold z136_17_l2 at h
  refine wB' J 5 h (fun h=>wa J 2 (eSub [] (j1 () h))) fun h=>?_
  refine wO J 14 h fun e f h=>eIx J oO11 f ?_
  refine wO J 1 h fun g i h=>eCl (z137_16_ct N e c0_ _ i) [] [(0,.bp 1 0)] ?_
  refine wB J 1 h (fun h=>?_) fun h=>wa J 7 (eSub [] (ih3 (w64 (d+1)) h))
  cases h
  exact wr J 6 func136 []
 exact eSub [] (ih N 0 h)
theorem z64_ct (N:Nat) (m_:T8) (state_:Int) (r:T11 × Bool) (h:z64 N m_ state_=some r) :
 Fn Tryz.prog 64 ⟨3,[.a (cC8 0 1 2 m_),.I state_],(vV8 0 1 2 m_ []),[],3,.t [.inr (cC11 r.1),.inl (.b r.2)],[],[]⟩:=by
 refine eFn func64 rfl (fun E F w=>?_)
 unfold z64 at h
 refine wO J 11 h fun x1 c h=>eCl (z134_ct N m_ _ c) [] [(0,.sl 0),(1,.sl 1),(2,.sl 2)] ?_
 refine wB J 2 h (fun h=>?_) fun h=>?_
 ·cases h
  exact wr J 7 func64 []
 refine wO J 7 h fun x2 d h=>eCl (z136_17_ct N m_.Timeouts state_ _ d) [] [(0,.sl 2),(1,.bp 4 0)] ?_
 refine wB J 8 h (fun h=>?_) fun h=>?_
 ·cases h
  exact wr J 7 func64 []
 refine wO J 7 h fun x3 e h=>eIx J oO11 e ?_
 cases h
 exact wr J 4 func64 []
theorem z31_ct (N:Nat) (g_:T5) (m_:T8) (state_:Int) (r:(List ByteArray)) (h:z31 N g_ m_ state_=some r) :
 Fn Tryz.prog 31 ⟨8,[.a (cC5 0 1 2 3 g_),.a (cC8 4 5 6 m_),.I state_],((0,.sl rS g_.Roles)::(1,.sl rR0 g_.Decls)::(2,.sl rR2 g_.Edges)::(3,.sl rR11 g_.Timeouts)::vV8 4 5 6 m_ []),[(7,.abs powT)],9,.S 8,[],[(8,.own rS r true),(7,.abs powT)]⟩:=by
 refine eFn func31 rfl (fun E F w=>?_)
 unfold z31 at h
 refine wO J 15 h fun x1 c h=>eCl (z53_ct N m_ state_ _ c) [] [(0,.sl 4),(1,.sl 5),(2,.sl 6)] (wa J 3 (eCut (σ:=(List ByteArray)) (fun st=>⟨[(2,.I state_),(3,.B 8 0),(4,.B 9 0),(7,.S 11)],[(7,.abs powT),(8,.box (cC5 0 1 2 3 g_) 27),(9,.box (cC8 4 5 6 m_) 31),(11,.own rS st true)],((0,.sl rS g_.Roles)::(1,.sl rR0 g_.Decls)::(2,.sl rR2 g_.Edges)::(3,.sl rR11 g_.Timeouts)::vV8 4 5 6 m_ []),12⟩) (fun st=>z31_k1 N g_ m_ state_ st=some r) ?_ (fun j1=>?_)))
 ·intro d h
  replace h:z31_k1 N g_ m_ state_ d=some r:=h
  unfold z31_k1 at h
  refine wO J 5 h fun e f h=>eCl (z64_ct N m_ state_ _ f) [] [(0,.sl 4),(1,.sl 5),(2,.sl 6)] ?_
  refine wB' J 11 h (fun h=>?_) fun h=>?_
  ·refine wO J 8 h fun g i h=>eIx J oB i ?_
   refine wB' J 2 h (fun h=>?_) fun h=>wa J 3 (eBs J [] oS ([(str [116,104,101,32,101,110,100])]:List ByteArray) ?_)
   ·cases h
    exact wr J 7 func31 [(8,.sl 11)]
   obtain ⟨j,k,h⟩:=ob h
   refine eAp J rS k ?_
   cases h
   exact wr J 7 func31 [(8,.sl 15)]
  refine wO J 7 h fun l m h=>eIx J oO9 m ?_
  refine wO J 8 h fun o p h=>eCl (z65_ct N e.1.Ticks _ p) [] [(0,.sl 7)] ?_
  obtain ⟨q,s,h⟩:=ob h
  refine eCa s ?_
  obtain ⟨t,u,h⟩:=ob h
  refine eCa u ?_
  refine wO J 4 h fun v x h=>eIx J oO0 x ?_
  refine wO J 2 h fun y z h=>eCa z ?_
  obtain ⟨A,C,h⟩:=ob h
  refine eCa C ?_
  refine wO J 4 h fun D G h=>eIx J oS G ?_
  refine wO J 1 h fun H R h=>eCa R (eBs J [] oS ([H]:List ByteArray) ?_)
  obtain ⟨T,U,h⟩:=ob h
  refine eAp J rS U (wa J 1 (eEnd ?_))
  refine wO J 6 h fun X Y h=>eIx J oB Y ?_
  refine wB' J 2 h (fun h=>?_) fun h=>wa J 3 (eBs J [] oS ([(str [116,104,101,32,101,110,100])]:List ByteArray) ?_)
  ·cases h
   exact wr J 7 func31 [(8,.sl 21)]
  obtain ⟨Z,a0,h⟩:=ob h
  refine eAp J rS a0 ?_
  cases h
  exact wr J 7 func31 [(8,.sl 24)]
 refine wa J 1 (eLoop (σ:=(List ByteArray) × Int) (fun st=>⟨[(2,.I state_),(3,.B 8 0),(4,.B 9 0),(7,.S 11),(17,.S 10),(18,.I (x1.length:Int)),(19,.I st.2)],[(7,.abs powT),(8,.box (cC5 0 1 2 3 g_) 27),(9,.box (cC8 4 5 6 m_) 31),(11,.own rS st.1 true)],((0,.sl rS g_.Roles)::(1,.sl rR0 g_.Decls)::(2,.sl rR2 g_.Edges)::(3,.sl rR11 g_.Timeouts)::vV8 4 5 6 m_ [(10,.sl (rI .i64) x1)]),12⟩) (fun n st=>z31_l2 N g_ m_ state_ x1 n st.1 st.2) (r:=r) (fun _=>rfl) ?_ (fun ih=>?_))
 ·intro n2 ih3
  rintro ⟨b0,c0⟩ h
  replace h:z31_l2 N g_ m_ state_ x1 (n2+1) b0 c0=some r:=h
  unfold z31_l2 at h
  refine wB' J 5 h (fun h=>wa J 2 (eSub [] (j1 b0 h))) fun h=>?_
  refine wO J 6 h fun d0 e0 h=>eIx J (oI .i64) e0 ?_
  refine wO J 8 h fun f0 g0 h=>eIx J oO9 g0 ?_
  refine wO J 10 h fun i0 j0 h=>eIx J oS j0 ?_
  refine wB J 10 h (fun h=>?_) fun h=>?_
  ·refine wO J 7 h fun k0 l0 h=>eIx J oO0 l0 ?_
   refine wO J 2 h fun m0 o0 h=>eCa o0 ?_
   obtain ⟨p0,q0,h⟩:=ob h
   refine eCa q0 ?_
   refine wO J 1 h fun s0 t0 h=>eCa t0 (eBs J [] oS ([s0]:List ByteArray) ?_)
   obtain ⟨u0,v0,h⟩:=ob h
   exact eAp J rS v0 (wa J 8 (eSub [(11,.sl 21)] (ih3 (u0,(w64 (c0+1))) h)))
  refine wB J 7 h (fun h=>?_) fun h=>?_
  ·refine wO J 7 h fun x0 y0 h=>eCl (z13_ct N g_.Decls f0.Label _ y0) [] [(0,.sl 1),(1,.sl 7)] ?_
   obtain ⟨z0,A0,h⟩:=ob h
   refine eCa A0 ?_
   obtain ⟨B0,C0,h⟩:=ob h
   refine eCa C0 ?_
   refine wO J 1 h fun D0 G0 h=>eCa G0 (eBs J [] oS ([D0]:List ByteArray) ?_)
   obtain ⟨H0,I0,h⟩:=ob h
   exact eAp J rS I0 (wa J 8 (eSub [(11,.sl 17)] (ih3 (H0,(w64 (c0+1))) h)))
  refine wO J 7 h fun L0 M0 h=>eCl (z13_ct N g_.Decls f0.Label _ M0) [] [(0,.sl 1),(1,.sl 7)] ?_
  obtain ⟨O0,R0,h⟩:=ob h
  refine eCa R0 ?_
  obtain ⟨S0,T0,h⟩:=ob h
  refine eCa T0 ?_
  refine wO J 1 h fun U0 V0 h=>eCa V0 (eBs J [] oS ([U0]:List ByteArray) ?_)
  obtain ⟨X0,Y0,h⟩:=ob h
  exact eAp J rS Y0 (wa J 8 (eSub [(11,.sl 17)] (ih3 (X0,(w64 (c0+1))) h)))
 exact eSub [(11,.nil)] (ih N (([]:List ByteArray),0) h)
theorem z10_ct (N:Nat) (g_:T5) (m_:T8) (state_:Int) (r:(List ByteArray) × Int) (h:z10 N g_ m_ state_=some r) :
 Fn Tryz.prog 10 ⟨8,[.a (cC5 0 1 2 3 g_),.a (cC8 4 5 6 m_),.I state_],((0,.sl rS g_.Roles)::(1,.sl rR0 g_.Decls)::(2,.sl rR2 g_.Edges)::(3,.sl rR11 g_.Timeouts)::vV8 4 5 6 m_ []),[(7,.abs powT)],9,.t [.inl (.sl 8),.inl (.I r.2)],[],[(8,.own rS r.1 true),(7,.abs powT)]⟩:=by
 refine eFn func10 rfl (fun E F w=>?_)
 unfold z10 at h
 refine wO J 12 h fun x1 c h=>eCl (z30_ct N g_ m_ _ c) [] [(0,.sl 0),(1,.sl 1),(2,.sl 2),(3,.sl 3),(4,.sl 4),(5,.sl 5),(6,.sl 6)] ?_
 refine wB J 2 h (fun h=>?_) fun h=>?_
 ·cases h
  exact wr J 16 func10 [(8,.nil)]
 refine wB J 4 h (fun h=>?_) fun h=>?_
 ·cases h
  exact wr J 12 func10 [(8,.nil)]
 refine wB J 6 h (fun h=>?_) fun h=>?_
 ·cases h
  exact wr J 6 func10 [(8,.nil)]
 refine wO J 7 h fun x2 d h=>eCl (z31_ct N g_ m_ state_ _ d) [] [(0,.sl 0),(1,.sl 1),(2,.sl 2),(3,.sl 3),(4,.sl 4),(5,.sl 5),(6,.sl 6),(7,.sl 7)] ?_
 cases h
 exact wr J 3 func10 [(8,.sl 10)]
theorem z93_18_ct (N:Nat) (y_:T9) (c0_:T16) (c1_:T3) (r:Bool) (h:z93_18 N y_ c0_ c1_=some r) :
 Fn Tryz.prog 93 ⟨5,[.a (cC9 y_),.B 0 0,.B 3 0],(vV16 1 2 c0_ [(4,.sl rR12 c1_.Values)]),[(0,.box (cC16 1 2 c0_) 48),(3,.box (cC3 4 c1_) 46)],5,.O r,[],[(0,.box (cC16 1 2 c0_) 48),(3,.box (cC3 4 c1_) 46)]⟩:=by
 refine eFn func93 rfl (fun E F w=>?_)
 unfold z93_18 at h
 refine wB' J 13 h (fun h=>?_) fun h=>?_
 ·cases h
  exact wr J 22 func93 []
 refine wB' J 7 h (fun h=>?_) fun h=>?_
 ·cases h
  exact wr J 15 func93 []
 refine wB J 7 h (fun h=>?_) fun h=>?_
 ·cases h
  exact wr J 8 func93 []
 cases h
 exact wr J 8 func93 []
theorem z92_19_ct (N:Nat) (s_:(List T9)) (c0_:T16) (c1_:T3) (r:Int) (h:z92_19 N s_ c0_ c1_=some r) :
 Fn Tryz.prog 92 ⟨6,[.S 0,.c (.cl 93 [] [1,4])],((0,.sl rR9 s_)::vV16 2 3 c0_ [(5,.sl rR12 c1_.Values)]),[(1,.box (cC16 2 3 c0_) 48),(4,.box (cC3 5 c1_) 46)],6,.I r,[],[(1,.box (cC16 2 3 c0_) 48),(4,.box (cC3 5 c1_) 46)]⟩:=by
 refine eFn func92 rfl (fun E F w=>?_)
 unfold z92_19 at h
 refine wa J 11 (eCut (σ:=Unit) (fun st=>(zz23 c0_ c1_ s_ c1_.Values [])) (fun st=>z92_19_k1=some r) ?_ (fun j1=>?_))
 ·intro _ h
  replace h:z92_19_k1=some r:=h
  unfold z92_19_k1 at h
  cases h
  exact wr J 4 func92 []
 refine wa J 1 (eLoop (σ:=Int) (fun st=>(zz23 c0_ c1_ s_ c1_.Values [(0,.S 0),(1,.c (.cl 93 [] [1,4])),(7,.I (s_.length:Int)),(8,.I st)])) (fun n st=>z92_19_l2 N s_ c0_ c1_ n st) (r:=r) (fun _=>rfl) ?_ (fun ih=>?_))
 ·intro n2 ih3
  intro d h
  replace h:z92_19_l2 N s_ c0_ c1_ (n2+1) d=some r:=h
  unfold z92_19_l2 at h
  refine wB' J 5 h (fun h=>wa J 2 (eSub [] (j1 () h))) fun h=>?_
  refine wO J 14 h fun e f h=>eIx J oO9 f ?_
  refine wO J 1 h fun g i h=>eCl (z93_18_ct N e c0_ c1_ _ i) [] [(0,.bp 1 0),(1,.sl 2),(2,.sl 3),(3,.bp 4 0),(4,.sl 5)] ?_
  refine wB J 1 h (fun h=>?_) fun h=>wa J 7 (eSub [] (ih3 (w64 (d+1)) h))
  cases h
  exact wr J 6 func92 []
 exact eSub [] (ih N 0 h)
theorem z170_ct (N:Nat) (f_:T4) (x_:T12) (r:Bool) (h:z170 N f_ x_=some r) :
 Fn Tryz.prog 170 ⟨0,[.a (cC4 f_),.a (cC12 x_)],[],[],0,.O r,[],[]⟩:=by
 refine eFn func170 rfl (fun E F w=>?_)
 unfold z170 at h
 refine wO J 11 h fun x1 c h=>eCl (z90_ct N f_.Sort' x_ _ c) [] [] ?_
 cases h
 exact wr J 2 func170 []
theorem z91_20_ct (N:Nat) (s1_:(List T4)) (s2_:(List T12)) (r:Bool) (h:z91_20 N s1_ s2_=some r) :
 Fn Tryz.prog 91 ⟨2,[.S 0,.S 1,.c (.cl 170 [] [])],[(0,.sl rR4 s1_),(1,.sl rR12 s2_)],[],2,.O r,[],[]⟩:=by
 refine eFn func91 rfl (fun E F w=>?_)
 unfold z91_20 at h
 refine wB J 13 h (fun h=>?_) fun h=>wa J 9 (eCut (σ:=Unit) (fun st=>(zz3 s1_ s2_ [])) (fun st=>z91_20_k1=some r) ?_ (fun j1=>?_))
 ·cases h
  exact wr J 5 func91 []
 ·intro _ h
  replace h:z91_20_k1=some r:=h
  unfold z91_20_k1 at h
  cases h
  exact wr J 4 func91 []
 refine wa J 1 (eLoop (σ:=Int) (fun st=>(zz3 s1_ s2_ [(1,.S 1),(2,.c (.cl 170 [] [])),(15,.S 0),(16,.I (s1_.length:Int)),(17,.I st)])) (fun n st=>z91_20_l2 N s1_ s2_ n st) (r:=r) (fun _=>rfl) ?_ (fun ih=>?_))
 ·intro n2 ih3
  intro d h
  replace h:z91_20_l2 N s1_ s2_ (n2+1) d=some r:=h
  unfold z91_20_l2 at h
  refine wB' J 5 h (fun h=>wa J 2 (eSub [] (j1 () h))) fun h=>?_
  refine wO J 7 h fun e f h=>eIx J oO4 f ?_
  refine wO J 9 h fun g i h=>eIx J oO12 i ?_
  refine wO J 9 h fun j k h=>eCl (z170_ct N e g _ k) [] [] ?_
  refine wB J 2 h (fun h=>?_) fun h=>wa J 7 (eSub [] (ih3 (w64 (d+1)) h))
  cases h
  exact wr J 5 func91 []
 exact eSub [] (ih N 0 h)
theorem z94_ct (N:Nat) (l_:(List T4)) (v_:(List T12)) (r:Bool) (h:z94 N l_ v_=some r) :
 Fn Tryz.prog 94 ⟨2,[.S 0,.S 1],[(0,.sl rR4 l_),(1,.sl rR12 v_)],[],2,.O r,[],[]⟩:=by
 refine eFn func94 rfl (fun E F w=>?_)
 unfold z94 at h
 refine wO J 8 h fun x1 c h=>eCl (z91_20_ct N l_ v_ _ c) [] [(0,.sl 0),(1,.sl 1)] ?_
 cases h
 exact wr J 2 func94 []
theorem z110_ct (N:Nat) (v_:T12) (r:Int) (h:z110 N v_=some r) :
 Fn Tryz.prog 110 ⟨0,[.a (cC12 v_)],[],[],0,.I r,[],[]⟩:=by
 refine eFn func110 rfl (fun E F w=>?_)
 unfold z110 at h
 refine wB J 12 h (fun h=>?_) fun h=>?_
 ·cases h
  exact wr J 8 func110 []
 cases h
 exact wr J 8 func110 []
theorem z247_ct (N:Nat) (r_:Int) (r:Bool) (h:z247 N r_=some r) :
 Fn Tryz.prog 247 ⟨0,[.c (.i .i32 r_)],[],[],0,.O r,[],[]⟩:=by
 refine eFn func247 rfl (fun E F w=>?_)
 unfold z247 at h
 refine wB J 9 h (fun h=>?_) fun h=>?_
 ·cases h
  exact wr J 5 func247 []
 cases h
 exact wr J 5 func247 []
theorem z294_21_ct (N:Nat) (s_:ByteArray) (truth_:Bool) (r:Int) (h:z294_21 N s_ truth_=some r) :
 Fn Tryz.prog 294 ⟨0,[.c (.s s_),.c (.cl 247 [] []),.O truth_],[],[],0,.I r,[],[]⟩:=by
 refine eFn func294 rfl (fun E F w=>?_)
 unfold z294_21 at h
 refine wa J 8 (eRn J (fun bk1=>wa J 1 (eCut (σ:=Nat) (fun st=>(zz1 (itR bk1 s_ st) [])) (fun st=>z294_21_k1 st=some r) ?_ (fun j1=>?_))))
 ·intro vi0_1 h
  replace h:z294_21_k1 vi0_1=some r:=h
  unfold z294_21_k1 at h
  cases h
  exact wr J 4 func294 []
 refine wa J 1 (eLoop (σ:=Nat) (fun st=>(zz1 (itR bk1 s_ st) [(1,.c (.cl 247 [] [])),(2,.O truth_),(10,.c (.v (.pointer (some ⟨bk1,0,none⟩))))])) (fun n st=>z294_21_l2 N s_ truth_ n st) (r:=r) (fun _=>rfl) ?_ (fun ih=>?_))
 ·intro n2 ih3
  intro vi0_3 h
  replace h:z294_21_l2 N s_ truth_ (n2+1) vi0_3=some r:=h
  unfold z294_21_l2 at h
  obtain ⟨K,h⟩|⟨K,h⟩:=oc' h
  ·exact wa J 2 (eNf bk1 0 K (wa J 5 (eSub [] (j1 vi0_3 h))))
  refine wa J 2 (eNt bk1 0 K ?_)
  refine wO J 17 h fun d e h=>eCl (z247_ct N ((Utf8.decode s_ vi0_3).1:Int) _ e) [] [] ?_
  refine wB J 3 h (fun h=>?_) fun h=>wa J 3 (eSub [] (ih3 (vi0_3+(Utf8.decode s_ vi0_3).2) h))
  cases h
  exact wr J 6 func294 []
 exact eSub [] (ih N (0:Nat) h)
theorem z275_22_ct (N:Nat) (s_:ByteArray) (r:Int) (h:z275_22 N s_=some r) :
 Fn Tryz.prog 275 ⟨0,[.c (.s s_),.c (.cl 247 [] [])],[],[],0,.I r,[],[]⟩:=by
 refine eFn func275 rfl (fun E F w=>?_)
 unfold z275_22 at h
 refine wO J 8 h fun x1 d h=>eCl (z294_21_ct N s_ true _ d) [] [] ?_
 cases h
 exact wr J 2 func275 []
theorem z246_23_ct (N:Nat) (s_:ByteArray) (r:Bool) (h:z246_23 N s_=some r) :
 Fn Tryz.prog 246 ⟨0,[.c (.s s_),.c (.cl 247 [] [])],[],[],0,.O r,[],[]⟩:=by
 refine eFn func246 rfl (fun E F w=>?_)
 unfold z246_23 at h
 refine wO J 8 h fun x1 d h=>eCl (z275_22_ct N s_ _ d) [] [] ?_
 cases h
 exact wr J 3 func246 []
theorem z194_ct (N:Nat) (s_:T10) (v_:T12) (r:Bool) (h:z194 N s_ v_=some r) :
 Fn Tryz.prog 194 ⟨0,[.a (cC10 s_),.a (cC12 v_)],[],[],0,.O r,[],[]⟩:=by
 refine eFn func194 rfl (fun E F w=>?_)
 unfold z194 at h
 refine wB J 15 h (fun h=>wa J 13 (eEnd ?_)) fun h=>?_
 ·cases h
  exact wr J 5 func194 []
 refine wO J 1 h fun x1 c h=>eCl (z110_ct N v_ _ c) [] [] ?_
 refine wB J 5 h (fun h=>wa J 6 (eEnd ?_)) fun h=>?_
 ·cases h
  exact wr J 5 func194 []
 refine wO J 1 h fun x2 d h=>eCl (z110_ct N v_ _ d) [] [] (wa J 4 (eEnd ?_))
 refine eB h (fun h=>?_) fun h=>?_
 ·cases h
  exact wr J 5 func194 []
 refine wB J 9 h (fun h=>?_) fun h=>?_
 ·cases h
  exact wr J 8 func194 []
 refine wB' J 8 h (fun h=>?_) fun h=>?_
 ·cases h
  exact wr J 7 func194 []
 refine wO J 2 h fun x3 e h=>eCl (z246_23_ct N v_.S _ e) [] [] ?_
 cases h
 exact wr J 4 func194 []
theorem z108_ct (N:Nat) (l_:(List T0)) (label_:Int) (known_:(List T12)) (r:Bool) (h:z108 N l_ label_ known_=some r) :
 Fn Tryz.prog 108 ⟨2,[.S 0,.I label_,.S 1],[(0,.sl rR0 l_),(1,.sl rR12 known_)],[],2,.O r,[],[]⟩:=by
 refine eFn func108 rfl (fun E F w=>?_)
 unfold z108 at h
 refine wB J 10 h (fun h=>?_) fun h=>?_
 ·cases h
  exact wr J 16 func108 []
 refine wB J 6 h (fun h=>?_) fun h=>?_
 ·cases h
  exact wr J 10 func108 []
 refine wO J 1 h fun x1 c h=>eCl (z71_ct N l_ _ c) [] [(0,.sl 0)] ?_
 refine wB J 3 h (fun h=>?_) fun h=>?_
 ·cases h
  exact wr J 5 func108 []
 refine wO J 5 h fun x2 d h=>eCl (z142_ct N l_ _ d) [] [(0,.sl 0)] ?_
 refine wB J 11 h (fun h=>?_) fun h=>wa J 9 (eCut (σ:=Unit) (fun st=>⟨[],[],[(0,.sl rR0 l_),(1,.sl rR12 known_)],3⟩) (fun st=>z108_k1=some r) ?_ (fun j1=>?_))
 ·cases h
  exact wr J 5 func108 []
 ·intro _ h
  replace h:z108_k1=some r:=h
  unfold z108_k1 at h
  cases h
  exact wr J 4 func108 []
 refine wa J 1 (eLoop (σ:=Int) (fun st=>⟨[(7,.S 2),(30,.S 1),(31,.I (known_.length:Int)),(32,.I st)],[(2,.own rR4 x2 true)],[(0,.sl rR0 l_),(1,.sl rR12 known_)],3⟩) (fun n st=>z108_l2 N known_ x2 n st) (r:=r) (fun _=>rfl) ?_ (fun ih=>?_))
 ·intro n2 ih3
  intro e h
  replace h:z108_l2 N known_ x2 (n2+1) e=some r:=h
  unfold z108_l2 at h
  refine wB' J 5 h (fun h=>wa J 2 (eSub [] (j1 () h))) fun h=>?_
  refine wO J 7 h fun f g h=>eIx J oO12 g (wa J 9 (eEq ?_))
  refine wB' J 1 h (fun h=>wa J 9 (eEnd (wa J 7 (eSub [] (ih3 (w64 (e+1)) h))))) fun h=>?_
  refine wO J 2 h fun i j h=>eIo J rR4 j (wa J 1 (eLd J oO4 j ?_))
  refine wO J 1 h fun k l h=>eCl (z194_ct N i.Sort' f _ l) [] [] (wa J 2 (eEnd ?_))
  refine eB h (fun h=>?_) fun h=>wa J 7 (eSub [] (ih3 (w64 (e+1)) h))
  cases h
  exact wr J 5 func108 []
 exact eSub [] (ih N 0 h)
theorem z117_ct (N:Nat) (l_:(List T4)) (values_:(List T12)) (r:Bool) (h:z117 N l_ values_=some r) :
 Fn Tryz.prog 117 ⟨2,[.S 0,.S 1],[(0,.sl rR4 l_),(1,.sl rR12 values_)],[],2,.O r,[],[]⟩:=by
 refine eFn func117 rfl (fun E F w=>?_)
 unfold z117 at h
 refine wB J 13 h (fun h=>?_) fun h=>wa J 9 (eCut (σ:=Unit) (fun st=>(zz3 l_ values_ [])) (fun st=>z117_k1=some r) ?_ (fun j1=>?_))
 ·cases h
  exact wr J 5 func117 []
 ·intro _ h
  replace h:z117_k1=some r:=h
  unfold z117_k1 at h
  cases h
  exact wr J 4 func117 []
 refine wa J 1 (eLoop (σ:=Int) (fun st=>(zz3 l_ values_ [(1,.S 1),(12,.S 0),(13,.I (l_.length:Int)),(14,.I st)])) (fun n st=>z117_l2 N l_ values_ n st) (r:=r) (fun _=>rfl) ?_ (fun ih=>?_))
 ·intro n2 ih3
  intro c h
  replace h:z117_l2 N l_ values_ (n2+1) c=some r:=h
  unfold z117_l2 at h
  refine wB' J 5 h (fun h=>wa J 2 (eSub [] (j1 () h))) fun h=>?_
  refine wO J 7 h fun d e h=>eIx J oO4 e ?_
  refine wO J 11 h fun f g h=>eIx J oO12 g ?_
  refine wO J 1 h fun i j h=>eCl (z194_ct N d.Sort' f _ j) [] [] (wa J 1 (eEnd ?_))
  refine eB h (fun h=>?_) fun h=>wa J 7 (eSub [] (ih3 (w64 (c+1)) h))
  cases h
  exact wr J 5 func117 []
 exact eSub [] (ih N 0 h)
theorem z55_ct (N:Nat) (s_:(List T12)) (r:(List T12)) (h:z55 N s_=some r) :
 Fn Tryz.prog 55 ⟨1,[.S 0],[(0,.sl rR12 s_)],[],2,.S 1,[],[(1,.own rR12 r true)]⟩:=by
 refine eFn func55 rfl (fun E F w=>?_)
 unfold z55 at h
 refine wa J 8 (eNi rR12 s_ false ?_)
 intro nb hnb
 cases nb
 ·refine wa J 5 (eBs J [] oO12 ([]:List T12) ?_)
  refine wO J 1 h fun x1 c h=>eAp J rR12 c ?_
  cases h
  exact wr J 2 func55 [(1,.sl 2)]
 ·obtain rfl:=hnb rfl
  replace h:(some ([]:List T12):Option (List T12))=some r:=h
  cases h
  exact wr J 6 func55 [(1,.nil)]
theorem z114_ct (N:Nat) (d_:T0) (values_:(List T12)) (known_:(List T12)) (r:(List T12)) (h:z114 N d_ values_ known_=some r) :
 Fn Tryz.prog 114 ⟨5,[.a (cC0 0 1 2 d_),.S 3,.S 4],(vV0 0 1 2 d_ [(3,.sl rR12 values_),(4,.sl rR12 known_)]),[],6,.S 5,[],[(5,.own rR12 r true)]⟩:=by
 refine eFn func114 rfl (fun E F w=>?_)
 unfold z114 at h
 refine wO J 8 h fun x1 c h=>eCl (z55_ct N known_ _ c) [] [(0,.sl 4)] ?_
 refine wO J 7 h fun x2 d h=>eVw J rR12 d ?_
 refine wO J 1 h fun x3 e h=>eCw J rR12 e ?_
 cases h
 exact wr J 6 func114 [(5,.sl 6)]
theorem z116_ct (N:Nat) (g_:T6) (l_:(List T12)) (r:Bool) (h:z116 N g_ l_=some r) :
 Fn Tryz.prog 116 ⟨3,[.a [.sl 0,.sl 1],.S 2],[(0,.sl rR1 g_.Diffs),(1,.sl (rP (rI .i64) (rI .i64)) g_.Equals),(2,.sl rR12 l_)],[],3,.O r,[],[]⟩:=by
 refine eFn func116 rfl (fun E F w=>?_)
 unfold z116 at h
 refine wa J 13 (eCut (σ:=Unit) (fun st=>(zz6 g_.Diffs g_.Equals l_ [(1,.S 2),(2,.B 3 0)])) (fun st=>z116_k3 N g_ l_=some r) ?_ (fun j1=>?_))
 ·intro _ h
  replace h:z116_k3 N g_ l_=some r:=h
  unfold z116_k3 at h
  refine wa J 8 (eCut (σ:=Unit) (fun st=>(zz13 g_.Diffs g_.Equals l_ [])) (fun st=>z116_k1=some r) ?_ (fun j12=>?_))
  ·intro _ h
   replace h:z116_k1=some r:=h
   unfold z116_k1 at h
   cases h
   exact wr J 4 func116 []
  refine wa J 1 (eLoop (σ:=Int) (fun st=>(zz13 g_.Diffs g_.Equals l_ [(1,.S 2),(55,.S 1),(56,.I (g_.Equals.length:Int)),(57,.I st)])) (fun n st=>z116_l2 g_ l_ n st) (r:=r) (fun _=>rfl) ?_ (fun ih=>?_))
  ·intro n9 ih14
   intro c h
   replace h:z116_l2 g_ l_ (n9+1) c=some r:=h
   unfold z116_l2 at h
   refine wB' J 5 h (fun h=>wa J 2 (eSub [] (j12 () h))) fun h=>?_
   refine wO J 6 h fun d e h=>eIx J (oP (oI .i64) (oI .i64)) e (wa J 7 (eAb 0 rfl ?_))
   refine wO J 1 h fun f g h=>eIx J oO12 g ?_
   refine wB J 4 h (fun h=>wa J 23 (eEnd ?_)) fun h=>wa J 1 (eAb 1 rfl ?_)
   ·cases h
    exact wr J 5 func116 []
   refine wO J 1 h fun j k h=>eIx J oO12 k ?_
   refine wB J 5 h (fun h=>wa J 14 (eEnd ?_)) fun h=>wa J 1 (eAb 0 rfl ?_)
   ·cases h
    exact wr J 5 func116 []
   refine wO J 1 h fun l m h=>eIx J oO12 m (wa J 3 (eAb 1 rfl ?_))
   refine wO J 1 h fun o p h=>eIx J oO12 p (wa J 4 (eEnd ?_))
   refine eB h (fun h=>?_) fun h=>wa J 7 (eSub [] (ih14 (w64 (c+1)) h))
   cases h
   exact wr J 5 func116 []
  exact eSub [] (ih N 0 h)
 refine wa J 1 (eLoop (σ:=Int) (fun st=>(zz6 g_.Diffs g_.Equals l_ [(1,.S 2),(2,.B 3 0),(13,.S 0),(14,.I (g_.Diffs.length:Int)),(15,.I st)])) (fun n st=>z116_l4 N g_ l_ n st) (r:=r) (fun _=>rfl) ?_ (fun ih=>?_))
 ·intro n14 ih15
  intro q h
  replace h:z116_l4 N g_ l_ (n14+1) q=some r:=h
  unfold z116_l4 at h
  refine wB' J 5 h (fun h=>wa J 2 (eSub [] (j1 () h))) fun h=>?_
  refine wO J 6 h fun s t h=>eIx J oO1 t (wa J 20 (eCut (σ:=Int × Int) (fun st=>(zz24 s st.1 st.2 g_.Diffs g_.Equals l_ [(1,.S 2),(2,.B 3 0),(6,.B 5 0),(7,.B 6 0),(13,.S 0),(14,.I (g_.Diffs.length:Int)),(15,.I q)])) (fun st=>z116_k5 q (z116_l4 N g_ l_ n14) s st.1 st.2=some r) ?_ (fun j22=>?_)))
  ·rintro ⟨u,v⟩ h
   replace h:z116_k5 q (z116_l4 N g_ l_ n14) s u v=some r:=h
   unfold z116_k5 at h
   refine wa J 2 (eAb 0 rfl (wa J 1 (eAb 1 rfl ?_)))
   refine wB J 6 h (fun h=>?_) fun h=>wa J 7 (eSub [] (ih15 (w64 (q+1)) h))
   cases h
   exact wr J 5 func116 []
  refine wa J 1 (eLoop (σ:=Int × Int × Int) (fun st=>(zz24 s st.1 st.2.1 g_.Diffs g_.Equals l_ [(1,.S 2),(2,.B 3 0),(6,.B 5 0),(7,.B 6 0),(13,.S 0),(14,.I (g_.Diffs.length:Int)),(15,.I q),(24,.a [.I s.X,.I s.Y]),(25,.I st.2.2)])) (fun n st=>z116_l6 N l_ q (z116_l4 N g_ l_ n14) s n st.1 st.2.1 st.2.2) (r:=r) (fun _=>rfl) ?_ (fun ih=>?_))
  ·intro n16 ih24
   rintro ⟨x,y,z⟩ h
   replace h:z116_l6 N l_ q (z116_l4 N g_ l_ n14) s (n16+1) x y z=some r:=h
   unfold z116_l6 at h
   refine wB' J 5 h (fun h=>wa J 2 (eSub [] (j22 (x,y) h))) fun h=>?_
   refine wO J 7 h fun A C h=>eAx (SC.i .i64) ([s.X,s.Y]:List Int) C ?_
   refine wB J 9 h (fun h=>wa J 6 (eSub [] (ih24 (x,y,(w64 (z+1))) h))) fun h=>?_
   refine wO J 7 h fun D G h=>eIx J oO12 G ?_
   refine wB J 4 h (fun h=>?_) fun h=>?_
   ·cases h
    exact wr J 5 func116 []
   refine wO J 6 h fun H R h=>eIx J oO12 R ?_
   refine wO J 1 h fun T U h=>eCl (z110_ct N H _ U) [] [] ?_
   obtain ⟨K,h⟩|⟨K,h⟩:=oc h
   ·exact eAb 0 (by exact eq_of_beq K) (wa J 7 (eSub [] (ih24 (T,y,(w64 (z+1))) h)))
   obtain ⟨K,h⟩|⟨K,h⟩:=oc h
   ·exact eAb 1 (by exact eq_of_beq K) (wa J 7 (eSub [] (ih24 (x,T,(w64 (z+1))) h)))
   cases h
  exact eSub [] (ih N (0,0,0) h)
 exact eSub [] (ih N 0 h)
theorem z56_ct (N:Nat) (decls_:(List T0)) (label_:Int) (values_:(List T12)) (known_:(List T12)) (r:Bool) (h:z56 N decls_ label_ values_ known_=some r) :
 Fn Tryz.prog 56 ⟨3,[.S 0,.I label_,.S 1,.S 2],[(0,.sl rR0 decls_),(1,.sl rR12 values_),(2,.sl rR12 known_)],[],3,.O r,[],[]⟩:=by
 refine eFn func56 rfl (fun E F w=>?_)
 unfold z56 at h
 refine wO J 10 h fun x1 c h=>eCl (z108_ct N decls_ label_ known_ _ c) [] [(0,.sl 0),(1,.sl 2)] ?_
 refine wB J 2 h (fun h=>?_) fun h=>?_
 ·cases h
  exact wr J 15 func56 []
 refine wO J 2 h fun x2 d h=>eIx J oO0 d ?_
 refine wO J 3 h fun x3 e h=>eCl (z117_ct N x2.Fields values_ _ e) [] [(0,.sl 4),(1,.sl 1)] ?_
 refine wB J 3 h (fun h=>?_) fun h=>?_
 ·cases h
  exact wr J 5 func56 []
 refine wO J 6 h fun x4 f h=>eIx J oO0 f ?_
 refine wO J 11 h fun x5 g h=>eCl (z114_ct N x4 values_ known_ _ g) [] [(0,.sl 8),(1,.sl 9),(2,.sl 10),(3,.sl 1),(4,.sl 2)] ?_
 obtain ⟨x6,i,h⟩:=ob h
 refine eCb (z116_ct N x4.Guard x5 _ i) [] [(0,.sl 9),(1,.sl 10),(2,.sl 12)] [12] (.inr ⟨rfl,trivial⟩) (wa J 1 (eEnd ?_))
 cases h
 exact eRet J func56 []
theorem z271_ct (N:Nat) (x_:ByteArray) (r:Bool) (h:z271 N x_=some r) :
 Fn Tryz.prog 271 ⟨0,[.c (.s x_)],[],[],0,.O r,[],[]⟩:=by
 refine eFn func271 rfl (fun E F w=>?_)
 unfold z271 at h
 cases h
 exact wr J 11 func271 []
theorem z233_ct (N:Nat) (x_:ByteArray) (y_:ByteArray) (r:Int) (h:z233 N x_ y_=some r) :
 Fn Tryz.prog 233 ⟨0,[.c (.s x_),.c (.s y_)],[],[],0,.I r,[],[]⟩:=by
 refine eFn func233 rfl (fun E F w=>?_)
 unfold z233 at h
 refine wO J 7 h fun x1 d h=>eCl (z271_ct N x_ _ d) [] [] ?_
 refine wO J 5 h fun x2 e h=>eCl (z271_ct N y_ _ e) [] [] ?_
 refine wB J 7 h (fun h=>?_) fun h=>?_
 ·refine wB J 6 h (fun h=>?_) fun h=>?_
  ·cases h
   exact wr J 5 func233 []
  cases h
  exact wr J 6 func233 []
 refine wB J 7 h (fun h=>?_) fun h=>?_
 ·cases h
  exact wr J 5 func233 []
 refine wB J 9 h (fun h=>?_) fun h=>?_
 ·cases h
  exact wr J 5 func233 []
 refine wB J 9 h (fun h=>?_) fun h=>?_
 ·cases h
  exact wr J 5 func233 []
 cases h
 exact wr J 6 func233 []
theorem z173_ct (N:Nat) (a_:T12) (b_:T12) (r:Int) (h:z173 N a_ b_=some r) :
 Fn Tryz.prog 173 ⟨0,[.a (cC12 a_),.a (cC12 b_)],[],[],0,.I r,[],[]⟩:=by
 refine eFn func173 rfl (fun E F w=>?_)
 unfold z173 at h
 refine wO J 12 h fun x1 c h=>eCl (z232_ct N a_.Kind b_.Kind _ c) [] [] ?_
 refine wO J 4 h fun x2 d h=>eCl (z232_ct N a_.N b_.N _ d) [] [] ?_
 refine wO J 6 h fun x3 e h=>eCl (z232_ct N (a_.S.size:Int) (b_.S.size:Int) _ e) [] [] ?_
 refine wO J 4 h fun x4 f h=>eCl (z233_ct N a_.S b_.S _ f) [] [] (eBs J [] (oI .i64) ([x1,x2,x3,x4]:List Int) ?_)
 obtain ⟨x5,g,h⟩:=ob h
 refine eCb (z231_ct N ([x1,x2,x3,x4]:List Int) _ g) [] [(0,.sl 2)] [2] (.inr ⟨rfl,trivial⟩) (wa J 1 (eEnd ?_))
 cases h
 exact eRet J func173 []
theorem z172_ct (N:Nat) (x_:T12) (y_:T12) (r:Bool) (h:z172 N x_ y_=some r) :
 Fn Tryz.prog 172 ⟨0,[.a (cC12 x_),.a (cC12 y_)],[],[],0,.O r,[],[]⟩:=by
 refine eFn func172 rfl (fun E F w=>?_)
 unfold z172 at h
 refine wO J 10 h fun x1 c h=>eCl (z173_ct N x_ y_ _ c) [] [] ?_
 cases h
 exact wr J 3 func172 []
theorem z171_24_ct (N:Nat) (s1_:(List T12)) (s2_:(List T12)) (r:Bool) (h:z171_24 N s1_ s2_=some r) :
 Fn Tryz.prog 171 ⟨2,[.S 0,.S 1,.c (.cl 172 [] [])],[(0,.sl rR12 s1_),(1,.sl rR12 s2_)],[],2,.O r,[],[]⟩:=by
 refine eFn func171 rfl (fun E F w=>?_)
 unfold z171_24 at h
 refine wB J 13 h (fun h=>?_) fun h=>wa J 9 (eCut (σ:=Unit) (fun st=>(zz4 s1_ s2_ [])) (fun st=>z171_24_k1=some r) ?_ (fun j1=>?_))
 ·cases h
  exact wr J 5 func171 []
 ·intro _ h
  replace h:z171_24_k1=some r:=h
  unfold z171_24_k1 at h
  cases h
  exact wr J 4 func171 []
 refine wa J 1 (eLoop (σ:=Int) (fun st=>(zz4 s1_ s2_ [(1,.S 1),(2,.c (.cl 172 [] [])),(15,.S 0),(16,.I (s1_.length:Int)),(17,.I st)])) (fun n st=>z171_24_l2 N s1_ s2_ n st) (r:=r) (fun _=>rfl) ?_ (fun ih=>?_))
 ·intro n2 ih3
  intro d h
  replace h:z171_24_l2 N s1_ s2_ (n2+1) d=some r:=h
  unfold z171_24_l2 at h
  refine wB' J 5 h (fun h=>wa J 2 (eSub [] (j1 () h))) fun h=>?_
  refine wO J 7 h fun e f h=>eIx J oO12 f ?_
  refine wO J 9 h fun g i h=>eIx J oO12 i ?_
  refine wO J 9 h fun j k h=>eCl (z172_ct N e g _ k) [] [] ?_
  refine wB J 2 h (fun h=>?_) fun h=>wa J 7 (eSub [] (ih3 (w64 (d+1)) h))
  cases h
  exact wr J 5 func171 []
 exact eSub [] (ih N 0 h)
theorem z95_ct (N:Nat) (a_:(List T12)) (b_:(List T12)) (r:Bool) (h:z95 N a_ b_=some r) :
 Fn Tryz.prog 95 ⟨2,[.S 0,.S 1],[(0,.sl rR12 a_),(1,.sl rR12 b_)],[],2,.O r,[],[]⟩:=by
 refine eFn func95 rfl (fun E F w=>?_)
 unfold z95 at h
 refine wO J 8 h fun x1 c h=>eCl (z171_24_ct N a_ b_ _ c) [] [(0,.sl 0),(1,.sl 1)] ?_
 cases h
 exact wr J 2 func95 []
theorem z96_ct (N:Nat) (decls_:(List T0)) (label_:Int) (values_:(List T12)) (known_:(List T12)) (r:(List T12) × Int) (h:z96 N decls_ label_ values_ known_=some r) :
 Fn Tryz.prog 96 ⟨3,[.S 0,.I label_,.S 1,.S 2],[(0,.sl rR0 decls_),(1,.sl rR12 values_),(2,.sl rR12 known_)],[],4,.t [.inl (.sl 3),.inl (.I r.2)],[],[(3,.own rR12 r.1 true)]⟩:=by
 refine eFn func96 rfl (fun E F w=>?_)
 unfold z96 at h
 refine wO J 11 h fun x1 c h=>eCl (z108_ct N decls_ label_ known_ _ c) [] [(0,.sl 0),(1,.sl 2)] ?_
 refine wB J 2 h (fun h=>?_) fun h=>?_
 ·cases h
  exact wr J 6 func96 [(3,.nil)]
 refine wO J 7 h fun x2 d h=>eIx J oO0 d ?_
 refine wO J 3 h fun x3 e h=>eCl (z117_ct N x2.Fields values_ _ e) [] [(0,.sl 4),(1,.sl 1)] ?_
 refine wB J 2 h (fun h=>?_) fun h=>?_
 ·cases h
  exact wr J 6 func96 [(3,.nil)]
 refine wO J 6 h fun x4 f h=>eIx J oO0 f ?_
 refine wO J 3 h fun x5 g h=>eCl (z114_ct N x4 values_ known_ _ g) [] [(0,.sl 8),(1,.sl 9),(2,.sl 10),(3,.sl 1),(4,.sl 2)] ?_
 cases h
 exact wr J 3 func96 [(3,.sl 11)]
theorem z47_ct (N:Nat) (g_:T5) (m_:T8) (s_:T16) (x_:T3) (r:T16 × Int) (h:z47 N g_ m_ s_ x_=some r) :
 Fn Tryz.prog 47 ⟨10,[.a (cC5 0 1 2 3 g_),.a (cC8 4 5 6 m_),.a (cC16 7 8 s_),.a (cC3 9 x_)],((0,.sl rS g_.Roles)::(1,.sl rR0 g_.Decls)::(2,.sl rR2 g_.Edges)::(3,.sl rR11 g_.Timeouts)::(4,.sl rB m_.Finals)::(5,.sl rR9 m_.Moves)::(6,.sl rR11 m_.Timeouts)::vV16 7 8 s_ [(9,.sl rR12 x_.Values)]),[],12,.t [.inr (cC16 10 11 r.1),.inl (.I r.2)],(vV16 10 11 r.1 []),[]⟩:=by
 refine eFn func47 rfl (fun E F w=>?_)
 unfold z47 at h
 refine wO J 14 h fun x1 c h=>eCl (z92_19_ct N m_.Moves s_ x_ _ c) [] [(0,.sl 5),(1,.bp 12 0),(2,.sl 7),(3,.sl 8),(4,.bp 13 0),(5,.sl 9)] ?_
 refine wB J 13 h (fun h=>?_) fun h=>?_
 ·cases h
  exact wr J 7 func47 [(10,.nil),(11,.nil)]
 refine wB J 7 h (fun h=>?_) fun h=>?_
 ·cases h
  exact wr J 7 func47 [(10,.nil),(11,.nil)]
 refine wO J 7 h fun x2 d h=>eIx J oO0 d ?_
 refine wO J 4 h fun x3 e h=>eCl (z94_ct N x2.Fields x_.Values _ e) [] [(0,.sl 16),(1,.sl 9)] (wa J 2 (eEnd ?_))
 refine eB h (fun h=>?_) fun h=>?_
 ·cases h
  exact wr J 7 func47 [(10,.nil),(11,.nil)]
 refine wO J 12 h fun x4 f h=>eCl (z56_ct N g_.Decls x_.Label x_.Values s_.Known _ f) [] [(0,.sl 1),(1,.sl 9),(2,.sl 7)] (wa J 3 (eCut (σ:=Bool) (fun st=>⟨[(4,.B 10 0),(5,.B 11 0),(6,.B 12 0),(7,.B 13 0),(8,.B 14 0),(10,.I x1),(40,.O st)],[(10,.box (cC5 0 1 2 3 g_) 27),(11,.box (cC8 4 5 6 m_) 31),(12,.box (cC16 7 8 s_) 48),(13,.box (cC3 9 x_) 46),(14,.box [.I 0,.nil,.nil] 48)],((0,.sl rS g_.Roles)::(1,.sl rR0 g_.Decls)::(2,.sl rR2 g_.Edges)::(3,.sl rR11 g_.Timeouts)::(4,.sl rB m_.Finals)::(5,.sl rR9 m_.Moves)::(6,.sl rR11 m_.Timeouts)::vV16 7 8 s_ [(9,.sl rR12 x_.Values)]),19⟩) (fun st=>z47_k1 N g_ m_ s_ x_ x1 st=some r) ?_ (fun j1=>?_)))
 ·intro g h
  replace h:z47_k1 N g_ m_ s_ x_ x1 g=some r:=h
  unfold z47_k1 at h
  refine eB h (fun h=>?_) fun h=>?_
  ·cases h
   exact wr J 7 func47 [(10,.nil),(11,.nil)]
  refine wO J 8 h fun x7 i h=>eIx J oO9 i ?_
  refine wO J 16 h fun x8 j h=>eCl (z96_ct N g_.Decls x_.Label x_.Values s_.Known _ j) [] [(0,.sl 1),(1,.sl 9),(2,.sl 7)] ?_
  refine wB' J 12 h (fun h=>wa J 8 (eFr [21] ?_)) fun h=>?_
  ·cases h
   exact eRet J func47 [(10,.sl 21),(11,.nil)]
  refine wO J 4 h fun x9 k h=>eCl (z55_ct N x_.Values _ k) [] [(0,.sl 9)] (wa J 9 (eFr [21] (eFr [22] ?_)))
  cases h
  exact eRet J func47 [(10,.sl 21),(11,.sl 22)]
 refine eB h (fun h=>wa J 2 (eSub [] (j1 true h))) fun h=>?_
 refine wO J 5 h fun l m h=>eIx J oO9 m ?_
 refine wB' J 3 h (fun h=>wa J 9 (eSub [] (j1 false h))) fun h=>?_
 exact wO J 4 h fun o p h=>eCl (z95_ct N x_.Values s_.Pending _ p) [] [(0,.sl 9),(1,.sl 8)] (wa J 4 (eSub [] (j1 (!o) h)))
theorem z17_ct (N:Nat) (g_:T5) (m_:T8) (history_:(List T3)) (r:T16 × Int × Int) (h:z17 N g_ m_ history_=some r) :
 Fn Tryz.prog 17 ⟨8,[.a (cC5 0 1 2 3 g_),.a (cC8 4 5 6 m_),.S 7],((0,.sl rS g_.Roles)::(1,.sl rR0 g_.Decls)::(2,.sl rR2 g_.Edges)::(3,.sl rR11 g_.Timeouts)::vV8 4 5 6 m_ [(7,.sl rR3 history_)]),[],10,.t [.inr (cC16 8 9 r.1),.inl (.I r.2.1),.inl (.I r.2.2)],(vV16 8 9 r.1 []),[]⟩:=by
 refine eFn func17 rfl (fun E F w=>?_)
 unfold z17 at h
 refine wO J 12 h fun x1 c h=>eCl (z24_ct N g_ m_ _ c) [] [(0,.sl 0),(1,.sl 1),(2,.sl 2),(3,.sl 3),(4,.sl 4),(5,.sl 5),(6,.sl 6)] ?_
 refine wO J 8 h fun x2 d h=>eCl (z46_ct N g_ m_ x1 _ d) [] [(0,.sl 0),(1,.sl 1),(2,.sl 2),(3,.sl 3),(4,.sl 4),(5,.sl 5),(6,.sl 6),(7,.sl 11),(8,.sl 12)] ?_
 refine wB J 2 h (fun h=>?_) fun h=>wa J 9 (eCut (σ:=Int × (List T12) × (List T12)) (fun st=>⟨[(2,.S 7),(6,.B 10 0)],[(10,.box [.I st.1,.sl 13,.sl 14] 48)],((0,.sl rS g_.Roles)::(1,.sl rR0 g_.Decls)::(2,.sl rR2 g_.Edges)::(3,.sl rR11 g_.Timeouts)::vV8 4 5 6 m_ [(7,.sl rR3 history_),(13,.sl rR12 st.2.1),(14,.sl rR12 st.2.2)]),15⟩) (fun st=>z17_k1 history_ st.1 st.2.1 st.2.2=some r) ?_ (fun j1=>?_))
 ·cases h
  exact wr J 8 func17 [(8,.nil),(9,.nil)]
 ·rintro ⟨e,f,g⟩ h
  replace h:z17_k1 history_ e f g=some r:=h
  unfold z17_k1 at h
  cases h
  exact wr J 9 func17 [(8,.sl 13),(9,.sl 14)]
 refine wa J 1 (eLoop (σ:=Int × (List T12) × (List T12) × Int) (fun st=>⟨[(2,.S 7),(3,.B 8 0),(4,.B 9 0),(6,.B 10 0),(22,.S 7),(23,.I (history_.length:Int)),(24,.I st.2.2.2)],[(8,.box (cC5 0 1 2 3 g_) 27),(9,.box (cC8 4 5 6 m_) 31),(10,.box [.I st.1,.sl 13,.sl 14] 48)],((0,.sl rS g_.Roles)::(1,.sl rR0 g_.Decls)::(2,.sl rR2 g_.Edges)::(3,.sl rR11 g_.Timeouts)::vV8 4 5 6 m_ [(7,.sl rR3 history_),(13,.sl rR12 st.2.1),(14,.sl rR12 st.2.2.1)]),15⟩) (fun n st=>z17_l2 N g_ m_ history_ n st.1 st.2.1 st.2.2.1 st.2.2.2) (r:=r) (fun _=>rfl) ?_ (fun ih=>?_))
 ·intro n2 ih3
  rintro ⟨i,j,k,l⟩ h
  replace h:z17_l2 N g_ m_ history_ (n2+1) i j k l=some r:=h
  unfold z17_l2 at h
  refine wB' J 5 h (fun h=>wa J 2 (eSub [] (j1 (i,j,k) h))) fun h=>?_
  refine wO J 7 h fun m o h=>eIx J oO3 o ?_
  refine wO J 11 h fun p q h=>eCl (z47_ct N g_ m_ (⟨i,j,k⟩:T16) m _ q) [] [(0,.sl 0),(1,.sl 1),(2,.sl 2),(3,.sl 3),(4,.sl 4),(5,.sl 5),(6,.sl 6),(7,.sl 13),(8,.sl 14),(9,.sl 16)] ?_
  refine wB J 13 h (fun h=>?_) fun h=>wa J 11 (eSub [(13,.sl 18),(14,.sl 19)] (ih3 (p.1.At,p.1.Known,p.1.Pending,(w64 (l+1))) h))
  cases h
  exact wr J 10 func17 [(8,.sl 13),(9,.sl 14)]
 exact eSub [(13,.sl 11),(14,.sl 12)] (ih N (x1.At,x1.Known,x1.Pending,0) h)
theorem z44_ct (N:Nat) (s_:(List T3)) (r:(List T3)) (h:z44 N s_=some r) :
 Fn Tryz.prog 44 ⟨1,[.S 0],[(0,.sl rR3 s_)],[],2,.S 1,[],[(1,.own rR3 r true)]⟩:=by
 refine eFn func44 rfl (fun E F w=>?_)
 unfold z44 at h
 refine wa J 8 (eNi rR3 s_ false ?_)
 intro nb hnb
 cases nb
 ·refine wa J 5 (eBs J [] oO3 ([]:List T3) ?_)
  refine wO J 1 h fun x1 c h=>eAp J rR3 c ?_
  cases h
  exact wr J 2 func44 [(1,.sl 2)]
 ·obtain rfl:=hnb rfl
  replace h:(some ([]:List T3):Option (List T3))=some r:=h
  cases h
  exact wr J 6 func44 [(1,.nil)]
theorem z175_ct (N:Nat) (decls_:(List T0)) (label_:Int) (own_:(List T12)) (known_:(List T12)) (r:(List T12)) (h:z175 N decls_ label_ own_ known_=some r) :
 Fn Tryz.prog 175 ⟨3,[.S 0,.I label_,.S 1,.S 2],[(0,.sl rR0 decls_),(1,.sl rR12 own_),(2,.sl rR12 known_)],[],4,.S 3,[],[(3,.own rR12 r true)]⟩:=by
 refine eFn func175 rfl (fun E F w=>?_)
 unfold z175 at h
 refine wa J 6 (eBs J [] oO12 ([]:List T12) ?_)
 refine wO J 1 h fun x1 c h=>eAp J rR12 c ?_
 refine wO J 7 h fun x2 d h=>eIx J oO0 d ?_
 refine wO J 2 h fun x3 e h=>eVw J rR12 e ?_
 refine wO J 1 h fun x4 f h=>eCw J rR12 f ?_
 cases h
 exact wr J 6 func175 [(3,.sl 4)]
theorem z234_ct (N:Nat) (all_:(List T12)) (x_:Int) (r:Int × Bool) (h:z234 N all_ x_=some r) :
 Fn Tryz.prog 234 ⟨1,[.S 0,.I x_],[(0,.sl rR12 all_)],[],1,.t [.inl (.I r.1),.inl (.b r.2)],[],[]⟩:=by
 refine eFn func234 rfl (fun E F w=>?_)
 unfold z234 at h
 refine wB J 11 h (fun h=>?_) fun h=>?_
 ·cases h
  exact wr J 6 func234 []
 refine wO J 6 h fun x1 c h=>eIx J oO12 c ?_
 refine wO J 1 h fun x2 d h=>eCl (z167_ct N x1 _ d) [] [] ?_
 refine wO J 2 h fun x3 e h=>eIx J oO12 e (wa J 5 (eEnd ?_))
 cases h
 exact eRet J func234 []
theorem z174_ct (N:Nat) (x_:T6) (all_:(List T12)) (r:Int × Bool) (h:z174 N x_ all_=some r) :
 Fn Tryz.prog 174 ⟨3,[.a [.sl 0,.sl 1],.S 2],[(0,.sl rR1 x_.Diffs),(1,.sl (rP (rI .i64) (rI .i64)) x_.Equals),(2,.sl rR12 all_)],[],3,.t [.inl (.I r.1),.inl (.b r.2)],[],[]⟩:=by
 refine eFn func174 rfl (fun E F w=>?_)
 unfold z174 at h
 refine wa J 14 (eCut (σ:=Unit) (fun st=>(zz6 x_.Diffs x_.Equals all_ [(1,.S 2),(2,.B 3 0)])) (fun st=>z174_k3 N x_ all_=some r) ?_ (fun j1=>?_))
 ·intro _ h
  replace h:z174_k3 N x_ all_=some r:=h
  unfold z174_k3 at h
  refine wa J 8 (eCut (σ:=Unit) (fun st=>(zz13 x_.Diffs x_.Equals all_ [])) (fun st=>z174_k1=some r) ?_ (fun j3=>?_))
  ·intro _ h
   replace h:z174_k1=some r:=h
   unfold z174_k1 at h
   cases h
   exact wr J 5 func174 []
  refine wa J 1 (eLoop (σ:=Int) (fun st=>(zz6 x_.Diffs x_.Equals all_ [(1,.S 2),(2,.B 3 0),(55,.S 1),(56,.I (x_.Equals.length:Int)),(57,.I st)])) (fun n st=>z174_l2 x_ all_ n st) (r:=r) (fun _=>rfl) ?_ (fun ih=>?_))
  ·intro n3 ih5
   intro c h
   replace h:z174_l2 x_ all_ (n3+1) c=some r:=h
   unfold z174_l2 at h
   refine wB' J 5 h (fun h=>wa J 2 (eSub [] (j3 () h))) fun h=>?_
   refine wO J 7 h fun d e h=>eIx J (oP (oI .i64) (oI .i64)) e (wa J 8 (eAb 0 rfl ?_))
   refine wO J 1 h fun f g h=>eIx J oO12 g (wa J 2 (eAb 1 rfl ?_))
   refine wO J 1 h fun i j h=>eIx J oO12 j (wa J 5 (eEnd ?_))
   refine wB J 6 h (fun h=>?_) fun h=>?_
   ·cases h
    exact wr J 23 func174 []
   refine wB J 5 h (fun h=>?_) fun h=>?_
   ·cases h
    exact wr J 18 func174 []
   refine wB J 7 h (fun h=>?_) fun h=>wa J 7 (eSub [] (ih5 (w64 (c+1)) h))
   cases h
   exact wr J 11 func174 []
  exact eSub [] (ih N 0 h)
 refine wa J 1 (eLoop (σ:=Int) (fun st=>(zz6 x_.Diffs x_.Equals all_ [(1,.S 2),(2,.B 3 0),(17,.S 0),(18,.I (x_.Diffs.length:Int)),(19,.I st)])) (fun n st=>z174_l4 N x_ all_ n st) (r:=r) (fun _=>rfl) ?_ (fun ih=>?_))
 ·intro n4 ih6
  intro k h
  replace h:z174_l4 N x_ all_ (n4+1) k=some r:=h
  unfold z174_l4 at h
  refine wB' J 5 h (fun h=>wa J 2 (eSub [] (j1 () h))) fun h=>?_
  refine wO J 7 h fun l m h=>eIx J oO1 m ?_
  refine wO J 10 h fun o p h=>eCl (z234_ct N all_ l.X _ p) [] [(0,.sl 2)] ?_
  refine wO J 11 h fun q s h=>eCl (z234_ct N all_ l.Y _ s) [] [(0,.sl 2)] ?_
  refine wB J 11 h (fun h=>?_) fun h=>?_
  ·cases h
   exact wr J 19 func174 []
  refine wB J 4 h (fun h=>?_) fun h=>?_
  ·cases h
   exact wr J 15 func174 []
  refine wB J 8 h (fun h=>?_) fun h=>wa J 7 (eSub [] (ih6 (w64 (k+1)) h))
  cases h
  exact wr J 7 func174 []
 exact eSub [] (ih N 0 h)
theorem z176_ct (N:Nat) (a_:(List T12)) (b_:(List T12)) (r:Int) (h:z176 N a_ b_=some r) :
 Fn Tryz.prog 176 ⟨2,[.S 0,.S 1],[(0,.sl rR12 a_),(1,.sl rR12 b_)],[],2,.I r,[],[]⟩:=by
 refine eFn func176 rfl (fun E F w=>?_)
 unfold z176 at h
 refine wa J 11 (eCut (σ:=Unit) (fun st=>(zz4 a_ b_ [(0,.S 0)])) (fun st=>z176_k1 a_=some r) ?_ (fun j1=>?_))
 ·intro _ h
  replace h:z176_k1 a_=some r:=h
  unfold z176_k1 at h
  cases h
  exact wr J 6 func176 []
 refine wa J 1 (eLoop (σ:=Int) (fun st=>(zz4 a_ b_ [(0,.S 0),(1,.S 1),(7,.I (a_.length:Int)),(8,.I st)])) (fun n st=>z176_l2 N a_ b_ n st) (r:=r) (fun _=>rfl) ?_ (fun ih=>?_))
 ·intro n2 ih3
  intro c h
  replace h:z176_l2 N a_ b_ (n2+1) c=some r:=h
  unfold z176_l2 at h
  refine wB' J 5 h (fun h=>wa J 2 (eSub [] (j1 () h))) fun h=>?_
  refine wB J 16 h (fun h=>wa J 11 (eEnd ?_)) fun h=>?_
  ·cases h
   exact wr J 6 func176 []
  refine wO J 2 h fun d e h=>eIx J oO12 e ?_
  refine wO J 3 h fun f g h=>eIx J oO12 g ?_
  refine wO J 1 h fun i j h=>eCl (z173_ct N d f _ j) [] [] (wa J 2 (eEnd ?_))
  refine eB h (fun h=>?_) fun h=>wa J 7 (eSub [] (ih3 (w64 (c+1)) h))
  cases h
  exact wr J 6 func176 []
 exact eSub [] (ih N 0 h)
theorem z97_ct (N:Nat) (g_:T5) (s_:T16) (x_:T3) (e_:Int) (r:Int × Int) (h:z97 N g_ s_ x_ e_=some r) :
 Fn Tryz.prog 97 ⟨7,[.a (cC5 0 1 2 3 g_),.a (cC16 4 5 s_),.a (cC3 6 x_),.I e_],((0,.sl rS g_.Roles)::(1,.sl rR0 g_.Decls)::(2,.sl rR2 g_.Edges)::(3,.sl rR11 g_.Timeouts)::vV16 4 5 s_ [(6,.sl rR12 x_.Values)]),[],7,.t [.inl (.I r.1),.inl (.I r.2)],[],[]⟩:=by
 refine eFn func97 rfl (fun E F w=>?_)
 unfold z97 at h
 refine wB J 19 h (fun h=>?_) fun h=>?_
 ·cases h
  exact wr J 6 func97 []
 refine wB J 6 h (fun h=>?_) fun h=>?_
 ·cases h
  exact wr J 6 func97 []
 refine wO J 9 h fun x1 c h=>eIx J oO0 c ?_
 refine wB J 15 h (fun h=>?_) fun h=>wa J 10 (eCut (σ:=Unit) (fun st=>(zz25 g_ s_ x_ x1 g_.Roles g_.Decls g_.Edges g_.Timeouts x_.Values [(4,.B 7 0),(5,.B 8 0),(6,.B 9 0),(10,.B 14 0)])) (fun st=>z97_k1 N g_ s_ x_ x1=some r) ?_ (fun j1=>?_))
 ·cases h
  exact wr J 6 func97 []
 ·intro _ h
  replace h:z97_k1 N g_ s_ x_ x1=some r:=h
  unfold z97_k1 at h
  refine wO J 13 h fun d e h=>eCl (z175_ct N g_.Decls x_.Label x_.Values s_.Known _ e) [] [(0,.sl 1),(1,.sl 6),(2,.sl 4)] ?_
  obtain ⟨f,g,h⟩:=ob h
  refine eCb (z174_ct N x1.Guard d _ g) [] [(0,.sl 12),(1,.sl 13),(2,.sl 15)] [15] (.inr ⟨rfl,trivial⟩) (wa J 5 (eEnd ?_))
  refine wB J 4 h (fun h=>?_) fun h=>?_
  ·cases h
   exact wr J 7 func97 []
  refine wO J 8 h fun i j h=>eCl (z176_ct N x_.Values s_.Pending _ j) [] [(0,.sl 6),(1,.sl 5)] ?_
  cases h
  exact wr J 3 func97 []
 refine wa J 1 (eLoop (σ:=Int) (fun st=>(zz25 g_ s_ x_ x1 g_.Roles g_.Decls g_.Edges g_.Timeouts x_.Values [(4,.B 7 0),(5,.B 8 0),(6,.B 9 0),(10,.B 14 0),(34,.S 11),(35,.I (x1.Fields.length:Int)),(36,.I st)])) (fun n st=>z97_l2 N g_ s_ x_ x1 n st) (r:=r) (fun _=>rfl) ?_ (fun ih=>?_))
 ·intro n2 ih3
  intro k h
  replace h:z97_l2 N g_ s_ x_ x1 (n2+1) k=some r:=h
  unfold z97_l2 at h
  refine wB' J 5 h (fun h=>wa J 2 (eSub [] (j1 () h))) fun h=>?_
  refine wO J 7 h fun l m h=>eIx J oO4 m ?_
  refine wO J 12 h fun o p h=>eIx J oO12 p ?_
  refine wO J 1 h fun q s h=>eCl (z90_ct N l.Sort' o _ s) [] [] (wa J 1 (eEnd ?_))
  refine eB h (fun h=>?_) fun h=>wa J 7 (eSub [] (ih3 (w64 (k+1)) h))
  cases h
  exact wr J 7 func97 []
 exact eSub [] (ih N 0 h)
theorem z48_ct (N:Nat) (g_:T5) (m_:T8) (history_:(List T3)) (r:T13 × Bool × Int) (h:z48 N g_ m_ history_=some r) :
 Fn Tryz.prog 48 ⟨8,[.a (cC5 0 1 2 3 g_),.a (cC8 4 5 6 m_),.S 7],((0,.sl rS g_.Roles)::(1,.sl rR0 g_.Decls)::(2,.sl rR2 g_.Edges)::(3,.sl rR11 g_.Timeouts)::vV8 4 5 6 m_ [(7,.sl rR3 history_)]),[],8,.t [.inr (cC13 r.1),.inl (.b r.2.1),.inl (.I r.2.2)],[],[]⟩:=by
 refine eFn func48 rfl (fun E F w=>?_)
 unfold z48 at h
 refine wO J 13 h fun x1 c h=>eCl (z17_ct N g_ m_ history_ _ c) [] [(0,.sl 0),(1,.sl 1),(2,.sl 2),(3,.sl 3),(4,.sl 4),(5,.sl 5),(6,.sl 6),(7,.sl 7)] (wa J 21 (eCut (σ:=Bool) (fun st=>⟨[(2,.S 7),(3,.B 8 0),(4,.B 9 0),(6,.B 10 0),(8,.I x1.2.2),(9,.B 13 0),(10,.I x1.2.1),(21,.O st)],[(8,.box (cC5 0 1 2 3 g_) 27),(9,.box (cC8 4 5 6 m_) 31),(10,.box [.I 0,.I 0,.I 0,.I 0] 107),(13,.box (cC16 11 12 x1.1) 48)],((0,.sl rS g_.Roles)::(1,.sl rR0 g_.Decls)::(2,.sl rR2 g_.Edges)::(3,.sl rR11 g_.Timeouts)::(4,.sl rB m_.Finals)::(5,.sl rR9 m_.Moves)::(6,.sl rR11 m_.Timeouts)::(7,.sl rR3 history_)::vV16 11 12 x1.1 []),14⟩) (fun st=>z48_k1 N g_ m_ history_ x1 st=some r) ?_ (fun j1=>?_)))
 ·intro d h
  replace h:z48_k1 N g_ m_ history_ x1 d=some r:=h
  unfold z48_k1 at h
  refine eB h (fun h=>?_) fun h=>?_
  ·cases h
   exact wr J 9 func48 []
  refine wO J 7 h fun x2 e h=>eIx J oO3 e ?_
  refine wO J 16 h fun x3 f h=>eCl (z97_ct N g_ x1.1 x2 x1.2.2 _ f) [] [(0,.sl 0),(1,.sl 1),(2,.sl 2),(3,.sl 3),(4,.sl 11),(5,.sl 12),(6,.sl 15)] ?_
  refine wB J 17 h (fun h=>?_) fun h=>?_
  ·cases h
   exact wr J 15 func48 []
  refine wB J 7 h (fun h=>?_) fun h=>?_
  ·cases h
   exact wr J 15 func48 []
  cases h
  exact wr J 15 func48 []
 exact eB h (fun h=>wa J 2 (eSub [] (j1 true h))) fun h=>wa J 5 (eSub [] (j1 (x1.2.2==1) h))
theorem z98_ct (N:Nat) (l_:(List ByteArray)) (i_:Int) (r:ByteArray) (h:z98 N l_ i_=some r) :
 Fn Tryz.prog 98 ⟨1,[.S 0,.I i_],[(0,.sl rS l_)],[],1,.c (.s r),[],[]⟩:=by
 refine eFn func98 rfl (fun E F w=>?_)
 unfold z98 at h
 refine wB J 10 h (fun h=>?_) fun h=>?_
 ·cases h
  exact wr J 11 func98 []
 refine wB J 6 h (fun h=>?_) fun h=>?_
 ·cases h
  exact wr J 5 func98 []
 refine wO J 6 h fun x1 d h=>eIx J oS d ?_
 cases h
 exact wr J 3 func98 []
theorem z99_ct (N:Nat) (decls_:(List T0)) (r:(List ByteArray)) (h:z99 N decls_=some r) :
 Fn Tryz.prog 99 ⟨1,[.S 0],[(0,.sl rR0 decls_)],[],2,.S 1,[],[(1,.own rS r true)]⟩:=by
 refine eFn func99 rfl (fun E F w=>?_)
 unfold z99 at h
 refine wa J 15 (eCut (σ:=(List ByteArray)) (fun st=>⟨[(3,.S 1)],[(1,.own rS st true)],[(0,.sl rR0 decls_)],2⟩) (fun st=>z99_k1 st=some r) ?_ (fun j1=>?_))
 ·intro c h
  replace h:z99_k1 c=some r:=h
  unfold z99_k1 at h
  cases h
  exact wr J 5 func99 [(1,.sl 1)]
 refine wa J 1 (eLoop (σ:=(List ByteArray) × Int) (fun st=>⟨[(3,.S 1),(6,.S 0),(7,.I (decls_.length:Int)),(8,.I st.2)],[(1,.own rS st.1 true)],[(0,.sl rR0 decls_)],2⟩) (fun n st=>z99_l2 decls_ n st.1 st.2) (r:=r) (fun _=>rfl) ?_ (fun ih=>?_))
 ·intro n2 ih3
  rintro ⟨d,e⟩ h
  replace h:z99_l2 decls_ (n2+1) d e=some r:=h
  unfold z99_l2 at h
  refine wB' J 5 h (fun h=>wa J 2 (eSub [] (j1 d h))) fun h=>?_
  refine wO J 6 h fun f g h=>eIx J oO0 g (wa J 8 (eBs J [] oS ([f.Name]:List ByteArray) ?_))
  obtain ⟨i,j,h⟩:=ob h
  exact eAp J rS j (wa J 7 (eSub [(1,.sl 8)] (ih3 (i,(w64 (e+1))) h)))
 exact eSub [(1,.nil)] (ih N (([]:List ByteArray),0) h)
theorem z153_25_ct (N:Nat) (c0_:ByteArray) (r:ByteArray) (h:z153_25 N c0_=some r) :
 Fn Tryz.prog 153 ⟨1,[.B 0 0],[],[(0,.box [.v (.pointer none),.nil] 132)],2,.t [],[],[(1,.buf r 5),(0,.box [.bp 0 0,.sl 1] 132)]⟩:=by
 refine eFn func153 rfl (fun E F w=>?_)
 unfold z153_25 at h
 refine wa J 6 (ePz (wa J 5 (eCu (eNe func223 (by kernel_rfl) (by kernel_rfl) (by kernel_rfl) (by kernel_rfl) (eCq ?_)))))
 cases h
 exact wr J 4 func153 [(1,.nil)]
theorem z177_26_ct (N:Nat) (c_:Int) (c0_:ByteArray) (r:Unit × ByteArray) (h:z177_26 N c_ c0_=some r) :
 Fn Tryz.prog 177 ⟨1,[.B 0 0,.c (.i .u8 c_)],[],[(0,.box [.v (.pointer none),.nil] 132)],2,.c (.v .nilIface),[],[(1,.buf r.2 5),(0,.box [.bp 0 0,.sl 1] 132)]⟩:=by
 refine eFn func177 rfl (fun E F w=>?_)
 unfold z177_26 at h
 refine wO J 7 h fun x1 d h=>eCl (z153_25_ct N ByteArray.empty _ d) [] [(0,.bp 0 0)] (wa J 9 (eBs J [] (oI .u8) ([c_]:List Int) ?_))
 obtain ⟨x2,e,h⟩:=ob h
 refine eBo (ty:=5) (fr:=true) (q:=2) J e ?_
 cases h
 exact wr J 8 func177 [(1,.sl 3)]
theorem z153_27_ct (N:Nat) (c0_:ByteArray) (r:Unit) (h:z153_27 N c0_=some r) :
 Fn Tryz.prog 153 ⟨2,[.B 0 0],[],[(0,.box [.bp 0 0,.sl 1] 132),(1,.buf c0_ 5)],2,.t [],[],[(0,.box [.bp 0 0,.sl 1] 132),(1,.buf c0_ 5)]⟩:=by
 refine eFn func153 rfl (fun E F w=>?_)
 unfold z153_27 at h
 refine wa J 6 (ePn false (wa J 9 (ePs ?_)))
 cases h
 exact wr J 3 func153 []
theorem z177_28_ct (N:Nat) (c_:Int) (c0_:ByteArray) (r:Unit × ByteArray) (h:z177_28 N c_ c0_=some r) :
 Fn Tryz.prog 177 ⟨2,[.B 0 0,.c (.i .u8 c_)],[],[(0,.box [.bp 0 0,.sl 1] 132),(1,.buf c0_ 5)],3,.c (.v .nilIface),[],[(1,.gone),(2,.buf r.2 5),(0,.box [.bp 0 0,.sl 2] 132)]⟩:=by
 refine eFn func177 rfl (fun E F w=>?_)
 unfold z177_28 at h
 refine wO J 7 h fun x1 d h=>eCl (z153_27_ct N c0_ _ d) [] [(0,.bp 0 0),(1,.sl 1)] (wa J 9 (eBs J [] (oI .u8) ([c_]:List Int) ?_))
 obtain ⟨x2,e,h⟩:=ob h
 refine eBo (ty:=5) (fr:=true) (q:=2) J e ?_
 cases h
 exact wr J 8 func177 [(2,.sl 3)]
theorem z77_29_ct (N:Nat) (c0_:ByteArray) (r:ByteArray) (h:z77_29 N c0_=some r) :
 Fn Tryz.prog 77 ⟨2,[.B 0 0],[],[(0,.box [.bp 0 0,.sl 1] 132),(1,.buf c0_ 5)],2,.c (.s r),[],[(0,.box [.bp 0 0,.sl 1] 132),(1,.gone)]⟩:=by
 refine eFn func77 rfl (fun E F w=>?_)
 unfold z77_29 at h
 refine wO J 10 h fun x1 d h=>eUd (ty:=5) (gdB_ok d) (wa J 4 (eBl (sb:=c0_) (ty:=5) J ?_))
 obtain ⟨x2,e,h⟩:=ob h
 refine eUs (ty:=5) (gdB_ok e) (wa J 1 (eEnd ?_))
 cases h
 exact eRet J func77 []
theorem z101_ct (N:Nat) (v_:T12) (r:ByteArray) (h:z101 N v_=some r) :
 Fn Tryz.prog 101 ⟨1,[.a (cC12 v_)],[],[(0,.abs powT)],1,.c (.s r),[],[(0,.abs powT)]⟩:=by
 refine eFn func101 rfl (fun E F w=>?_)
 unfold z101 at h
 refine wO J 10 h fun x1 d h=>eCl (z169_ct N v_ _ d) [] [] ?_
 refine wB J 3 h (fun h=>?_) fun h=>?_
 ·cases h
  exact wr J 5 func101 []
 refine wB J 8 h (fun h=>?_) fun h=>?_
 ·refine wO J 5 h fun x2 e h=>eCl (z65_ct N v_.N _ e) [] [(0,.sl 0)] ?_
  cases h
  exact wr J 2 func101 []
 refine wO J 9 h fun x3 f h=>eCl (z177_26_ct N 34 ByteArray.empty _ f) [] [(0,.bp 2 0)] (wa J 9 (eCut (σ:=ByteArray) (fun st=>⟨[(3,.B 2 0)],[(0,.abs powT),(2,.box [.bp 2 0,.sl 4] 132),(4,.buf st 5)],[],5⟩) (fun st=>z101_k1 N st=some r) ?_ (fun j1=>?_)))
 ·intro g h
  replace h:z101_k1 N g=some r:=h
  unfold z101_k1 at h
  refine wO J 2 h fun i j h=>eCl (z177_28_ct N 34 g _ j) [] [(0,.bp 2 0),(1,.sl 4)] ?_
  refine wO J 3 h fun k l h=>eCl (z77_29_ct N i.2 _ l) [] [(0,.bp 2 0),(1,.sl 5)] ?_
  cases h
  exact wr J 2 func101 []
 refine wa J 1 (eLoop (σ:=ByteArray × Int) (fun st=>⟨[(1,.B 1 0),(3,.B 2 0),(19,.I (v_.S.size:Int)),(20,.I st.2)],[(0,.abs powT),(1,.box (cC12 v_) 83),(2,.box [.bp 2 0,.sl 4] 132),(4,.buf st.1 5)],[],5⟩) (fun n st=>z101_l2 N v_ n st.1 st.2) (r:=r) (fun _=>rfl) ?_ (fun ih=>?_))
 ·intro n2 ih3
  rintro ⟨m,o⟩ h
  replace h:z101_l2 N v_ (n2+1) m o=some r:=h
  unfold z101_l2 at h
  refine wB' J 5 h (fun h=>wa J 2 (eSub [] (j1 m h))) fun h=>?_
  refine wO J 15 h fun p q h=>eSx J q ?_
  refine wB J 2 h (fun h=>?_) fun h=>?_
  ·refine wO J 9 h fun t u h=>eCl (z177_28_ct N 92 m _ u) [] [(0,.bp 2 0),(1,.sl 4)] ?_
   refine wO J 5 h fun v x h=>eSx J x ?_
   obtain ⟨y,z,h⟩:=ob h
   exact eCl (z177_28_ct N v t.2 _ z) [] [(0,.bp 2 0),(1,.sl 5)] (wa J 6 (eSub [(4,.sl 6)] (ih3 (y.2,(w64 (o+1))) h)))
  refine wO J 3 h fun A C h=>eSx J C ?_
  refine wB' J 3 h (fun h=>?_) fun h=>?_
  ·refine wO J 6 h fun D G h=>eSx J G ?_
   obtain ⟨H,R,h⟩:=ob h
   exact eCl (z177_28_ct N D m _ R) [] [(0,.bp 2 0),(1,.sl 4)] (wa J 6 (eSub [(4,.sl 5)] (ih3 (H.2,(w64 (o+1))) h)))
  refine wO J 2 h fun T U h=>eCl (z177_28_ct N 92 m _ U) [] [(0,.bp 2 0),(1,.sl 4)] ?_
  refine wO J 5 h fun X Y h=>eSx J Y ?_
  obtain ⟨Z,a0,h⟩:=ob h
  exact eCl (z177_28_ct N X T.2 _ a0) [] [(0,.bp 2 0),(1,.sl 5)] (wa J 6 (eSub [(4,.sl 6)] (ih3 (Z.2,(w64 (o+1))) h)))
 exact eSub [(4,.sl 3)] (ih N (x3.2,0) h)
theorem z100_ct (N:Nat) (l_:(List T12)) (r:ByteArray) (h:z100 N l_=some r) :
 Fn Tryz.prog 100 ⟨2,[.S 0],[(0,.sl rR12 l_)],[(1,.abs powT)],2,.c (.s r),[],[(1,.abs powT)]⟩:=by
 refine eFn func100 rfl (fun E F w=>?_)
 unfold z100 at h
 refine wa J 15 (eCut (σ:=(List ByteArray)) (fun st=>⟨[(3,.S 2)],[(1,.abs powT),(2,.own rS st true)],[(0,.sl rR12 l_)],3⟩) (fun st=>z100_k1 N st=some r) ?_ (fun j1=>?_))
 ·intro d h
  replace h:z100_k1 N d=some r:=h
  unfold z100_k1 at h
  refine wO J 3 h fun e f h=>eCb (z40_ct N d (str [44,32]) _ f) [] [(0,.sl 2)] [2] (.inr ⟨rfl,trivial⟩) ?_
  obtain ⟨g,i,h⟩:=ob h
  refine eCa i ?_
  obtain ⟨j,k,h⟩:=ob h
  refine eCa k ?_
  cases h
  exact wr J 2 func100 []
 refine wa J 1 (eLoop (σ:=(List ByteArray) × Int) (fun st=>⟨[(3,.S 2),(6,.S 0),(7,.I (l_.length:Int)),(8,.I st.2)],[(1,.abs powT),(2,.own rS st.1 true)],[(0,.sl rR12 l_)],3⟩) (fun n st=>z100_l2 N l_ n st.1 st.2) (r:=r) (fun _=>rfl) ?_ (fun ih=>?_))
 ·intro n2 ih3
  rintro ⟨l,m⟩ h
  replace h:z100_l2 N l_ (n2+1) l m=some r:=h
  unfold z100_l2 at h
  refine wB' J 5 h (fun h=>wa J 2 (eSub [] (j1 l h))) fun h=>?_
  refine wO J 6 h fun o p h=>eIx J oO12 p ?_
  refine wO J 7 h fun q t h=>eCl (z101_ct N o _ t) [] [(0,.sl 1)] (eBs J [] oS ([q]:List ByteArray) ?_)
  obtain ⟨u,v,h⟩:=ob h
  exact eAp J rS v (wa J 7 (eSub [(2,.sl 6)] (ih3 (u,(w64 (m+1))) h)))
 exact eSub [(2,.nil)] (ih N (([]:List ByteArray),0) h)
theorem z49_ct (N:Nat) (g_:T5) (x_:T3) (r:ByteArray) (h:z49 N g_ x_=some r) :
 Fn Tryz.prog 49 ⟨6,[.a (cC5 0 1 2 3 g_),.a (cC3 4 x_)],(vV5 0 1 2 3 g_ [(4,.sl rR12 x_.Values)]),[(5,.abs powT)],6,.c (.s r),[],[(5,.abs powT)]⟩:=by
 refine eFn func49 rfl (fun E F w=>?_)
 unfold z49 at h
 refine wa J 17 (eCut (σ:=ByteArray × ByteArray) (fun st=>⟨[(2,.B 6 0),(3,.B 7 0),(5,.c (.s st.1)),(6,.c (.s st.2))],[(5,.abs powT),(6,.box (cC5 0 1 2 3 g_) 27),(7,.box (cC3 4 x_) 46)],(vV5 0 1 2 3 g_ [(4,.sl rR12 x_.Values)]),8⟩) (fun st=>z49_k1 N g_ x_ st.1 st.2=some r) ?_ (fun j1=>?_))
 ·rintro ⟨d,e⟩ h
  replace h:z49_k1 N g_ x_ d e=some r:=h
  unfold z49_k1 at h
  refine wO J 6 h fun x1 f h=>eCl (z98_ct N g_.Roles x_.Role _ f) [] [(0,.sl 0)] ?_
  refine wO J 1 h fun x2 g h=>eCa g ?_
  refine wO J 2 h fun x3 i h=>eCl (z99_ct N g_.Decls _ i) [] [(0,.sl 1)] ?_
  refine wO J 2 h fun x4 j h=>eCb (z98_ct N x3 x_.Label _ j) [] [(0,.sl 8)] [8] (.inr ⟨rfl,trivial⟩) ?_
  obtain ⟨x5,k,h⟩:=ob h
  refine eCa k ?_
  refine wO J 2 h fun x6 l h=>eCl (z100_ct N x_.Values _ l) [] [(0,.sl 4),(1,.sl 5)] ?_
  obtain ⟨x7,m,h⟩:=ob h
  refine eCa m ?_
  refine wO J 1 h fun x8 o h=>eCa o ?_
  refine wO J 4 h fun x9 p h=>eCl (z98_ct N g_.Roles x_.Peer _ p) [] [(0,.sl 0)] ?_
  obtain ⟨q,t,h⟩:=ob h
  refine eCa t (wa J 1 (eEnd ?_))
  cases h
  exact eRet J func49 []
 exact eB h (fun h=>wa J 5 (eSub [] (j1 ((str [32,115,101,110,100,115,32]),(str [32,116,111,32])) h))) fun h=>wa J 2 (eSub [] (j1 ((str [32,103,101,116,115,32]),(str [32,102,114,111,109,32])) h))
theorem z50_ct (N:Nat) (g_:T5) (m_:T8) (b_:T13) (x_:T3) (r:ByteArray) (h:z50 N g_ m_ b_ x_=some r) :
 Fn Tryz.prog 50 ⟨9,[.a (cC5 0 1 2 3 g_),.a (cC8 4 5 6 m_),.a (cC13 b_),.a (cC3 7 x_)],((0,.sl rS g_.Roles)::(1,.sl rR0 g_.Decls)::(2,.sl rR2 g_.Edges)::(3,.sl rR11 g_.Timeouts)::vV8 4 5 6 m_ [(7,.sl rR12 x_.Values)]),[(8,.abs powT)],9,.c (.s r),[],[(8,.abs powT)]⟩:=by
 refine eFn func50 rfl (fun E F w=>?_)
 unfold z50 at h
 refine wB J 20 h (fun h=>?_) fun h=>?_
 ·refine wO J 7 h fun x1 d h=>eCl (z98_ct N g_.Roles m_.Role _ d) [] [(0,.sl 0)] ?_
  obtain ⟨x2,e,h⟩:=ob h
  refine eCa e ?_
  cases h
  exact wr J 2 func50 []
 refine wB J 6 h (fun h=>?_) fun h=>?_
 ·cases h
  exact wr J 5 func50 []
 refine wB J 6 h (fun h=>?_) fun h=>?_
 ·refine wO J 6 h fun x3 f h=>eCl (z65_ct N (x_.Values.length:Int) _ f) [] [(0,.sl 8)] ?_
  obtain ⟨x4,g,h⟩:=ob h
  refine eCa g ?_
  obtain ⟨x5,i,h⟩:=ob h
  refine eCa i ?_
  refine wO J 4 h fun x6 j h=>eIx J oO0 j ?_
  refine wO J 3 h fun x7 k h=>eCl (z65_ct N (x6.Fields.length:Int) _ k) [] [(0,.sl 8)] ?_
  obtain ⟨x8,l,h⟩:=ob h
  refine eCa l (wa J 1 (eEnd ?_))
  cases h
  exact eRet J func50 []
 refine wB' J 6 h (fun h=>?_) fun h=>?_
 ·refine wB' J 6 h (fun h=>?_) fun h=>?_
  ·cases h
   exact wr J 7 func50 []
  refine wO J 9 h fun m o h=>eCl (z39_ct N g_.Decls x_.Label b_.Part _ o) [] [(0,.sl 1),(1,.sl 8)] ?_
  obtain ⟨p,q,h⟩:=ob h
  refine eCa q ?_
  cases h
  exact wr J 2 func50 []
 refine wO J 7 h fun x9 t h=>eIx J oO0 t ?_
 refine wO J 4 h fun u v h=>eIx J oO4 v (wa J 3 (eEnd ?_))
 refine wO J 6 h fun x y h=>eIx J oO12 y ?_
 refine wO J 1 h fun z A h=>eCl (z101_ct N x _ A) [] [(0,.sl 8)] ?_
 obtain ⟨C,D,h⟩:=ob h
 refine eCa D ?_
 obtain ⟨G,H,h⟩:=ob h
 refine eCa H ?_
 refine wO J 2 h fun R T h=>eCa T ?_
 obtain ⟨U,X,h⟩:=ob h
 refine eCa X ?_
 refine wO J 3 h fun Y Z h=>eCl (z65_ct N u.Sort'.Lo _ Z) [] [(0,.sl 8)] ?_
 obtain ⟨a0,b0,h⟩:=ob h
 refine eCa b0 ?_
 obtain ⟨c0,d0,h⟩:=ob h
 refine eCa d0 ?_
 refine wO J 3 h fun e0 f0 h=>eCl (z65_ct N u.Sort'.Hi _ f0) [] [(0,.sl 8)] ?_
 obtain ⟨g0,i0,h⟩:=ob h
 refine eCa i0 (wa J 1 (eEnd ?_))
 cases h
 exact eRet J func50 []
theorem z18_ct (N:Nat) (g_:T5) (m_:T8) (history_:(List T3)) (r:ByteArray × Int) (h:z18 N g_ m_ history_=some r) :
 Fn Tryz.prog 18 ⟨9,[.a (cC5 0 1 2 3 g_),.a (cC8 4 5 6 m_),.S 7],((0,.sl rS g_.Roles)::(1,.sl rR0 g_.Decls)::(2,.sl rR2 g_.Edges)::(3,.sl rR11 g_.Timeouts)::vV8 4 5 6 m_ [(7,.sl rR3 history_)]),[(8,.abs powT)],9,.t [.inl (.s r.1),.inl (.I r.2)],[],[(8,.abs powT)]⟩:=by
 refine eFn func18 rfl (fun E F w=>?_)
 unfold z18 at h
 refine wO J 12 h fun x1 c h=>eCl (z48_ct N g_ m_ history_ _ c) [] [(0,.sl 0),(1,.sl 1),(2,.sl 2),(3,.sl 3),(4,.sl 4),(5,.sl 5),(6,.sl 6),(7,.sl 7)] ?_
 refine wB J 15 h (fun h=>?_) fun h=>?_
 ·cases h
  exact wr J 11 func18 []
 refine wB J 4 h (fun h=>?_) fun h=>?_
 ·cases h
  exact wr J 7 func18 []
 refine wO J 7 h fun x2 d h=>eIx J oO3 d ?_
 refine wO J 8 h fun x3 e h=>eCl (z49_ct N g_ x2 _ e) [] [(0,.sl 0),(1,.sl 1),(2,.sl 2),(3,.sl 3),(4,.sl 13),(5,.sl 8)] ?_
 obtain ⟨x4,f,h⟩:=ob h
 refine eCa f ?_
 refine wO J 4 h fun x5 g h=>eCl (z50_ct N g_ m_ x1.1 x2 _ g) [] [(0,.sl 0),(1,.sl 1),(2,.sl 2),(3,.sl 3),(4,.sl 4),(5,.sl 5),(6,.sl 6),(7,.sl 13),(8,.sl 8)] ?_
 obtain ⟨x6,i,h⟩:=ob h
 refine eCa i (wa J 2 (eEnd ?_))
 cases h
 exact eRet J func18 []
theorem z15_ct (N:Nat) (g_:T5) (m_:T8) (history_:(List T3)) (x_:T3) (r:ByteArray × Int) (h:z15 N g_ m_ history_ x_=some r) :
 Fn Tryz.prog 15 ⟨10,[.a (cC5 0 1 2 3 g_),.a (cC8 4 5 6 m_),.S 7,.a (cC3 8 x_)],((0,.sl rS g_.Roles)::(1,.sl rR0 g_.Decls)::(2,.sl rR2 g_.Edges)::(3,.sl rR11 g_.Timeouts)::vV8 4 5 6 m_ [(7,.sl rR3 history_),(8,.sl rR12 x_.Values)]),[(9,.abs powT)],10,.t [.inl (.s r.1),.inl (.I r.2)],[],[(9,.abs powT)]⟩:=by
 refine eFn func15 rfl (fun E F w=>?_)
 unfold z15 at h
 refine wO J 13 h fun x1 c h=>eCl (z17_ct N g_ m_ history_ _ c) [] [(0,.sl 0),(1,.sl 1),(2,.sl 2),(3,.sl 3),(4,.sl 4),(5,.sl 5),(6,.sl 6),(7,.sl 7)] ?_
 refine wB J 17 h (fun h=>?_) fun h=>?_
 ·cases h
  exact wr J 6 func15 []
 refine wB J 7 h (fun h=>?_) fun h=>?_
 ·cases h
  exact wr J 6 func15 []
 refine wO J 8 h fun x2 d h=>eCl (z44_ct N history_ _ d) [] [(0,.sl 7)] (wa J 1 (eBs J [] oO3 ([x_]:List T3) ?_))
 obtain ⟨x3,e,h⟩:=ob h
 refine eAp J rR3 e ?_
 obtain ⟨x4,f,h⟩:=ob h
 refine eCl (z18_ct N g_ m_ x3 _ f) [18] [(0,.sl 0),(1,.sl 1),(2,.sl 2),(3,.sl 3),(4,.sl 4),(5,.sl 5),(6,.sl 6),(7,.sl 18),(8,.sl 9)] (wa J 5 (eEnd ?_))
 refine wB J 6 h (fun h=>?_) fun h=>?_
 ·cases h
  exact wr J 11 func15 []
 refine wB J 4 h (fun h=>?_) fun h=>?_
 ·cases h
  exact wr J 7 func15 []
 refine wO J 8 h fun x5 g h=>eCl (z31_ct N g_ m_ x1.1.At _ g) [] [(0,.sl 0),(1,.sl 1),(2,.sl 2),(3,.sl 3),(4,.sl 4),(5,.sl 5),(6,.sl 6),(7,.sl 9)] ?_
 obtain ⟨x6,i,h⟩:=ob h
 refine eCb (z40_ct N x5 (str [59,32]) _ i) [] [(0,.sl 19)] [19] (.inr ⟨rfl,trivial⟩) ?_
 refine wB J 8 h (fun h=>?_) fun h=>?_
 ·refine wO J 7 h fun x7 j h=>eCa j ?_
  refine wO J 1 h fun x8 k h=>eCa k ?_
  cases h
  exact wr J 3 func15 []
 refine wO J 5 h fun x9 l h=>eCa l ?_
 refine wO J 1 h fun m o h=>eCa o ?_
 cases h
 exact wr J 3 func15 []
theorem z248_ct (N:Nat) (i_:Int) (j_:Int) (r:Int) (h:z248 N i_ j_=some r) :
 Fn Tryz.prog 248 ⟨0,[.I i_,.I j_],[],[],0,.I r,[],[]⟩:=by
 refine eFn func248 rfl (fun E F w=>?_)
 unfold z248 at h
 refine wB J 13 h (fun h=>?_) fun h=>?_
 ·cases h
  exact wr J 5 func248 []
 refine wB J 6 h (fun h=>?_) fun h=>?_
 ·cases h
  exact wr J 10 func248 []
 refine wB J 5 h (fun h=>?_) fun h=>?_
 ·cases h
  exact wr J 5 func248 []
 cases h
 exact wr J 7 func248 []
theorem z195_ct (N:Nat) (n_:Int) (r:T17) (h:z195 N n_=some r) :
 Fn Tryz.prog 195 ⟨0,[.I n_],[],[],1,.a (cC17 0 r),[(0,.sl (rI .i64) r.B)],[]⟩:=by
 refine eFn func195 rfl (fun E F w=>?_)
 unfold z195 at h
 refine wO J 12 h fun x1 c h=>eMk J (oI .i64) c (wa J 11 (eCut (σ:=(List Int)) (fun st=>(zz10 st n_ [(2,.B 0 0),(3,.B 2 0)])) (fun st=>z195_k1 n_ st=some r) ?_ (fun j1=>?_)))
 ·intro d h
  replace h:z195_k1 n_ d=some r:=h
  unfold z195_k1 at h
  refine wa J 5 (eFr [1] ?_)
  cases h
  exact eRet J func195 [(0,.sl 1)]
 refine wa J 1 (eLoop (σ:=(List Int) × Int) (fun st=>(zz10 st.1 n_ [(0,.I n_),(2,.B 0 0),(3,.B 2 0),(15,.I (w64 (n_+1))),(16,.I st.2)])) (fun n st=>z195_l2 N n_ n st.1 st.2) (r:=r) (fun _=>rfl) ?_ (fun ih=>?_))
 ·intro n12 ih12
  rintro ⟨e,f⟩ h
  replace h:z195_l2 N n_ (n12+1) e f=some r:=h
  unfold z195_l2 at h
  refine wB' J 5 h (fun h=>wa J 2 (eSub [] (j1 e h))) fun h=>wa J 15 (eCut (σ:=(List Int)) (fun st=>(zz10 st n_ [(0,.I n_),(2,.B 0 0),(3,.B 2 0),(15,.I (w64 (n_+1))),(16,.I f)])) (fun st=>z195_k3 f (z195_l2 N n_ n12) st=some r) ?_ (fun j19=>?_))
  ·intro g h
   replace h:z195_k3 f (z195_l2 N n_ n12) g=some r:=h
   unfold z195_k3 at h
   exact wa J 5 (eSub [] (ih12 (g,(w64 (f+1))) h))
  refine wa J 1 (eLoop (σ:=(List Int) × Int) (fun st=>(zz10 st.1 n_ [(0,.I n_),(2,.B 0 0),(3,.B 2 0),(4,.I f),(15,.I (w64 (n_+1))),(16,.I f),(20,.I (w64 (n_+1))),(21,.I st.2)])) (fun n st=>z195_l4 N n_ f (z195_l2 N n_ n12) n st.1 st.2) (r:=r) (fun _=>rfl) ?_ (fun ih=>?_))
  ·intro n14 ih21
   rintro ⟨i,j⟩ h
   replace h:z195_l4 N n_ f (z195_l2 N n_ n12) (n14+1) i j=some r:=h
   unfold z195_l4 at h
   refine wB' J 5 h (fun h=>wa J 2 (eSub [] (j19 i h))) fun h=>?_
   refine wO J 20 h fun k l h=>eCl (z248_ct N f j _ l) [] [] ?_
   obtain ⟨m,o,h⟩:=ob h
   exact eIo J (rI .i64) o (eSt J [] (oI .i64) k o (eEnd (wa J 5 (eSub [] (ih21 ((setL' i (w64 ((w64 (f * (w64 (n_+1))))+j)) k),(w64 (j+1))) h)))))
  exact eSub [] (ih N (e,0) h)
 exact eSub [] (ih N (x1,0) h)
theorem z109_ct (N:Nat) (n_:Int) (r:T17 × Int) (h:z109 N n_=some r) :
 Fn Tryz.prog 109 ⟨0,[.I n_],[],[],1,.t [.inr (cC17 0 r.1),.inl (.I r.2)],[(0,.sl (rI .i64) r.1.B)],[]⟩:=by
 refine eFn func109 rfl (fun E F w=>?_)
 unfold z109 at h
 refine wB J 11 h (fun h=>?_) fun h=>?_
 ·cases h
  exact wr J 11 func109 [(0,.nil)]
 refine wB J 4 h (fun h=>?_) fun h=>?_
 ·cases h
  exact wr J 7 func109 [(0,.nil)]
 refine wO J 5 h fun x1 c h=>eCl (z195_ct N n_ _ c) [] [] ?_
 cases h
 exact wr J 3 func109 [(0,.sl 1)]
end Gx
end
