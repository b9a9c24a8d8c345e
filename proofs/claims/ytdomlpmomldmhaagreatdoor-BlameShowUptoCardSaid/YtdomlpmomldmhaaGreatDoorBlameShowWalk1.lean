/- Each function of the statement computes what its plain definition says, part 1. -/
import Derived.Test.YtdomlpmomldmhaaGreatDoorBlameShowBase
import Derived.Test.YtdomlpmomldmhaaGreatDoorBlameShowLib
set_option linter.all false
section
set_option maxRecDepth 10000
set_option maxHeartbeats 4000000
open Go Go.Kx Go.Proofs Tryz
namespace Gx
theorem z83_ct (N:Nat) (n_:Int) (r:T12) (h:z83 N n_=some r) :
 Fn Tryz.prog 83 ⟨0,[.I n_],[],[],0,.a (cC12 r),[],[]⟩:=by
 refine eFn func83 rfl (fun E F w=>?_)
 unfold z83 at h
 cases h
 exact wr J 10 func83 []
theorem z292_ct (N:Nat) (c_:Int) (r:Bool) (h:z292 N c_=some r) :
 Fn Tryz.prog 292 ⟨0,[.c (.i .u8 c_)],[],[],0,.O r,[],[]⟩:=by
 refine eFn func292 rfl (fun E F w=>?_)
 unfold z292 at h
 obtain ⟨K,h⟩|⟨K,h⟩:=oc' h
 ·refine wH J 9 K ?_
  obtain ⟨K,h⟩|⟨K,h⟩:=oc h
  ·refine wH J 7 K ?_
   cases h
   exact wr J 6 func292 []
  refine wH J 7 K ?_
  cases h
  exact wr J 6 func292 []
 refine wH J 9 K ?_
 obtain ⟨K,h⟩|⟨K,h⟩:=oc h
 ·refine wH J 4 K ?_
  cases h
  exact wr J 9 func292 []
 refine wH J 4 K ?_
 obtain ⟨K,h⟩|⟨K,h⟩:=oc h
 ·refine wH J 3 K ?_
  cases h
  exact wr J 6 func292 []
 refine wH J 3 K ?_
 cases h
 exact wr J 6 func292 []
theorem z312_ct (N:Nat) (c_:Int) (r:Bool) (h:z312 N c_=some r) :
 Fn Tryz.prog 312 ⟨0,[.c (.i .u8 c_)],[],[],0,.O r,[],[]⟩:=by
 refine eFn func312 rfl (fun E F w=>?_)
 unfold z312 at h
 obtain ⟨K,h⟩|⟨K,h⟩:=oc h
 ·refine wH J 9 K ?_
  cases h
  exact wr J 5 func312 []
 refine wH J 9 K ?_
 cases h
 exact wr J 5 func312 []
theorem z293_ct (N:Nat) (c_:Int) (r:Bool) (h:z293 N c_=some r) :
 Fn Tryz.prog 293 ⟨0,[.c (.i .u8 c_)],[],[],0,.O r,[],[]⟩:=by
 refine eFn func293 rfl (fun E F w=>?_)
 unfold z293 at h
 obtain ⟨x1,d,h⟩:=ob h
 refine wa J 7 (eCl (z292_ct N c_ _ d) [] [] ?_)
 obtain ⟨K,h⟩|⟨K,h⟩:=oc h
 ·refine wH J 1 K ?_
  cases h
  exact wr J 9 func293 []
 refine wH J 1 K ?_
 obtain ⟨x2,e,h⟩:=ob h
 refine wa J 1 (eCl (z312_ct N c_ _ e) [] [] ?_)
 obtain ⟨K,h⟩|⟨K,h⟩:=oc h
 ·refine wH J 2 K ?_
  cases h
  exact wr J 5 func293 []
 refine wH J 2 K ?_
 cases h
 exact wr J 5 func293 []
theorem z268_ct (N:Nat) (s_:ByteArray) (r:Bool) (h:z268 N s_=some r) :
 Fn Tryz.prog 268 ⟨0,[.c (.s s_)],[],[],0,.O r,[],[]⟩:=by
 refine eFn func268 rfl (fun E F w=>?_)
 unfold z268 at h
 obtain ⟨K,h⟩|⟨K,h⟩:=oc h
 ·refine wH J 10 K ?_
  cases h
  exact wr J 16 func268 []
 refine wH J 10 K ?_
 obtain ⟨K,h⟩|⟨K,h⟩:=oc h
 ·refine wH J 5 K ?_
  cases h
  exact wr J 11 func268 []
 refine wH J 5 K ?_
 obtain ⟨x1,d,h⟩:=ob h
 refine wa J 1 (eSx J d ?_)
 obtain ⟨x2,e,h⟩:=ob h
 refine eCl (z292_ct N x1 _ e) [] [] ?_
 obtain ⟨K,h⟩|⟨K,h⟩:=oc h
 ·refine wH J 3 K ?_
  cases h
  exact wr J 5 func268 []
 refine wH J 3 K (wa J 9 (eCut (σ:=Unit) (fun st=>(zz0 [])) (fun st=>z268_k1=some r) ?_ (fun j1=>?_)))
 ·intro _ h
  replace h:z268_k1=some r:=h
  unfold z268_k1 at h
  cases h
  exact wr J 4 func268 []
 refine wa J 1 (eLoop (σ:=Int) (fun st=>(zz0 [(0,.c (.s s_)),(18,.I (s_.size:Int)),(19,.I st)])) (fun n st=>z268_l2 N s_ n st) (r:=r) (fun _=>rfl) ?_ (fun ih=>?_))
 ·intro n2 ih3
  intro f h
  replace h:z268_l2 N s_ (n2+1) f=some r:=h
  unfold z268_l2 at h
  obtain ⟨K,h⟩|⟨K,h⟩:=oc' h
  ·exact wH J 5 K (wa J 2 (eSub [] (j1 () h)))
  refine wH J 5 K ?_
  obtain ⟨g,i,h⟩:=ob h
  refine wa J 13 (eSx J i ?_)
  obtain ⟨j,k,h⟩:=ob h
  refine eCl (z293_ct N g _ k) [] [] ?_
  obtain ⟨K,h⟩|⟨K,h⟩:=oc h
  ·refine wH J 2 K ?_
   cases h
   exact wr J 5 func268 []
  exact wH J 2 K (wa J 7 (eSub [] (ih3 (w64 (f+1)) h)))
 exact eSub [] (ih N 0 h)
theorem z278_ct (N:Nat) (s_:(List ByteArray)) (v_:ByteArray) (r:Int) (h:z278 N s_ v_=some r) :
 Fn Tryz.prog 278 ⟨1,[.S 0,.c (.s v_)],[(0,.sl rS s_)],[],1,.I r,[],[]⟩:=by
 refine eFn func278 rfl (fun E F w=>?_)
 unfold z278 at h
 refine wa J 11 (eCut (σ:=Unit) (fun st=>(zz2 s_ [])) (fun st=>z278_k1=some r) ?_ (fun j1=>?_))
 ·intro _ h
  replace h:z278_k1=some r:=h
  unfold z278_k1 at h
  cases h
  exact wr J 4 func278 []
 refine wa J 1 (eLoop (σ:=Int) (fun st=>(zz2 s_ [(0,.S 0),(1,.c (.s v_)),(7,.I (s_.length:Int)),(8,.I st)])) (fun n st=>z278_l2 s_ v_ n st) (r:=r) (fun _=>rfl) ?_ (fun ih=>?_))
 ·intro n2 ih3
  intro d h
  replace h:z278_l2 s_ v_ (n2+1) d=some r:=h
  unfold z278_l2 at h
  obtain ⟨K,h⟩|⟨K,h⟩:=oc' h
  ·exact wH J 5 K (wa J 2 (eSub [] (j1 () h)))
  refine wH J 5 K ?_
  obtain ⟨x9,e,h⟩:=ob h
  refine wa J 14 (eIx J oS e ?_)
  obtain ⟨K,h⟩|⟨K,h⟩:=oc h
  ·refine wH J 3 K ?_
   cases h
   exact wr J 6 func278 []
  exact wH J 3 K (wa J 7 (eSub [] (ih3 (w64 (d+1)) h)))
 exact eSub [] (ih N 0 h)
theorem z257_ct (N:Nat) (s_:(List ByteArray)) (v_:ByteArray) (r:Bool) (h:z257 N s_ v_=some r) :
 Fn Tryz.prog 257 ⟨1,[.S 0,.c (.s v_)],[(0,.sl rS s_)],[],1,.O r,[],[]⟩:=by
 refine eFn func257 rfl (fun E F w=>?_)
 unfold z257 at h
 obtain ⟨x1,d,h⟩:=ob h
 refine wa J 8 (eCl (z278_ct N s_ v_ _ d) [] [(0,.sl 0)] ?_)
 cases h
 exact wr J 3 func257 []
theorem z220_ct (N:Nat) (s_:ByteArray) (r:Bool) (h:z220 N s_=some r) :
 Fn Tryz.prog 220 ⟨0,[.c (.s s_)],[],[],0,.O r,[],[]⟩:=by
 refine eFn func220 rfl (fun E F w=>?_)
 unfold z220 at h
 obtain ⟨x1,d,h⟩:=ob h
 refine wa J 13 (eCl (z268_ct N s_ _ d) [] [] ?_)
 obtain ⟨K,h⟩|⟨K,h⟩:=oc' h
 ·refine wH J 1 K ?_
  cases h
  exact wr J 7 func220 []
 refine wH J 1 K (eSb [] oS ([(str [97,103,97,105,110]),(str [97,110,100]),(str [97,115]),(str [97,116]),(str [99,97,108,108]),(str [99,104,111,105,99,101]),(str [101,108,115,101]),(str [102,114,111,109]),(str [105,102]),(str [105,110,116]),(str [108,101,110]),(str [108,111,111,112]),(str [109,101,115,115,97,103,101]),(str [111,102]),(str [111,102,102,101,114]),(str [111,110]),(str [111,114]),(str [112,97,114]),(str [112,108,97,121,115]),(str [112,114,111,116,111,99,111,108]),(str [115,101,114,118,105,99,101]),(str [116,101,120,116]),(str [116,105,109,101,115]),(str [116,111]),(str [118,97,114]),(str [119,104,101,114,101]),(str [119,104,105,108,101]),(str [119,105,116,104,105,110])]:List ByteArray) ?_)
 obtain ⟨x2,e,h⟩:=ob h
 refine wa J 1 (eCb (z257_ct N ([(str [97,103,97,105,110]),(str [97,110,100]),(str [97,115]),(str [97,116]),(str [99,97,108,108]),(str [99,104,111,105,99,101]),(str [101,108,115,101]),(str [102,114,111,109]),(str [105,102]),(str [105,110,116]),(str [108,101,110]),(str [108,111,111,112]),(str [109,101,115,115,97,103,101]),(str [111,102]),(str [111,102,102,101,114]),(str [111,110]),(str [111,114]),(str [112,97,114]),(str [112,108,97,121,115]),(str [112,114,111,116,111,99,111,108]),(str [115,101,114,118,105,99,101]),(str [116,101,120,116]),(str [116,105,109,101,115]),(str [116,111]),(str [118,97,114]),(str [119,104,101,114,101]),(str [119,104,105,108,101]),(str [119,105,116,104,105,110])]:List ByteArray) s_ _ e) [] [(0,.sl 1)] [1] (.inr ⟨rfl,trivial⟩) ?_)
 cases h
 exact wr J 4 func220 []
theorem z204_ct (N:Nat) (g_:T5) (r:Bool) (h:z204 N g_=some r) :
 Fn Tryz.prog 204 ⟨4,[.a (cC5 0 1 2 3 g_)],(vV5 0 1 2 3 g_ []),[],4,.O r,[],[]⟩:=by
 refine eFn func204 rfl (fun E F w=>?_)
 unfold z204 at h
 obtain ⟨x1,c,h⟩:=ob h
 refine wa J 10 (eCl (z220_ct N g_.Name _ c) [] [] ?_)
 obtain ⟨K,h⟩|⟨K,h⟩:=oc h
 ·refine wH J 2 K ?_
  cases h
  exact wr J 17 func204 []
 refine wH J 2 K ?_
 obtain ⟨K,h⟩|⟨K,h⟩:=oc h
 ·refine wH J 6 K ?_
  cases h
  exact wr J 11 func204 []
 refine wH J 6 K ?_
 obtain ⟨K,h⟩|⟨K,h⟩:=oc h
 ·refine wH J 6 K ?_
  cases h
  exact wr J 5 func204 []
 refine wH J 6 K (wa J 10 (eCut (σ:=Unit) (fun st=>⟨[],[],(vV5 0 1 2 3 g_ []),5⟩) (fun st=>z204_k1=some r) ?_ (fun j1=>?_)))
 ·intro _ h
  replace h:z204_k1=some r:=h
  unfold z204_k1 at h
  cases h
  exact wr J 4 func204 []
 refine wa J 1 (eLoop (σ:=Int) (fun st=>(zz8 g_ [(1,.B 4 0),(22,.S 0),(23,.I (g_.Roles.length:Int)),(24,.I st)])) (fun n st=>z204_l2 N g_ n st) (r:=r) (fun _=>rfl) ?_ (fun ih=>?_))
 ·intro n2 ih3
  intro d h
  replace h:z204_l2 N g_ (n2+1) d=some r:=h
  unfold z204_l2 at h
  obtain ⟨K,h⟩|⟨K,h⟩:=oc' h
  ·exact wH J 5 K (wa J 2 (eSub [] (j1 () h)))
  refine wH J 5 K ?_
  obtain ⟨e,f,h⟩:=ob h
  refine wa J 7 (eIx J oS f ?_)
  obtain ⟨g,i,h⟩:=ob h
  refine wa J 7 (eCl (z220_ct N e _ i) [] [] ?_)
  obtain ⟨K,h⟩|⟨K,h⟩:=oc h
  ·refine wH J 2 K ?_
   cases h
   exact wr J 13 func204 []
  refine wH J 2 K ?_
  obtain ⟨j,k,h⟩:=ob h
  refine wa J 3 (eIs J rS k ?_)
  obtain ⟨l,m,h⟩:=ob h
  refine wa J 1 (eCl (z257_ct N j e _ m) [] [(0,.sl 6)] ?_)
  obtain ⟨K,h⟩|⟨K,h⟩:=oc h
  ·refine wH J 2 K ?_
   cases h
   exact wr J 5 func204 []
  exact wH J 2 K (wa J 7 (eSub [] (ih3 (w64 (d+1)) h)))
 exact eSub [] (ih N 0 h)
theorem z205_ct (N:Nat) (g_:T5) (r:Bool) (h:z205 N g_=some r) :
 Fn Tryz.prog 205 ⟨4,[.a (cC5 0 1 2 3 g_)],(vV5 0 1 2 3 g_ []),[],4,.O r,[],[]⟩:=by
 refine eFn func205 rfl (fun E F w=>?_)
 unfold z205 at h
 obtain ⟨K,h⟩|⟨K,h⟩:=oc h
 ·refine wH J 12 K ?_
  cases h
  exact wr J 34 func205 []
 refine wH J 12 K ?_
 obtain ⟨K,h⟩|⟨K,h⟩:=oc h
 ·refine wH J 5 K ?_
  cases h
  exact wr J 29 func205 []
 refine wH J 5 K ?_
 obtain ⟨K,h⟩|⟨K,h⟩:=oc h
 ·refine wH J 8 K ?_
  cases h
  exact wr J 21 func205 []
 refine wH J 8 K ?_
 obtain ⟨K,h⟩|⟨K,h⟩:=oc h
 ·refine wH J 10 K ?_
  cases h
  exact wr J 11 func205 []
 refine wH J 10 K ?_
 obtain ⟨K,h⟩|⟨K,h⟩:=oc h
 ·refine wH J 6 K ?_
  cases h
  exact wr J 5 func205 []
 refine wH J 6 K (wa J 10 (eCut (σ:=Unit) (fun st=>⟨[],[],(vV5 0 1 2 3 g_ []),5⟩) (fun st=>z205_k1=some r) ?_ (fun j1=>?_)))
 ·intro _ h
  replace h:z205_k1=some r:=h
  unfold z205_k1 at h
  cases h
  exact wr J 4 func205 []
 refine wa J 1 (eLoop (σ:=Int) (fun st=>(zz8 g_ [(1,.B 4 0),(39,.S 2),(40,.I (g_.Edges.length:Int)),(41,.I st)])) (fun n st=>z205_l2 g_ n st) (r:=r) (fun _=>rfl) ?_ (fun ih=>?_))
 ·intro n2 ih3
  intro c h
  replace h:z205_l2 g_ (n2+1) c=some r:=h
  unfold z205_l2 at h
  obtain ⟨K,h⟩|⟨K,h⟩:=oc' h
  ·exact wH J 5 K (wa J 2 (eSub [] (j1 () h)))
  refine wH J 5 K ?_
  obtain ⟨x9,d,h⟩:=ob h
  refine wa J 6 (eIx J oO2 d ?_)
  obtain ⟨K,h⟩|⟨K,h⟩:=oc h
  ·refine wH J 26 K ?_
   cases h
   exact wr J 41 func205 []
  refine wH J 26 K ?_
  obtain ⟨K,h⟩|⟨K,h⟩:=oc h
  ·refine wH J 10 K ?_
   cases h
   exact wr J 31 func205 []
  refine wH J 10 K ?_
  obtain ⟨K,h⟩|⟨K,h⟩:=oc h
  ·refine wH J 11 K ?_
   cases h
   exact wr J 20 func205 []
  refine wH J 11 K ?_
  obtain ⟨K,h⟩|⟨K,h⟩:=oc h
  ·refine wH J 7 K ?_
   cases h
   exact wr J 13 func205 []
  refine wH J 7 K ?_
  obtain ⟨K,h⟩|⟨K,h⟩:=oc h
  ·refine wH J 8 K ?_
   cases h
   exact wr J 5 func205 []
  exact wH J 8 K (wa J 7 (eSub [] (ih3 (w64 (c+1)) h)))
 exact eSub [] (ih N 0 h)
theorem z158_ct (N:Nat) (l_:(List T0)) (r:(List T4)) (h:z158 N l_=some r) :
 Fn Tryz.prog 158 ⟨1,[.S 0],[(0,.sl rR0 l_)],[],2,.S 1,[],[(1,.own rR4 r true)]⟩:=by
 refine eFn func158 rfl (fun E F w=>?_)
 unfold z158 at h
 refine wa J 15 (eCut (σ:=(List T4)) (fun st=>(zz13 st l_ [(3,.S 1)])) (fun st=>z158_k1 st=some r) ?_ (fun j1=>?_))
 ·intro c h
  replace h:z158_k1 c=some r:=h
  unfold z158_k1 at h
  cases h
  exact wr J 5 func158 [(1,.sl 1)]
 refine wa J 1 (eLoop (σ:=(List T4) × Int) (fun st=>(zz13 st.1 l_ [(3,.S 1),(6,.S 0),(7,.I (l_.length:Int)),(8,.I st.2)])) (fun n st=>z158_l2 l_ n st.1 st.2) (r:=r) (fun _=>rfl) ?_ (fun ih=>?_))
 ·intro n2 ih3
  rintro ⟨d,e⟩ h
  replace h:z158_l2 l_ (n2+1) d e=some r:=h
  unfold z158_l2 at h
  obtain ⟨K,h⟩|⟨K,h⟩:=oc' h
  ·exact wH J 5 K (wa J 2 (eSub [] (j1 d h)))
  refine wH J 5 K ?_
  obtain ⟨f,g,h⟩:=ob h
  refine wa J 6 (eIx J oO0 g ?_)
  obtain ⟨i,j,h⟩:=ob h
  exact wa J 8 (eAp J rR4 j (wa J 7 (eSub [(1,.sl 7)] (ih3 (i,(w64 (e+1))) h))))
 exact eSub [(1,.nil)] (ih N (([]:List T4),0) h)
theorem z318_ct (N:Nat) (s_:ByteArray) (r:Int) (h:z318 N s_=some r) :
 Fn Tryz.prog 318 ⟨0,[.c (.s s_)],[],[],0,.I r,[],[]⟩:=by
 refine eFn func318 rfl (fun E F w=>?_)
 unfold z318 at h
 refine wa J 8 (eRn J (fun bk1=>wa J 1 (eCut (σ:=Int × Nat) (fun st=>(zz3 (itR bk1 s_ st.2) [(2,.I st.1)])) (fun st=>z318_k1 st.1 st.2=some r) ?_ (fun j1=>?_))))
 ·rintro ⟨d,vi0_1⟩ h
  replace h:z318_k1 d vi0_1=some r:=h
  unfold z318_k1 at h
  cases h
  exact wr J 5 func318 []
 refine wa J 1 (eLoop (σ:=Int × Nat) (fun st=>(zz3 (itR bk1 s_ st.2) [(2,.I st.1),(4,.c (.v (.pointer (some ⟨bk1,0,none⟩))))])) (fun n st=>z318_l2 s_ n st.1 st.2) (r:=r) (fun _=>rfl) ?_ (fun ih=>?_))
 ·intro n2 ih3
  rintro ⟨e,vi0_3⟩ h
  replace h:z318_l2 s_ (n2+1) e vi0_3=some r:=h
  unfold z318_l2 at h
  obtain ⟨K,h⟩|⟨K,h⟩:=oc h
  ·exact wa J 2 (eNt bk1 0 K (wa J 12 (eSub [] (ih3 ((w64 (e+1)),(vi0_3+(Utf8.decode s_ vi0_3).2)) h))))
  exact wa J 2 (eNf bk1 0 K (wa J 5 (eSub [] (j1 (e,vi0_3) h))))
 exact eSub [] (ih N (0,(0:Nat)) h)
theorem z324_ct (N:Nat) (s_:ByteArray) (r:Int × Int) (h:z324 N s_=some r) :
 Fn Tryz.prog 324 ⟨0,[.c (.s s_)],[],[],0,.t [.inl (.i .i32 r.1),.inl (.I r.2)],[],[]⟩:=by
 refine eFn func324 rfl (fun E F w=>?_)
 unfold z324 at h
 obtain ⟨K,h⟩|⟨K,h⟩:=oc h
 ·refine wH J 17 K ?_
  cases h
  exact wr J 6 func324 []
 refine wH J 17 K ?_
 obtain ⟨x1,d,h⟩:=ob h
 refine wa J 5 (eSx J d ?_)
 cases h
theorem z319_ct (N:Nat) (s_:ByteArray) (r:Int × Int) (h:z319 N s_=some r) :
 Fn Tryz.prog 319 ⟨0,[.c (.s s_)],[],[],0,.t [.inl (.i .i32 r.1),.inl (.I r.2)],[],[]⟩:=by
 refine eFn func319 rfl (fun E F w=>?_)
 unfold z319 at h
 obtain ⟨K,h⟩|⟨K,h⟩:=oc' h
 ·refine wH J 11 K ?_
  obtain ⟨x4,d,h⟩:=ob h
  refine wa J 8 (eCl (z324_ct N s_ _ d) [] [] ?_)
  cases h
  exact wr J 6 func319 []
 refine wH J 11 K ?_
 obtain ⟨x1,e,h⟩:=ob h
 refine wa J 1 (eSx J e ?_)
 obtain ⟨K,h⟩|⟨K,h⟩:=oc h
 ·refine wH J 3 K ?_
  obtain ⟨x2,f,h⟩:=ob h
  refine wa J 4 (eSx J f ?_)
  cases h
  exact wr J 4 func319 []
 refine wH J 3 K ?_
 obtain ⟨x3,g,h⟩:=ob h
 refine wa J 3 (eCl (z324_ct N s_ _ g) [] [] ?_)
 cases h
 exact wr J 6 func319 []
theorem z309_ct (N:Nat) (s_:ByteArray) (n_:Int) (r:(List ByteArray)) (h:z309 N s_ n_=some r) :
 Fn Tryz.prog 309 ⟨0,[.c (.s s_),.I n_],[],[],1,.S 0,[],[(0,.own rS r true)]⟩:=by
 refine eFn func309 rfl (fun E F w=>?_)
 unfold z309 at h
 obtain ⟨x1,d,h⟩:=ob h
 refine wa J 7 (eCl (z318_ct N s_ _ d) [] [] ?_)
 refine wa J 8 (eCut (σ:=Bool) (fun st=>(zz0 [(0,.c (.s s_)),(1,.I n_),(5,.I x1),(18,.O st)])) (fun st=>z309_k4 N s_ n_ x1 st=some r) ?_ (fun j1=>?_))
 ·intro e h
  replace h:z309_k4 N s_ n_ x1 e=some r:=h
  unfold z309_k4 at h
  refine eCut (σ:=Int) (fun st=>(zz0 [(0,.c (.s s_)),(1,.I st)])) (fun st=>z309_k3 N s_ st=some r) ?_ (fun j2=>?_)
  ·intro f h
   replace h:z309_k3 N s_ f=some r:=h
   unfold z309_k3 at h
   obtain ⟨x2,g,h⟩:=ob h
   refine wa J 3 (eMk J oS g (wa J 7 (eCut (σ:=ByteArray × (List ByteArray)) (fun st=>(zz9 st.2 [(0,.c (.s st.1)),(1,.I f),(6,.S 0)])) (fun st=>z309_k1 f st.1 st.2=some r) ?_ (fun j3=>?_))))
   ·rintro ⟨i,j⟩ h
    replace h:z309_k1 f i j=some r:=h
    unfold z309_k1 at h
    obtain ⟨K,h⟩|⟨K,h⟩:=oc' h
    ·refine wH J 6 K ?_
     cases h
     exact wr J 7 func309 [(0,.sl 0)]
    refine wH J 6 K ?_
    obtain ⟨k,l,h⟩:=ob h
    refine wa J 6 (eIo J rS l (eSt J [] oS i l ?_))
    cases h
    exact wr J 6 func309 [(0,.sl 0)]
   refine wa J 1 (eLoop (σ:=ByteArray × (List ByteArray) × Int) (fun st=>(zz9 st.2.1 [(0,.c (.s st.1)),(1,.I f),(6,.S 0),(7,.I st.2.2)])) (fun n st=>z309_l2 N f n st.1 st.2.1 st.2.2) (r:=r) (fun _=>rfl) ?_ (fun ih=>?_))
   ·intro n2 ih5
    rintro ⟨m,o,p⟩ h
    replace h:z309_l2 N f (n2+1) m o p=some r:=h
    unfold z309_l2 at h
    obtain ⟨K,h⟩|⟨K,h⟩:=oc' h
    ·exact wH J 8 K (wa J 2 (eSub [] (j3 (m,o) h)))
    refine wH J 8 K ?_
    obtain ⟨q,t,h⟩:=ob h
    refine wa J 7 (eCl (z319_ct N m _ t) [] [] ?_)
    obtain ⟨u,v,h⟩:=ob h
    refine wa J 12 (eSs J v ?_)
    obtain ⟨x,y,h⟩:=ob h
    refine eIo J rS y (eSt J [] oS u y ?_)
    obtain ⟨z,A,h⟩:=ob h
    exact wa J 4 (eSs J A (wa J 8 (eSub [] (ih5 (z,(setL' o p u),(w64 (p+1))) h))))
   exact eSub [] (ih N (s_,x2,0) h)
  obtain ⟨K,h⟩|⟨K,h⟩:=oc h
  ·exact eK K (wa J 5 (eSub [] (j2 x1 h)))
  exact eK K (wa J 2 (eSub [] (j2 n_ h)))
 obtain ⟨K,h⟩|⟨K,h⟩:=oc h
 ·exact eK K (wa J 5 (eSub [] (j1 true h)))
 exact eK K (wa J 5 (eSub [] (j1 (decide (n_ > x1)) h)))
theorem z325_ct (N:Nat) (s_:ByteArray) (c_:Int) (r:Int) (h:z325 N s_ c_=some r) :
 Fn Tryz.prog 325 ⟨0,[.c (.s s_),.c (.i .u8 c_)],[],[],0,.I r,[],[]⟩:=by
 refine eFn func325 rfl (fun E F w=>?_)
 unfold z325 at h
 refine wa J 8 (eEx (ext_indexByte func329 (by kernel_rfl) (by kernel_rfl) (by kernel_rfl) (by kernel_rfl) s_ c_) (fun _=>trivial) ?_)
 cases h
 exact wr J 2 func325 []
theorem z321_ct (N:Nat) (s_:ByteArray) (substr_:ByteArray) (r:Int) (h:z321 N s_ substr_=some r) :
 Fn Tryz.prog 321 ⟨0,[.c (.s s_),.c (.s substr_)],[],[],0,.I r,[],[]⟩:=by
 refine eFn func321 rfl (fun E F w=>?_)
 unfold z321 at h
 obtain ⟨K,h⟩|⟨K,h⟩:=oc h
 ·refine wH J 17 K ?_
  cases h
  exact wr J 11 func321 []
 refine wH J 17 K ?_
 obtain ⟨K,h⟩|⟨K,h⟩:=oc h
 ·refine wH J 6 K ?_
  cases h
  exact wr J 5 func321 []
 refine wH J 6 K ?_
 obtain ⟨K,h⟩|⟨K,h⟩:=oc h
 ·refine wH J 7 K ?_
  obtain ⟨x1,d,h⟩:=ob h
  refine wa J 5 (eSx J d ?_)
  obtain ⟨x2,e,h⟩:=ob h
  refine eCl (z325_ct N s_ x1 _ e) [] [] ?_
  cases h
  exact wr J 2 func321 []
 refine wH J 7 K ?_
 obtain ⟨K,h⟩|⟨K,h⟩:=oc h
 ·refine wH J 9 K ?_
  cases h
  exact wr J 5 func321 []
 refine wH J 9 K ?_
 cases h
theorem z311_ct (N:Nat) (s_:ByteArray) (substr_:ByteArray) (r:Int) (h:z311 N s_ substr_=some r) :
 Fn Tryz.prog 311 ⟨0,[.c (.s s_),.c (.s substr_)],[],[],0,.I r,[],[]⟩:=by
 refine eFn func311 rfl (fun E F w=>?_)
 unfold z311 at h
 obtain ⟨x1,d,h⟩:=ob h
 refine wa J 8 (eCl (z321_ct N s_ substr_ _ d) [] [] ?_)
 cases h
 exact wr J 2 func311 []
theorem z310_ct (N:Nat) (s_:ByteArray) (substr_:ByteArray) (r:Int) (h:z310 N s_ substr_=some r) :
 Fn Tryz.prog 310 ⟨0,[.c (.s s_),.c (.s substr_)],[],[],0,.I r,[],[]⟩:=by
 refine eFn func310 rfl (fun E F w=>?_)
 unfold z310 at h
 obtain ⟨K,h⟩|⟨K,h⟩:=oc h
 ·refine wH J 11 K ?_
  obtain ⟨x1,d,h⟩:=ob h
  refine wa J 4 (eCl (z318_ct N s_ _ d) [] [] ?_)
  cases h
  exact wr J 3 func310 []
 refine wH J 11 K ?_
 obtain ⟨K,h⟩|⟨K,h⟩:=oc h
 ·refine wH J 9 K ?_
  obtain ⟨x2,e,h⟩:=ob h
  refine wa J 5 (eSx J e (eEx (ext_countByte func320 (by kernel_rfl) (by kernel_rfl) (by kernel_rfl) (by kernel_rfl) s_ x2) (fun _=>trivial) ?_))
  cases h
  exact wr J 2 func310 []
 refine wH J 9 K (wa J 7 (eLoop (σ:=ByteArray × Int) (fun st=>(zz0 [(0,.c (.s st.1)),(1,.c (.s substr_)),(5,.I st.2)])) (fun n st=>z310_l1 N substr_ n st.1 st.2) (r:=r) (fun _=>rfl) ?_ (fun ih=>?_)))
 ·intro n1 ih1
  rintro ⟨f,g⟩ h
  replace h:z310_l1 N substr_ (n1+1) f g=some r:=h
  unfold z310_l1 at h
  obtain ⟨i,j,h⟩:=ob h
  refine wa J 5 (eCl (z311_ct N f substr_ _ j) [] [] ?_)
  obtain ⟨K,h⟩|⟨K,h⟩:=oc h
  ·refine wH J 8 K ?_
   cases h
   exact wr J 6 func310 []
  refine wH J 8 K ?_
  obtain ⟨k,l,h⟩:=ob h
  exact wa J 14 (eSs J l (wa J 3 (eSub [] (ih1 (k,(w64 (g+1))) h))))
 exact eSub [] (ih N (s_,0) h)
theorem z291_ct (N:Nat) (s_:ByteArray) (sep_:ByteArray) (sepSave_:Int) (n_:Int) (r:(List ByteArray)) (h:z291 N s_ sep_ sepSave_ n_=some r) :
 Fn Tryz.prog 291 ⟨0,[.c (.s s_),.c (.s sep_),.I sepSave_,.I n_],[],[],1,.S 0,[],[(0,.own rS r true)]⟩:=by
 refine eFn func291 rfl (fun E F w=>?_)
 unfold z291 at h
 obtain ⟨K,h⟩|⟨K,h⟩:=oc h
 ·refine wH J 10 K ?_
  cases h
  exact wr J 5 func291 [(0,.nil)]
 refine wH J 10 K ?_
 obtain ⟨K,h⟩|⟨K,h⟩:=oc h
 ·refine wH J 8 K ?_
  obtain ⟨x1,d,h⟩:=ob h
  refine wa J 5 (eCl (z309_ct N s_ n_ _ d) [] [] ?_)
  cases h
  exact wr J 2 func291 [(0,.sl 0)]
 refine wH J 8 K (wa J 8 (eCut (σ:=Int) (fun st=>(zz0 [(0,.c (.s s_)),(1,.c (.s sep_)),(2,.I sepSave_),(3,.I st)])) (fun st=>z291_k3 N s_ sep_ sepSave_ st=some r) ?_ (fun j1=>?_)))
 ·intro e h
  replace h:z291_k3 N s_ sep_ sepSave_ e=some r:=h
  unfold z291_k3 at h
  obtain ⟨x3,f,h⟩:=ob h
  refine wa J 12 (eMk J oS f (wa J 13 (eCut (σ:=ByteArray × (List ByteArray) × Int) (fun st=>(zz9 st.2.1 [(0,.c (.s st.1)),(9,.S 0),(10,.I st.2.2)])) (fun st=>z291_k1 st.1 st.2.1 st.2.2=some r) ?_ (fun j2=>?_))))
  ·rintro ⟨g,i,j⟩ h
   replace h:z291_k1 g i j=some r:=h
   unfold z291_k1 at h
   obtain ⟨k,l,h⟩:=ob h
   refine wa J 5 (eIo J rS l (eSt J [] oS g l ?_))
   obtain ⟨m,o,h⟩:=ob h
   refine wa J 6 (eVw J rS o (wa J 2 (eSl rS 2 o ?_)))
   cases h
   exact eRet J func291 [(0,.sl 2)]
  refine wa J 1 (eLoop (σ:=ByteArray × (List ByteArray) × Int) (fun st=>(zz9 st.2.1 [(0,.c (.s st.1)),(1,.c (.s sep_)),(2,.I sepSave_),(3,.I (w64 ((minI e (w64 ((s_.size:Int)+1)))-1))),(9,.S 0),(10,.I st.2.2)])) (fun n st=>z291_l2 N s_ sep_ sepSave_ e n st.1 st.2.1 st.2.2) (r:=r) (fun _=>rfl) ?_ (fun ih=>?_))
  ·intro n2 ih4
   rintro ⟨p,q,t⟩ h
   replace h:z291_l2 N s_ sep_ sepSave_ e (n2+1) p q t=some r:=h
   unfold z291_l2 at h
   obtain ⟨K,h⟩|⟨K,h⟩:=oc' h
   ·exact wH J 7 K (wa J 2 (eSub [] (j2 (p,q,t) h)))
   refine wH J 7 K ?_
   obtain ⟨u,v,h⟩:=ob h
   refine wa J 7 (eCl (z311_ct N p sep_ _ v) [] [] ?_)
   obtain ⟨K,h⟩|⟨K,h⟩:=oc h
   ·exact wH J 8 K (wa J 2 (eSub [] (j2 (p,q,t) h)))
   refine wH J 8 K ?_
   obtain ⟨x,y,h⟩:=ob h
   refine wa J 10 (eSs J y ?_)
   obtain ⟨z,A,h⟩:=ob h
   refine eIo J rS A (eSt J [] oS x A ?_)
   obtain ⟨C,D,h⟩:=ob h
   exact wa J 8 (eSs J D (wa J 8 (eSub [] (ih4 (C,(setL' q t x),(w64 (t+1))) h))))
  exact eSub [] (ih N (s_,x3,0) h)
 obtain ⟨K,h⟩|⟨K,h⟩:=oc' h
 ·exact eK K (wa J 2 (eSub [] (j1 n_ h)))
 refine eK K ?_
 obtain ⟨G,H,h⟩:=ob h
 exact wa J 4 (eCl (z310_ct N s_ sep_ _ H) [] [] (wa J 3 (eSub [] (j1 (w64 (G+1)) h))))
theorem z265_ct (N:Nat) (s_:ByteArray) (sep_:ByteArray) (r:(List ByteArray)) (h:z265 N s_ sep_=some r) :
 Fn Tryz.prog 265 ⟨0,[.c (.s s_),.c (.s sep_)],[],[],1,.S 0,[],[(0,.own rS r true)]⟩:=by
 refine eFn func265 rfl (fun E F w=>?_)
 unfold z265 at h
 obtain ⟨x1,d,h⟩:=ob h
 refine wa J 8 (eCl (z291_ct N s_ sep_ 0 (-1) _ d) [] [] ?_)
 cases h
 exact wr J 2 func265 [(0,.sl 0)]
theorem z266_ct (N:Nat) (w_:ByteArray) (r:Bool) (h:z266 N w_=some r) :
 Fn Tryz.prog 266 ⟨0,[.c (.s w_)],[],[],0,.O r,[],[]⟩:=by
 refine eFn func266 rfl (fun E F w=>?_)
 unfold z266 at h
 obtain ⟨x1,d,h⟩:=ob h
 refine wa J 7 (eCl (z220_ct N w_ _ d) [] [] ?_)
 cases h
 exact wr J 3 func266 []
theorem z290_0_ct (N:Nat) (s_:(List ByteArray)) (r:Int) (h:z290_0 N s_=some r) :
 Fn Tryz.prog 290 ⟨1,[.S 0,.c (.cl 266 [] [])],[(0,.sl rS s_)],[],1,.I r,[],[]⟩:=by
 refine eFn func290 rfl (fun E F w=>?_)
 unfold z290_0 at h
 refine wa J 11 (eCut (σ:=Unit) (fun st=>(zz2 s_ [])) (fun st=>z290_0_k1=some r) ?_ (fun j1=>?_))
 ·intro _ h
  replace h:z290_0_k1=some r:=h
  unfold z290_0_k1 at h
  cases h
  exact wr J 4 func290 []
 refine wa J 1 (eLoop (σ:=Int) (fun st=>(zz2 s_ [(0,.S 0),(1,.c (.cl 266 [] [])),(7,.I (s_.length:Int)),(8,.I st)])) (fun n st=>z290_0_l2 N s_ n st) (r:=r) (fun _=>rfl) ?_ (fun ih=>?_))
 ·intro n2 ih3
  intro d h
  replace h:z290_0_l2 N s_ (n2+1) d=some r:=h
  unfold z290_0_l2 at h
  obtain ⟨K,h⟩|⟨K,h⟩:=oc' h
  ·exact wH J 5 K (wa J 2 (eSub [] (j1 () h)))
  refine wH J 5 K ?_
  obtain ⟨e,f,h⟩:=ob h
  refine wa J 14 (eIx J oS f ?_)
  obtain ⟨g,i,h⟩:=ob h
  refine wa J 1 (eCl (z266_ct N e _ i) [] [] ?_)
  obtain ⟨K,h⟩|⟨K,h⟩:=oc h
  ·refine wH J 1 K ?_
   cases h
   exact wr J 6 func290 []
  exact wH J 1 K (wa J 7 (eSub [] (ih3 (w64 (d+1)) h)))
 exact eSub [] (ih N 0 h)
theorem z264_1_ct (N:Nat) (s_:(List ByteArray)) (r:Bool) (h:z264_1 N s_=some r) :
 Fn Tryz.prog 264 ⟨1,[.S 0,.c (.cl 266 [] [])],[(0,.sl rS s_)],[],1,.O r,[],[]⟩:=by
 refine eFn func264 rfl (fun E F w=>?_)
 unfold z264_1 at h
 obtain ⟨x1,d,h⟩:=ob h
 refine wa J 8 (eCl (z290_0_ct N s_ _ d) [] [(0,.sl 0)] ?_)
 cases h
 exact wr J 3 func264 []
theorem z217_ct (N:Nat) (s_:ByteArray) (r:Bool) (h:z217 N s_=some r) :
 Fn Tryz.prog 217 ⟨0,[.c (.s s_)],[],[],0,.O r,[],[]⟩:=by
 refine eFn func217 rfl (fun E F w=>?_)
 unfold z217 at h
 obtain ⟨K,h⟩|⟨K,h⟩:=oc' h
 ·refine wH J 10 K ?_
  cases h
  exact wr J 7 func217 []
 refine wH J 10 K ?_
 obtain ⟨x1,d,h⟩:=ob h
 refine wa J 1 (eCl (z265_ct N s_ (str [46]) _ d) [] [] ?_)
 obtain ⟨x2,e,h⟩:=ob h
 refine eCb (z264_1_ct N x1 _ e) [] [(0,.sl 0)] [0] (.inr ⟨rfl,trivial⟩) ?_
 cases h
 exact wr J 4 func217 []
theorem z219_2_ct (N:Nat) (x_:T0) (c0_:T0) (r:Bool) (h:z219_2 N x_ c0_=some r) :
 Fn Tryz.prog 219 ⟨7,[.a (cC0 0 1 2 x_),.B 3 0],(vV0 0 1 2 x_ (vV0 4 5 6 c0_ [])),[(3,.box (cC0 4 5 6 c0_) 87)],7,.O r,[],[(3,.box (cC0 4 5 6 c0_) 87)]⟩:=by
 refine eFn func219 rfl (fun E F w=>?_)
 unfold z219_2 at h
 cases h
 exact wr J 14 func219 []
theorem z267_3_ct (N:Nat) (s_:(List T0)) (c0_:T0) (r:Int) (h:z267_3 N s_ c0_=some r) :
 Fn Tryz.prog 267 ⟨5,[.S 0,.c (.cl 219 [] [1])],((0,.sl rR0 s_)::vV0 2 3 4 c0_ []),[(1,.box (cC0 2 3 4 c0_) 87)],5,.I r,[],[(1,.box (cC0 2 3 4 c0_) 87)]⟩:=by
 refine eFn func267 rfl (fun E F w=>?_)
 unfold z267_3 at h
 refine wa J 11 (eCut (σ:=Unit) (fun st=>⟨[],[(1,.box (cC0 2 3 4 c0_) 87)],((0,.sl rR0 s_)::vV0 2 3 4 c0_ []),5⟩) (fun st=>z267_3_k1=some r) ?_ (fun j1=>?_))
 ·intro _ h
  replace h:z267_3_k1=some r:=h
  unfold z267_3_k1 at h
  cases h
  exact wr J 4 func267 []
 refine wa J 1 (eLoop (σ:=Int) (fun st=>⟨[(0,.S 0),(1,.c (.cl 219 [] [1])),(7,.I (s_.length:Int)),(8,.I st)],[(1,.box (cC0 2 3 4 c0_) 87)],((0,.sl rR0 s_)::vV0 2 3 4 c0_ []),5⟩) (fun n st=>z267_3_l2 N s_ c0_ n st) (r:=r) (fun _=>rfl) ?_ (fun ih=>?_))
 ·intro n2 ih3
  intro d h
  replace h:z267_3_l2 N s_ c0_ (n2+1) d=some r:=h
  unfold z267_3_l2 at h
  obtain ⟨K,h⟩|⟨K,h⟩:=oc' h
  ·exact wH J 5 K (wa J 2 (eSub [] (j1 () h)))
  refine wH J 5 K ?_
  obtain ⟨e,f,h⟩:=ob h
  refine wa J 14 (eIx J oO0 f ?_)
  obtain ⟨g,i,h⟩:=ob h
  refine wa J 1 (eCl (z219_2_ct N e c0_ _ i) [] [(0,.sl 6),(1,.sl 7),(2,.sl 8),(3,.bp 1 0),(4,.sl 2),(5,.sl 3),(6,.sl 4)] ?_)
  obtain ⟨K,h⟩|⟨K,h⟩:=oc h
  ·refine wH J 1 K ?_
   cases h
   exact wr J 6 func267 []
  exact wH J 1 K (wa J 7 (eSub [] (ih3 (w64 (d+1)) h)))
 exact eSub [] (ih N 0 h)
theorem z218_4_ct (N:Nat) (s_:(List T0)) (c0_:T0) (r:Bool) (h:z218_4 N s_ c0_=some r) :
 Fn Tryz.prog 218 ⟨5,[.S 0,.c (.cl 219 [] [1])],((0,.sl rR0 s_)::vV0 2 3 4 c0_ []),[(1,.box (cC0 2 3 4 c0_) 87)],5,.O r,[],[(1,.box (cC0 2 3 4 c0_) 87)]⟩:=by
 refine eFn func218 rfl (fun E F w=>?_)
 unfold z218_4 at h
 obtain ⟨x1,d,h⟩:=ob h
 refine wa J 8 (eCl (z267_3_ct N s_ c0_ _ d) [] [(0,.sl 0),(1,.bp 1 0),(2,.sl 2),(3,.sl 3),(4,.sl 4)] ?_)
 cases h
 exact wr J 3 func218 []
theorem z221_ct (N:Nat) (s_:T10) (r:Bool) (h:z221 N s_=some r) :
 Fn Tryz.prog 221 ⟨0,[.a (cC10 s_)],[],[],0,.O r,[],[]⟩:=by
 refine eFn func221 rfl (fun E F w=>?_)
 unfold z221 at h
 obtain ⟨K,h⟩|⟨K,h⟩:=oc h
 ·refine wH J 17 K ?_
  obtain ⟨K,h⟩|⟨K,h⟩:=oc' h
  ·refine wH J 7 K ?_
   cases h
   exact wr J 13 func221 []
  refine wH J 7 K ?_
  obtain ⟨K,h⟩|⟨K,h⟩:=oc h
  ·refine wH J 7 K ?_
   cases h
   exact wr J 6 func221 []
  refine wH J 7 K ?_
  cases h
  exact wr J 6 func221 []
 refine wH J 17 K ?_
 obtain ⟨K,h⟩|⟨K,h⟩:=oc' h
 ·refine wH J 6 K ?_
  cases h
  exact wr J 7 func221 []
 refine wH J 6 K ?_
 obtain ⟨K,h⟩|⟨K,h⟩:=oc' h
 ·refine wH J 7 K ?_
  cases h
  exact wr J 13 func221 []
 refine wH J 7 K ?_
 obtain ⟨K,h⟩|⟨K,h⟩:=oc h
 ·refine wH J 7 K ?_
  cases h
  exact wr J 6 func221 []
 refine wH J 7 K ?_
 cases h
 exact wr J 6 func221 []
theorem z223_5_ct (N:Nat) (x_:T4) (c0_:T4) (r:Bool) (h:z223_5 N x_ c0_=some r) :
 Fn Tryz.prog 223 ⟨1,[.a (cC4 x_),.B 0 0],[],[(0,.box (cC4 c0_) 115)],1,.O r,[],[(0,.box (cC4 c0_) 115)]⟩:=by
 refine eFn func223 rfl (fun E F w=>?_)
 unfold z223_5 at h
 cases h
 exact wr J 14 func223 []
theorem z269_6_ct (N:Nat) (s_:(List T4)) (c0_:T4) (r:Int) (h:z269_6 N s_ c0_=some r) :
 Fn Tryz.prog 269 ⟨2,[.S 0,.c (.cl 223 [] [1])],[(0,.sl rR4 s_)],[(1,.box (cC4 c0_) 115)],2,.I r,[],[(1,.box (cC4 c0_) 115)]⟩:=by
 refine eFn func269 rfl (fun E F w=>?_)
 unfold z269_6 at h
 refine wa J 11 (eCut (σ:=Unit) (fun st=>⟨[],[(1,.box (cC4 c0_) 115)],[(0,.sl rR4 s_)],2⟩) (fun st=>z269_6_k1=some r) ?_ (fun j1=>?_))
 ·intro _ h
  replace h:z269_6_k1=some r:=h
  unfold z269_6_k1 at h
  cases h
  exact wr J 4 func269 []
 refine wa J 1 (eLoop (σ:=Int) (fun st=>⟨[(0,.S 0),(1,.c (.cl 223 [] [1])),(7,.I (s_.length:Int)),(8,.I st)],[(1,.box (cC4 c0_) 115)],[(0,.sl rR4 s_)],2⟩) (fun n st=>z269_6_l2 N s_ c0_ n st) (r:=r) (fun _=>rfl) ?_ (fun ih=>?_))
 ·intro n2 ih3
  intro d h
  replace h:z269_6_l2 N s_ c0_ (n2+1) d=some r:=h
  unfold z269_6_l2 at h
  obtain ⟨K,h⟩|⟨K,h⟩:=oc' h
  ·exact wH J 5 K (wa J 2 (eSub [] (j1 () h)))
  refine wH J 5 K ?_
  obtain ⟨e,f,h⟩:=ob h
  refine wa J 14 (eIx J oO4 f ?_)
  obtain ⟨g,i,h⟩:=ob h
  refine wa J 1 (eCl (z223_5_ct N e c0_ _ i) [] [(0,.bp 1 0)] ?_)
  obtain ⟨K,h⟩|⟨K,h⟩:=oc h
  ·refine wH J 1 K ?_
   cases h
   exact wr J 6 func269 []
  exact wH J 1 K (wa J 7 (eSub [] (ih3 (w64 (d+1)) h)))
 exact eSub [] (ih N 0 h)
theorem z222_7_ct (N:Nat) (s_:(List T4)) (c0_:T4) (r:Bool) (h:z222_7 N s_ c0_=some r) :
 Fn Tryz.prog 222 ⟨2,[.S 0,.c (.cl 223 [] [1])],[(0,.sl rR4 s_)],[(1,.box (cC4 c0_) 115)],2,.O r,[],[(1,.box (cC4 c0_) 115)]⟩:=by
 refine eFn func222 rfl (fun E F w=>?_)
 unfold z222_7 at h
 obtain ⟨x1,d,h⟩:=ob h
 refine wa J 8 (eCl (z269_6_ct N s_ c0_ _ d) [] [(0,.sl 0),(1,.bp 1 0)] ?_)
 cases h
 exact wr J 3 func222 []
theorem z224_ct (N:Nat) (g_:T6) (all_:(List T4)) (r:Bool) (h:z224 N g_ all_=some r) :
 Fn Tryz.prog 224 ⟨3,[.a [.sl 0,.sl 1],.S 2],[(0,.sl rR1 g_.Diffs),(1,.sl (rP (rI .i64) (rI .i64)) g_.Equals),(2,.sl rR4 all_)],[],3,.O r,[],[]⟩:=by
 refine eFn func224 rfl (fun E F w=>?_)
 unfold z224 at h
 obtain ⟨K,h⟩|⟨K,h⟩:=oc h
 ·refine wH J 13 K ?_
  cases h
  exact wr J 11 func224 []
 refine wH J 13 K ?_
 obtain ⟨K,h⟩|⟨K,h⟩:=oc h
 ·refine wH J 6 K ?_
  cases h
  exact wr J 5 func224 []
 refine wH J 6 K (wa J 10 (eCut (σ:=Unit) (fun st=>(zz15 g_.Diffs g_.Equals all_ [(1,.S 2),(2,.B 3 0)])) (fun st=>z224_k5 N g_ all_=some r) ?_ (fun j1=>?_)))
 ·intro _ h
  replace h:z224_k5 N g_ all_=some r:=h
  unfold z224_k5 at h
  refine wa J 8 (eCut (σ:=Unit) (fun st=>⟨[],[],[(0,.sl rR1 g_.Diffs),(1,.sl (rP (rI .i64) (rI .i64)) g_.Equals),(2,.sl rR4 all_)],4⟩) (fun st=>z224_k1=some r) ?_ (fun j3=>?_))
  ·intro _ h
   replace h:z224_k1=some r:=h
   unfold z224_k1 at h
   cases h
   exact wr J 4 func224 []
  refine wa J 1 (eLoop (σ:=Int) (fun st=>⟨[(1,.S 2),(56,.S 1),(57,.I (g_.Equals.length:Int)),(58,.I st)],[],[(0,.sl rR1 g_.Diffs),(1,.sl (rP (rI .i64) (rI .i64)) g_.Equals),(2,.sl rR4 all_)],4⟩) (fun n st=>z224_l2 N g_ all_ n st) (r:=r) (fun _=>rfl) ?_ (fun ih=>?_))
  ·intro n13 ih14
   intro c h
   replace h:z224_l2 N g_ all_ (n13+1) c=some r:=h
   unfold z224_l2 at h
   obtain ⟨K,h⟩|⟨K,h⟩:=oc' h
   ·exact wH J 5 K (wa J 2 (eSub [] (j3 () h)))
   refine wH J 5 K ?_
   obtain ⟨d,e,h⟩:=ob h
   refine wa J 6 (eIx J (oP (oI .i64) (oI .i64)) e (wa J 9 (eCut (σ:=Unit) (fun st=>⟨[(1,.S 2),(56,.S 1),(57,.I (g_.Equals.length:Int)),(58,.I c)],[],[(0,.sl rR1 g_.Diffs),(1,.sl (rP (rI .i64) (rI .i64)) g_.Equals),(2,.sl rR4 all_)],6⟩) (fun st=>z224_k3 c (z224_l2 N g_ all_ n13)=some r) ?_ (fun j21=>?_))))
   ·intro _ h
    replace h:z224_k3 c (z224_l2 N g_ all_ n13)=some r:=h
    unfold z224_k3 at h
    exact wa J 5 (eSub [] (ih14 (w64 (c+1)) h))
   refine wa J 1 (eLoop (σ:=Int) (fun st=>⟨[(1,.S 2),(56,.S 1),(57,.I (g_.Equals.length:Int)),(58,.I c),(62,.a [.I d.1,.I d.2]),(63,.I st)],[],[(0,.sl rR1 g_.Diffs),(1,.sl (rP (rI .i64) (rI .i64)) g_.Equals),(2,.sl rR4 all_)],6⟩) (fun n st=>z224_l4 all_ c (z224_l2 N g_ all_ n13) d n st) (r:=r) (fun _=>rfl) ?_ (fun ih=>?_))
   ·intro n15 ih23
    intro f h
    replace h:z224_l4 all_ c (z224_l2 N g_ all_ n13) d (n15+1) f=some r:=h
    unfold z224_l4 at h
    obtain ⟨K,h⟩|⟨K,h⟩:=oc' h
    ·exact wH J 5 K (wa J 2 (eSub [] (j21 () h)))
    refine wH J 5 K ?_
    obtain ⟨g,j,h⟩:=ob h
    refine wa J 6 (eAx (SC.i .i64) ([d.1,d.2]:List Int) j ?_)
    obtain ⟨K,h⟩|⟨K,h⟩:=oc h
    ·refine wH J 7 K ?_
     cases h
     exact wr J 20 func224 []
    refine wH J 7 K ?_
    obtain ⟨K,h⟩|⟨K,h⟩:=oc h
    ·refine wH J 6 K ?_
     cases h
     exact wr J 14 func224 []
    refine wH J 6 K ?_
    obtain ⟨k,l,h⟩:=ob h
    refine wa J 2 (eIx J oO4 l ?_)
    obtain ⟨K,h⟩|⟨K,h⟩:=oc h
    ·refine wH J 6 K ?_
     cases h
     exact wr J 5 func224 []
    exact wH J 6 K (wa J 7 (eSub [] (ih23 (w64 (f+1)) h)))
   exact eSub [] (ih N 0 h)
  exact eSub [] (ih N 0 h)
 refine wa J 1 (eLoop (σ:=Int) (fun st=>(zz15 g_.Diffs g_.Equals all_ [(1,.S 2),(2,.B 3 0),(22,.S 0),(23,.I (g_.Diffs.length:Int)),(24,.I st)])) (fun n st=>z224_l6 N g_ all_ n st) (r:=r) (fun _=>rfl) ?_ (fun ih=>?_))
 ·intro n16 ih24
  intro m h
  replace h:z224_l6 N g_ all_ (n16+1) m=some r:=h
  unfold z224_l6 at h
  obtain ⟨K,h⟩|⟨K,h⟩:=oc' h
  ·exact wH J 5 K (wa J 2 (eSub [] (j1 () h)))
  refine wH J 5 K ?_
  obtain ⟨o,p,h⟩:=ob h
  refine wa J 6 (eIx J oO1 p ?_)
  obtain ⟨K,h⟩|⟨K,h⟩:=oc h
  ·refine wH J 13 K ?_
   cases h
   exact wr J 25 func224 []
  refine wH J 13 K ?_
  obtain ⟨K,h⟩|⟨K,h⟩:=oc h
  ·refine wH J 10 K ?_
   cases h
   exact wr J 15 func224 []
  refine wH J 10 K ?_
  obtain ⟨K,h⟩|⟨K,h⟩:=oc h
  ·refine wH J 5 K ?_
   cases h
   exact wr J 10 func224 []
  refine wH J 5 K ?_
  obtain ⟨K,h⟩|⟨K,h⟩:=oc h
  ·refine wH J 5 K ?_
   cases h
   exact wr J 5 func224 []
  exact wH J 5 K (wa J 7 (eSub [] (ih24 (w64 (m+1)) h)))
 exact eSub [] (ih N 0 h)
theorem z157_ct (N:Nat) (l_:(List T0)) (r:Bool) (h:z157 N l_=some r) :
 Fn Tryz.prog 157 ⟨1,[.S 0],[(0,.sl rR0 l_)],[],1,.O r,[],[]⟩:=by
 refine eFn func157 rfl (fun E F w=>?_)
 unfold z157 at h
 obtain ⟨K,h⟩|⟨K,h⟩:=oc h
 ·refine wH J 11 K ?_
  cases h
  exact wr J 5 func157 []
 refine wH J 11 K ?_
 obtain ⟨x1,c,h⟩:=ob h
 refine wa J 5 (eCl (z158_ct N l_ _ c) [] [(0,.sl 0)] ?_)
 obtain ⟨K,h⟩|⟨K,h⟩:=oc h
 ·refine wH J 9 K ?_
  cases h
  exact wr J 5 func157 []
 refine wH J 9 K (wa J 13 (eCut (σ:=Unit) (fun st=>⟨[],[],[(0,.sl rR0 l_)],2⟩) (fun st=>z157_k1=some r) ?_ (fun j1=>?_)))
 ·intro _ h
  replace h:z157_k1=some r:=h
  unfold z157_k1 at h
  cases h
  exact wr J 4 func157 []
 refine wa J 1 (eLoop (σ:=Int × Int) (fun st=>(zz13 x1 l_ [(0,.S 0),(3,.S 1),(4,.I st.1),(17,.S 0),(18,.I (l_.length:Int)),(19,.I st.2)])) (fun n st=>z157_l2 N l_ x1 n st.1 st.2) (r:=r) (fun _=>rfl) ?_ (fun ih=>?_))
 ·intro n12 ih12
  rintro ⟨d,e⟩ h
  replace h:z157_l2 N l_ x1 (n12+1) d e=some r:=h
  unfold z157_l2 at h
  obtain ⟨K,h⟩|⟨K,h⟩:=oc' h
  ·exact wH J 5 K (wa J 2 (eSub [] (j1 () h)))
  refine wH J 5 K ?_
  obtain ⟨f,g,h⟩:=ob h
  refine wa J 7 (eIx J oO0 g ?_)
  obtain ⟨i,j,h⟩:=ob h
  refine wa J 10 (eCl (z217_ct N f.Name _ j) [] [] ?_)
  obtain ⟨K,h⟩|⟨K,h⟩:=oc h
  ·refine wH J 2 K ?_
   cases h
   exact wr J 24 func157 []
  refine wH J 2 K ?_
  obtain ⟨K,h⟩|⟨K,h⟩:=oc h
  ·refine wH J 6 K ?_
   cases h
   exact wr J 18 func157 []
  refine wH J 6 K ?_
  obtain ⟨K,h⟩|⟨K,h⟩:=oc h
  ·refine wH J 6 K ?_
   cases h
   exact wr J 12 func157 []
  refine wH J 6 K ?_
  obtain ⟨k,l,h⟩:=ob h
  refine wa J 2 (eIs J rR0 l ?_)
  obtain ⟨m,o,h⟩:=ob h
  refine wa J 1 (eCl (z218_4_ct N k f _ o) [] [(0,.sl 7),(1,.bp 6 0),(2,.sl 3),(3,.sl 4),(4,.sl 5)] ?_)
  obtain ⟨K,h⟩|⟨K,h⟩:=oc h
  ·refine wH J 2 K ?_
   cases h
   exact wr J 5 func157 []
  refine wH J 2 K (wa J 19 (eCut (σ:=Unit) (fun st=>(zz16 x1 f l_ [(0,.S 0),(3,.S 1),(4,.I (w64 (d+(f.Fields.length:Int)))),(6,.B 6 0),(17,.S 0),(18,.I (l_.length:Int)),(19,.I e)])) (fun st=>z157_k3 N x1 d e (z157_l2 N l_ x1 n12) f=some r) ?_ (fun j19=>?_)))
  ·intro _ h
   replace h:z157_k3 N x1 d e (z157_l2 N l_ x1 n12) f=some r:=h
   unfold z157_k3 at h
   obtain ⟨p,q,h⟩:=ob h
   refine wa J 5 (eCb (z224_ct N f.Guard x1 _ q) [] [(0,.sl 4),(1,.sl 5),(2,.sl 1)] [1] (.inr ⟨rfl,trivial⟩) ?_)
   obtain ⟨K,h⟩|⟨K,h⟩:=oc h
   ·refine wH J 2 K ?_
    cases h
    exact wr J 5 func157 []
   exact wH J 2 K (wa J 7 (eSub [] (ih12 ((w64 (d+(f.Fields.length:Int))),(w64 (e+1))) h)))
  refine wa J 1 (eLoop (σ:=Int) (fun st=>(zz16 x1 f l_ [(0,.S 0),(3,.S 1),(4,.I (w64 (d+(f.Fields.length:Int)))),(6,.B 6 0),(17,.S 0),(18,.I (l_.length:Int)),(19,.I e),(53,.S 3),(54,.I (f.Fields.length:Int)),(55,.I st)])) (fun n st=>z157_l4 N x1 d e (z157_l2 N l_ x1 n12) f n st) (r:=r) (fun _=>rfl) ?_ (fun ih=>?_))
  ·intro n14 ih21
   intro s h
   replace h:z157_l4 N x1 d e (z157_l2 N l_ x1 n12) f (n14+1) s=some r:=h
   unfold z157_l4 at h
   obtain ⟨K,h⟩|⟨K,h⟩:=oc' h
   ·exact wH J 5 K (wa J 2 (eSub [] (j19 () h)))
   refine wH J 5 K ?_
   obtain ⟨t,u,h⟩:=ob h
   refine wa J 7 (eIx J oO4 u ?_)
   obtain ⟨v,x,h⟩:=ob h
   refine wa J 9 (eCl (z220_ct N t.Name _ x) [] [] ?_)
   obtain ⟨K,h⟩|⟨K,h⟩:=oc h
   ·refine wH J 2 K ?_
    cases h
    exact wr J 19 func157 []
   refine wH J 2 K ?_
   obtain ⟨y,z,h⟩:=ob h
   refine wa J 2 (eCl (z221_ct N t.Sort' _ z) [] [] ?_)
   obtain ⟨K,h⟩|⟨K,h⟩:=oc h
   ·refine wH J 3 K ?_
    cases h
    exact wr J 13 func157 []
   refine wH J 3 K ?_
   obtain ⟨A,C,h⟩:=ob h
   refine wa J 3 (eIs J rR4 C ?_)
   obtain ⟨D,G,h⟩:=ob h
   refine wa J 1 (eCl (z222_7_ct N A t _ G) [] [(0,.sl 10),(1,.bp 9 0)] ?_)
   obtain ⟨K,h⟩|⟨K,h⟩:=oc h
   ·refine wH J 2 K ?_
    cases h
    exact wr J 5 func157 []
   exact wH J 2 K (wa J 7 (eSub [] (ih21 (w64 (s+1)) h)))
  exact eSub [] (ih N 0 h)
 exact eSub [] (ih N (0,0) h)
theorem z168_ct (N:Nat) (d_:T0) (r:(List T1)) (h:z168 N d_=some r) :
 Fn Tryz.prog 168 ⟨3,[.a (cC0 0 1 2 d_)],(vV0 0 1 2 d_ []),[],4,.S 3,[],[(3,.own rR1 r true)]⟩:=by
 refine eFn func168 rfl (fun E F w=>?_)
 unfold z168 at h
 refine wa J 17 (eCut (σ:=(List T1)) (fun st=>⟨[(1,.B 3 0),(3,.S 4)],[(3,.box (cC0 0 1 2 d_) 87),(4,.own rR1 st true)],(vV0 0 1 2 d_ []),5⟩) (fun st=>z168_k3 N d_ st=some r) ?_ (fun j1=>?_))
 ·intro c h
  replace h:z168_k3 N d_ c=some r:=h
  unfold z168_k3 at h
  obtain ⟨x9,d,h⟩:=ob h
  refine wa J 6 (eAp J rR1 d (wa J 11 (eCut (σ:=(List T1)) (fun st=>⟨[(3,.S 6)],[(6,.own rR1 st true)],(vV0 0 1 2 d_ []),7⟩) (fun st=>z168_k1 st=some r) ?_ (fun j3=>?_))))
  ·intro e h
   replace h:z168_k1 e=some r:=h
   unfold z168_k1 at h
   cases h
   exact wr J 5 func168 [(3,.sl 6)]
  refine wa J 1 (eLoop (σ:=(List T1) × Int) (fun st=>⟨[(3,.S 6),(44,.S 2),(45,.I (d_.Guard.Equals.length:Int)),(46,.I st.2)],[(6,.own rR1 st.1 true)],(vV0 0 1 2 d_ []),7⟩) (fun n st=>z168_l2 d_ n st.1 st.2) (r:=r) (fun _=>rfl) ?_ (fun ih=>?_))
  ·intro n3 ih5
   rintro ⟨f,g⟩ h
   replace h:z168_l2 d_ (n3+1) f g=some r:=h
   unfold z168_l2 at h
   obtain ⟨K,h⟩|⟨K,h⟩:=oc' h
   ·exact wH J 5 K (wa J 2 (eSub [] (j3 f h)))
   refine wH J 5 K ?_
   obtain ⟨i,j,h⟩:=ob h
   refine wa J 6 (eIx J (oP (oI .i64) (oI .i64)) j (wa J 6 (eAb 0 rfl (wa J 1 (eAb 1 rfl (wa J 2 (eAb 1 rfl (wa J 1 (eAb 0 rfl (wa J 2 (eBs J [] oO1 ([(⟨i.1,i.2,0⟩:T1),(⟨i.2,i.1,0⟩:T1)]:List T1) ?_)))))))))))
   obtain ⟨k,l,h⟩:=ob h
   exact eAp J rR1 l (wa J 7 (eSub [(6,.sl 10)] (ih5 (k,(w64 (g+1))) h)))
  exact eSub [(6,.sl 5)] (ih N (x9,0) h)
 refine wa J 1 (eLoop (σ:=(List T1) × Int) (fun st=>⟨[(1,.B 3 0),(3,.S 4),(9,.S 0),(10,.I (d_.Fields.length:Int)),(11,.I st.2)],[(3,.box (cC0 0 1 2 d_) 87),(4,.own rR1 st.1 true)],(vV0 0 1 2 d_ []),5⟩) (fun n st=>z168_l4 N d_ n st.1 st.2) (r:=r) (fun _=>rfl) ?_ (fun ih=>?_))
 ·intro n4 ih6
  rintro ⟨m,o⟩ h
  replace h:z168_l4 N d_ (n4+1) m o=some r:=h
  unfold z168_l4 at h
  obtain ⟨K,h⟩|⟨K,h⟩:=oc' h
  ·exact wH J 5 K (wa J 2 (eSub [] (j1 m h)))
  refine wH J 5 K ?_
  obtain ⟨p,q,h⟩:=ob h
  refine wa J 7 (eIx J oO4 q (wa J 24 (eBs J [] oO1 ([(⟨(w64 (d_.First+o)),(-1),p.Sort'.Hi⟩:T1),(⟨(-1),(w64 (d_.First+o)),(w64 (0-p.Sort'.Lo))⟩:T1)]:List T1) ?_)))
  obtain ⟨s,t,h⟩:=ob h
  exact eAp J rR1 t (wa J 7 (eSub [(4,.sl 8)] (ih6 (s,(w64 (o+1))) h)))
 exact eSub [(4,.nil)] (ih N (([]:List T1),0) h)
theorem z98_ct (N:Nat) (decls_:(List T0)) (label_:Int) (r:(List T1) × Int) (h:z98 N decls_ label_=some r) :
 Fn Tryz.prog 98 ⟨1,[.S 0,.I label_],[(0,.sl rR0 decls_)],[],2,.t [.inl (.sl 1),.inl (.I r.2)],[],[(1,.own rR1 r.1 true)]⟩:=by
 refine eFn func98 rfl (fun E F w=>?_)
 unfold z98 at h
 obtain ⟨K,h⟩|⟨K,h⟩:=oc h
 ·refine wH J 11 K ?_
  cases h
  exact wr J 17 func98 [(1,.nil)]
 refine wH J 11 K ?_
 obtain ⟨K,h⟩|⟨K,h⟩:=oc h
 ·refine wH J 6 K ?_
  cases h
  exact wr J 11 func98 [(1,.nil)]
 refine wH J 6 K ?_
 obtain ⟨x1,c,h⟩:=ob h
 refine wa J 1 (eCl (z157_ct N decls_ _ c) [] [(0,.sl 0)] ?_)
 obtain ⟨K,h⟩|⟨K,h⟩:=oc h
 ·refine wH J 3 K ?_
  cases h
  exact wr J 6 func98 [(1,.nil)]
 refine wH J 3 K ?_
 obtain ⟨x2,d,h⟩:=ob h
 refine wa J 6 (eIx J oO0 d ?_)
 obtain ⟨x3,e,h⟩:=ob h
 refine wa J 1 (eCl (z168_ct N x2 _ e) [] [(0,.sl 2),(1,.sl 3),(2,.sl 4)] ?_)
 cases h
 exact wr J 3 func98 [(1,.sl 5)]
theorem z206_ct (N:Nat) (l_:(List T0)) (r:Bool) (h:z206 N l_=some r) :
 Fn Tryz.prog 206 ⟨1,[.S 0],[(0,.sl rR0 l_)],[],1,.O r,[],[]⟩:=by
 refine eFn func206 rfl (fun E F w=>?_)
 unfold z206 at h
 obtain ⟨K,h⟩|⟨K,h⟩:=oc h
 ·refine wH J 11 K ?_
  cases h
  exact wr J 5 func206 []
 refine wH J 11 K ?_
 obtain ⟨x1,c,h⟩:=ob h
 refine wa J 5 (eCl (z98_ct N l_ 0 _ c) [] [(0,.sl 0)] ?_)
 cases h
 exact wr J 12 func206 []
theorem z207_ct (N:Nat) (g_:T5) (r:Bool) (h:z207 N g_=some r) :
 Fn Tryz.prog 207 ⟨4,[.a (cC5 0 1 2 3 g_)],(vV5 0 1 2 3 g_ []),[],4,.O r,[],[]⟩:=by
 refine eFn func207 rfl (fun E F w=>?_)
 unfold z207 at h
 refine wa J 13 (eCut (σ:=Unit) (fun st=>⟨[],[],(vV5 0 1 2 3 g_ []),5⟩) (fun st=>z207_k1=some r) ?_ (fun j1=>?_))
 ·intro _ h
  replace h:z207_k1=some r:=h
  unfold z207_k1 at h
  cases h
  exact wr J 4 func207 []
 refine wa J 1 (eLoop (σ:=Int) (fun st=>(zz8 g_ [(1,.B 4 0),(8,.S 2),(9,.I (g_.Edges.length:Int)),(10,.I st)])) (fun n st=>z207_l2 N g_ n st) (r:=r) (fun _=>rfl) ?_ (fun ih=>?_))
 ·intro n12 ih33
  intro c h
  replace h:z207_l2 N g_ (n12+1) c=some r:=h
  unfold z207_l2 at h
  obtain ⟨K,h⟩|⟨K,h⟩:=oc' h
  ·exact wH J 5 K (wa J 2 (eSub [] (j1 () h)))
  refine wH J 5 K ?_
  obtain ⟨d,e,h⟩:=ob h
  refine wa J 7 (eIx J oO2 e ?_)
  refine wa J 14 (eCut (σ:=Bool) (fun st=>⟨[(1,.B 4 0),(3,.I c),(4,.B 6 0),(8,.S 2),(9,.I (g_.Edges.length:Int)),(10,.I c),(30,.O st)],[(4,.box (cC5 0 1 2 3 g_) 27),(6,.box (cC2 d) 154)],(vV5 0 1 2 3 g_ []),7⟩) (fun st=>z207_k6 N g_ c (z207_l2 N g_ n12) d st=some r) ?_ (fun j54=>?_))
  ·intro f h
   replace h:z207_k6 N g_ c (z207_l2 N g_ n12) d f=some r:=h
   unfold z207_k6 at h
   obtain ⟨K,h⟩|⟨K,h⟩:=oc h
   ·refine eK K ?_
    cases h
    exact wr J 5 func207 []
   refine eK K (wa J 9 (eCut (σ:=Unit) (fun st=>⟨[(1,.B 4 0),(8,.S 2),(9,.I (g_.Edges.length:Int)),(10,.I c)],[(4,.box (cC5 0 1 2 3 g_) 27)],(vV5 0 1 2 3 g_ []),7⟩) (fun st=>z207_k3 c (z207_l2 N g_ n12)=some r) ?_ (fun j55=>?_)))
   ·intro _ h
    replace h:z207_k3 c (z207_l2 N g_ n12)=some r:=h
    unfold z207_k3 at h
    exact wa J 5 (eSub [] (ih33 (w64 (c+1)) h))
   refine wa J 1 (eLoop (σ:=Int) (fun st=>⟨[(1,.B 4 0),(3,.I c),(4,.B 6 0),(8,.S 2),(9,.I (g_.Edges.length:Int)),(10,.I c),(32,.S 2),(33,.I (g_.Edges.length:Int)),(34,.I st)],[(4,.box (cC5 0 1 2 3 g_) 27),(6,.box (cC2 d) 154)],(vV5 0 1 2 3 g_ []),7⟩) (fun n st=>z207_l4 g_ c (z207_l2 N g_ n12) d n st) (r:=r) (fun _=>rfl) ?_ (fun ih=>?_))
   ·intro n14 ih60
    intro g h
    replace h:z207_l4 g_ c (z207_l2 N g_ n12) d (n14+1) g=some r:=h
    unfold z207_l4 at h
    obtain ⟨K,h⟩|⟨K,h⟩:=oc' h
    ·exact wH J 5 K (wa J 2 (eSub [] (j55 () h)))
    refine wH J 5 K ?_
    obtain ⟨i,j,h⟩:=ob h
    refine wa J 7 (eIx J oO2 j ?_)
    refine wa J 12 (eCut (σ:=Bool) (fun st=>⟨[(1,.B 4 0),(3,.I c),(4,.B 6 0),(6,.B 8 0),(8,.S 2),(9,.I (g_.Edges.length:Int)),(10,.I c),(32,.S 2),(33,.I (g_.Edges.length:Int)),(34,.I g),(68,.O st)],[(4,.box (cC5 0 1 2 3 g_) 27),(6,.box (cC2 d) 154),(8,.box (cC2 i) 154)],(vV5 0 1 2 3 g_ []),9⟩) (fun st=>z207_k5 d g (z207_l4 g_ c (z207_l2 N g_ n12) d n14) i st=some r) ?_ (fun j63=>?_))
    ·intro k h
     replace h:z207_k5 d g (z207_l4 g_ c (z207_l2 N g_ n12) d n14) i k=some r:=h
     unfold z207_k5 at h
     obtain ⟨K,h⟩|⟨K,h⟩:=oc h
     ·refine eK K ?_
      cases h
      exact wr J 5 func207 []
     refine eK K ?_
     obtain ⟨K,h⟩|⟨K,h⟩:=oc' h
     ·exact wH J 7 K (wa J 32 (eSub [] (ih60 (w64 (g+1)) h)))
     refine wH J 7 K ?_
     obtain ⟨K,h⟩|⟨K,h⟩:=oc' h
     ·exact wH J 7 K (wa J 25 (eSub [] (ih60 (w64 (g+1)) h)))
     refine wH J 7 K ?_
     obtain ⟨K,h⟩|⟨K,h⟩:=oc h
     ·refine wH J 8 K ?_
      cases h
      exact wr J 15 func207 []
     refine wH J 8 K ?_
     obtain ⟨K,h⟩|⟨K,h⟩:=oc h
     ·refine wH J 10 K ?_
      cases h
      exact wr J 5 func207 []
     exact wH J 10 K (wa J 7 (eSub [] (ih60 (w64 (g+1)) h)))
    obtain ⟨K,h⟩|⟨K,h⟩:=oc' h
    ·exact eK K (wa J 27 (eSub [] (j63 false h)))
    refine eK K ?_
    obtain ⟨K,h⟩|⟨K,h⟩:=oc' h
    ·exact wH J 7 K (wa J 20 (eSub [] (j63 false h)))
    refine wH J 7 K (wa J 4 (eEq ?_))
    obtain ⟨K,h⟩|⟨K,h⟩:=oc h
    ·exact wH J 1 K (wa J 14 (eSub [] (j63 true h)))
    refine wH J 1 K ?_
    obtain ⟨K,h⟩|⟨K,h⟩:=oc h
    ·exact wH J 9 K (wa J 5 (eSub [] (j63 true h)))
    exact wH J 9 K (wa J 5 (eSub [] (j63 d.Again h)))
   exact eSub [] (ih N 0 h)
  obtain ⟨K,h⟩|⟨K,h⟩:=oc h
  ·exact eK K (wa J 11 (eSub [] (j54 true h)))
  refine eK K ?_
  obtain ⟨K,h⟩|⟨K,h⟩:=oc h
  ·exact wH J 3 K (wa J 8 (eSub [] (j54 (d.From==g_.Start) h)))
  exact wH J 3 K (wa J 8 (eSub [] (j54 false h)))
 exact eSub [] (ih N 0 h)
theorem z208_ct (N:Nat) (g_:T5) (r:Bool) (h:z208 N g_=some r) :
 Fn Tryz.prog 208 ⟨4,[.a (cC5 0 1 2 3 g_)],(vV5 0 1 2 3 g_ []),[],4,.O r,[],[]⟩:=by
 refine eFn func208 rfl (fun E F w=>?_)
 unfold z208 at h
 refine wa J 17 (eCut (σ:=Unit) (fun st=>⟨[],[],(vV5 0 1 2 3 g_ []),5⟩) (fun st=>z208_k1=some r) ?_ (fun j1=>?_))
 ·intro _ h
  replace h:z208_k1=some r:=h
  unfold z208_k1 at h
  cases h
  exact wr J 4 func208 []
 refine wa J 1 (eLoop (σ:=Int × Int) (fun st=>(zz8 g_ [(1,.B 4 0),(3,.I st.1),(7,.S 3),(8,.I (g_.Timeouts.length:Int)),(9,.I st.2)])) (fun n st=>z208_l2 g_ n st.1 st.2) (r:=r) (fun _=>rfl) ?_ (fun ih=>?_))
 ·intro n2 ih3
  rintro ⟨c,d⟩ h
  replace h:z208_l2 g_ (n2+1) c d=some r:=h
  unfold z208_l2 at h
  obtain ⟨K,h⟩|⟨K,h⟩:=oc' h
  ·exact wH J 5 K (wa J 2 (eSub [] (j1 () h)))
  refine wH J 5 K ?_
  obtain ⟨e,f,h⟩:=ob h
  refine wa J 6 (eIx J oO11 f ?_)
  obtain ⟨K,h⟩|⟨K,h⟩:=oc h
  ·refine wH J 12 K (wa J 43 (eEnd ?_))
   cases h
   exact wr J 5 func208 []
  refine wH J 12 K ?_
  obtain ⟨K,h⟩|⟨K,h⟩:=oc h
  ·refine wH J 5 K (wa J 38 (eEnd ?_))
   cases h
   exact wr J 5 func208 []
  refine wH J 5 K ?_
  obtain ⟨K,h⟩|⟨K,h⟩:=oc h
  ·refine wH J 5 K (wa J 33 (eEnd ?_))
   cases h
   exact wr J 5 func208 []
  refine wH J 5 K ?_
  obtain ⟨K,h⟩|⟨K,h⟩:=oc h
  ·refine wH J 5 K (wa J 28 (eEnd ?_))
   cases h
   exact wr J 5 func208 []
  refine wH J 5 K ?_
  obtain ⟨K,h⟩|⟨K,h⟩:=oc h
  ·refine wH J 8 K (wa J 20 (eEnd ?_))
   cases h
   exact wr J 5 func208 []
  refine wH J 8 K ?_
  obtain ⟨g,i,h⟩:=ob h
  refine wa J 4 (eIx J oO2 i ?_)
  obtain ⟨K,h⟩|⟨K,h⟩:=oc h
  ·refine wH J 7 K (wa J 8 (eEnd ?_))
   cases h
   exact wr J 5 func208 []
  refine wH J 7 K ?_
  obtain ⟨j,k,h⟩:=ob h
  refine wa J 4 (eIx J oO2 k (wa J 3 (eEnd ?_)))
  obtain ⟨K,h⟩|⟨K,h⟩:=oc h
  ·refine eK K ?_
   cases h
   exact wr J 5 func208 []
  exact eK K (wa J 12 (eSub [] (ih3 (e.State,(w64 (d+1))) h)))
 exact eSub [] (ih N ((-1),0) h)
theorem z303_ct (N:Nat) (x_:Int) (y_:Int) (r:Int × Int) (h:z303 N x_ y_=some r) :
 Fn Tryz.prog 303 ⟨0,[.c (.i .u64 x_),.c (.i .u64 y_)],[],[],0,.t [.inl (.i .u64 r.1),.inl (.i .u64 r.2)],[],[]⟩:=by
 refine eFn func303 rfl (fun E F w=>?_)
 unfold z303 at h
 obtain ⟨x1,d,h⟩:=ob h
 refine wa J 8 (eBi d ?_)
 obtain ⟨x2,e,h⟩:=ob h
 refine wa J 5 (eBi e ?_)
 obtain ⟨x3,f,h⟩:=ob h
 refine wa J 5 (eBi f ?_)
 obtain ⟨x4,g,h⟩:=ob h
 refine wa J 5 (eBi g ?_)
 obtain ⟨x5,j,h⟩:=ob h
 refine wa J 15 (eBi j ?_)
 obtain ⟨x6,k,h⟩:=ob h
 refine wa J 6 (eBi k ?_)
 obtain ⟨x7,l,h⟩:=ob h
 refine wa J 5 (eBi l ?_)
 obtain ⟨x8,m,h⟩:=ob h
 refine wa J 19 (eBi m ?_)
 cases h
 exact wr J 10 func303 []
theorem z279_ct (N:Nat) (x_:Int) (y_:Int) (r:Int × Int) (h:z279 N x_ y_=some r) :
 Fn Tryz.prog 279 ⟨0,[.c (.i .u64 x_),.c (.i .u64 y_)],[],[],0,.t [.inl (.i .u64 r.1),.inl (.i .u64 r.2)],[],[]⟩:=by
 refine eFn func279 rfl (fun E F w=>?_)
 unfold z279 at h
 obtain ⟨x1,d,h⟩:=ob h
 refine wa J 12 (eCl (z303_ct N x_ y_ _ d) [] [] ?_)
 cases h
 exact wr J 13 func279 []
theorem z259_ct (N:Nat) (x_:(List Int)) (count_:Int) (r:(List Int)) (h:z259 N x_ count_=some r) :
 Fn Tryz.prog 259 ⟨1,[.S 0,.I count_],[(0,.sl (rI .i64) x_)],[],2,.S 1,[],[(1,.own (rI .i64) r true)]⟩:=by
 refine eFn func259 rfl (fun E F w=>?_)
 unfold z259 at h
 obtain ⟨K,h⟩|⟨K,h⟩:=oc h
 ·refine wH J 10 K ?_
  cases h
 refine wH J 10 K ?_
 obtain ⟨x1,d,h⟩:=ob h
 refine wa J 9 (eCl (z279_ct N (wk .u64 ((x_.length:Int))) (wk .u64 (count_)) _ d) [] [] ?_)
 refine wa J 12 (eCut (σ:=Bool) (fun st=>(zz6 x_ [(0,.S 0),(6,.c (.i .u64 x1.2)),(26,.O st)])) (fun st=>z259_k3 N x_ x1 st=some r) ?_ (fun j2=>?_))
 ·intro e h
  replace h:z259_k3 N x_ x1 e=some r:=h
  unfold z259_k3 at h
  obtain ⟨K,h⟩|⟨K,h⟩:=oc h
  ·refine eK K ?_
   cases h
  refine eK K ?_
  obtain ⟨x2,f,h⟩:=ob h
  refine wa J 6 (eMk J (oI .i64) f ?_)
  obtain ⟨x3,g,h⟩:=ob h
  refine wa J 6 (eCp J (rI .i64) g (wa J 3 (eCut (σ:=(List Int)) (fun st=>⟨[(7,.S 1)],[(1,.own (rI .i64) st true)],[(0,.sl (rI .i64) x_)],2⟩) (fun st=>z259_k1 st=some r) ?_ (fun j4=>?_))))
  ·intro j h
   replace h:z259_k1 j=some r:=h
   unfold z259_k1 at h
   cases h
   exact wr J 5 func259 [(1,.sl 1)]
  refine wa J 1 (eLoop (σ:=(List Int) × Int) (fun st=>⟨[(7,.S 1),(8,.I st.2)],[(1,.own (rI .i64) st.1 true)],[(0,.sl (rI .i64) x_)],2⟩) (fun n st=>z259_l2 n st.1 st.2) (r:=r) (fun _=>rfl) ?_ (fun ih=>?_))
  ·intro n2 ih6
   rintro ⟨k,l⟩ h
   replace h:z259_l2 (n2+1) k l=some r:=h
   unfold z259_l2 at h
   obtain ⟨K,h⟩|⟨K,h⟩:=oc' h
   ·exact wH J 8 K (wa J 2 (eSub [] (j4 k h)))
   refine wH J 8 K ?_
   obtain ⟨m,o,h⟩:=ob h
   refine wa J 7 (eVw J (rI .i64) o ?_)
   obtain ⟨p,q,h⟩:=ob h
   refine wa J 2 (eVw J (rI .i64) q ?_)
   obtain ⟨s,t,h⟩:=ob h
   exact eDw J (rI .i64) q t (wa J 2 (eEnd (wa J 1 (eSub [] (ih6 (s.1,(w64 (l+s.2))) h)))))
  exact eSub [] (ih N (x3.1,x3.2) h)
 obtain ⟨K,h⟩|⟨K,h⟩:=oc h
 ·exact eK K (wa J 4 (eSub [] (j2 true h)))
 exact eK K (wa J 4 (eSub [] (j2 (decide (x1.2 > 9223372036854775807)) h)))
theorem z210_ct (N:Nat) (g_:T5) (from_:Int) (back_:Bool) (r:(List Int)) (h:z210 N g_ from_ back_=some r) :
 Fn Tryz.prog 210 ⟨4,[.a (cC5 0 1 2 3 g_),.I from_,.O back_],(vV5 0 1 2 3 g_ []),[],5,.S 4,[],[(4,.own (rI .i64) r true)]⟩:=by
 refine eFn func210 rfl (fun E F w=>?_)
 unfold z210 at h
 refine wa J 7 (eBs J [] (oI .i64) ([(-1)]:List Int) ?_)
 obtain ⟨x1,c,h⟩:=ob h
 refine wa J 2 (eCb (z259_ct N ([(-1)]:List Int) g_.States _ c) [] [(0,.sl 5)] [5] (.inr ⟨rfl,⟨(rI_flat _),trivial⟩⟩) ?_)
 obtain ⟨x2,d,h⟩:=ob h
 refine wa J 6 (eIo J (rI .i64) d (eSt J [] (oI .i64) 0 d (wa J 5 (eBs J [] (oI .i64) ([from_]:List Int) (wa J 2 (eCut (σ:=(List Int)) (fun st=>⟨[(7,.S 6)],[(6,.own (rI .i64) st true)],(vV5 0 1 2 3 g_ []),9⟩) (fun st=>z210_k1 st=some r) ?_ (fun j1=>?_)))))))
 ·intro e h
  replace h:z210_k1 e=some r:=h
  unfold z210_k1 at h
  cases h
  exact wr J 5 func210 [(4,.sl 6)]
 refine wa J 1 (eLoop (σ:=(List Int) × (List Int)) (fun st=>⟨[(2,.O back_),(3,.B 4 0),(7,.S 6),(8,.S 9)],[(4,.box (cC5 0 1 2 3 g_) 27),(6,.own (rI .i64) st.1 true),(9,.own (rI .i64) st.2 true)],(vV5 0 1 2 3 g_ []),10⟩) (fun n st=>z210_l2 N g_ back_ n st.1 st.2) (r:=r) (fun _=>rfl) ?_ (fun ih=>?_))
 ·intro n12 ih30
  rintro ⟨f,g⟩ h
  replace h:z210_l2 N g_ back_ (n12+1) f g=some r:=h
  unfold z210_l2 at h
  obtain ⟨K,h⟩|⟨K,h⟩:=oc' h
  ·exact wH J 7 K (wa J 2 (eSub [] (j1 f h)))
  refine wH J 7 K (wa J 11 (eCut (σ:=(List Int) × (List Int)) (fun st=>(zz17 g_ st.1 st.2 [(2,.O back_),(3,.B 4 0),(7,.S 6),(8,.S 10)])) (fun st=>z210_k3 (z210_l2 N g_ back_ n12) st.1 st.2=some r) ?_ (fun j49=>?_)))
  ·rintro ⟨i,j⟩ h
   replace h:z210_k3 (z210_l2 N g_ back_ n12) i j=some r:=h
   unfold z210_k3 at h
   obtain ⟨k,l,h⟩:=ob h
   exact wa J 3 (eVw J (rI .i64) l (wa J 2 (eSl (rI .i64) 11 l (eSub [(9,.sl 11)] (ih30 (i,k) h)))))
  refine wa J 1 (eLoop (σ:=(List Int) × (List Int) × Int) (fun st=>(zz17 g_ st.1 st.2.1 [(2,.O back_),(3,.B 4 0),(7,.S 6),(8,.S 10),(28,.S 2),(29,.I (g_.Edges.length:Int)),(30,.I st.2.2)])) (fun n st=>z210_l4 g_ back_ (z210_l2 N g_ back_ n12) n st.1 st.2.1 st.2.2) (r:=r) (fun _=>rfl) ?_ (fun ih=>?_))
  ·intro n14 ih54
   rintro ⟨m,o,p⟩ h
   replace h:z210_l4 g_ back_ (z210_l2 N g_ back_ n12) (n14+1) m o p=some r:=h
   unfold z210_l4 at h
   obtain ⟨K,h⟩|⟨K,h⟩:=oc' h
   ·exact wH J 5 K (wa J 2 (eSub [] (j49 (m,o) h)))
   refine wH J 5 K ?_
   obtain ⟨q,s,h⟩:=ob h
   refine wa J 6 (eIx J oO2 s (wa J 12 (eEnd (wa J 5 (eCut (σ:=Int × Int) (fun st=>⟨[(2,.O back_),(3,.B 4 0),(7,.S 6),(8,.S 10),(11,.I st.1),(12,.I st.2),(28,.S 2),(29,.I (g_.Edges.length:Int)),(30,.I p)],[(4,.box (cC5 0 1 2 3 g_) 27),(6,.own (rI .i64) m true),(10,.own (rI .i64) o true)],(vV5 0 1 2 3 g_ []),13⟩) (fun st=>z210_k5 m o p (z210_l4 g_ back_ (z210_l2 N g_ back_ n12) n14) st.1 st.2=some r) ?_ (fun j57=>?_))))))
   ·rintro ⟨t,u⟩ h
    replace h:z210_k5 m o p (z210_l4 g_ back_ (z210_l2 N g_ back_ n12) n14) t u=some r:=h
    unfold z210_k5 at h
    obtain ⟨v,x,h⟩:=ob h
    refine wa J 4 (eIo J (rI .i64) x (eLd J (oI .i64) x ?_))
    obtain ⟨K,h⟩|⟨K,h⟩:=oc' h
    ·exact wH J 2 K (wa J 14 (eSub [] (ih54 (m,o,(w64 (p+1))) h)))
    refine wH J 2 K ?_
    obtain ⟨y,z,h⟩:=ob h
    refine wa J 2 (eIo J (rI .i64) z (eLd J (oI .i64) z ?_))
    obtain ⟨K,h⟩|⟨K,h⟩:=oc' h
    ·exact wH J 3 K (wa J 7 (eSub [] (ih54 (m,o,(w64 (p+1))) h)))
    refine wH J 3 K ?_
    obtain ⟨A,C,h⟩:=ob h
    refine wa J 7 (eIo J (rI .i64) C (eLd J (oI .i64) C ?_))
    obtain ⟨D,G,h⟩:=ob h
    refine wa J 1 (eIo J (rI .i64) G (eSt J [] (oI .i64) (w64 (A+1)) G (wa J 4 (eBs J [] (oI .i64) ([u]:List Int) ?_))))
    obtain ⟨H,R,h⟩:=ob h
    exact eAp J (rI .i64) R (wa J 7 (eSub [(10,.sl 18)] (ih54 ((setL' m u (w64 (A+1))),H,(w64 (p+1))) h)))
   obtain ⟨K,h⟩|⟨K,h⟩:=oc h
   ·exact eK K (wa J 7 (eSub [] (j57 (q.To,q.From) h)))
   exact eK K (wa J 2 (eSub [] (j57 (q.From,q.To) h)))
  exact eSub [(10,.sl 9)] (ih N (f,g,0) h)
 exact eSub [(9,.sl 8)] (ih N ((setL' x1 from_ 0),([from_]:List Int)) h)
theorem z258_ct (N:Nat) (s_:(List Int)) (v_:Int) (r:Int) (h:z258 N s_ v_=some r) :
 Fn Tryz.prog 258 ⟨1,[.S 0,.I v_],[(0,.sl (rI .i64) s_)],[],1,.I r,[],[]⟩:=by
 refine eFn func258 rfl (fun E F w=>?_)
 unfold z258 at h
 refine wa J 11 (eCut (σ:=Unit) (fun st=>(zz6 s_ [])) (fun st=>z258_k1=some r) ?_ (fun j1=>?_))
 ·intro _ h
  replace h:z258_k1=some r:=h
  unfold z258_k1 at h
  cases h
  exact wr J 4 func258 []
 refine wa J 1 (eLoop (σ:=Int) (fun st=>(zz6 s_ [(0,.S 0),(1,.I v_),(7,.I (s_.length:Int)),(8,.I st)])) (fun n st=>z258_l2 s_ v_ n st) (r:=r) (fun _=>rfl) ?_ (fun ih=>?_))
 ·intro n2 ih3
  intro c h
  replace h:z258_l2 s_ v_ (n2+1) c=some r:=h
  unfold z258_l2 at h
  obtain ⟨K,h⟩|⟨K,h⟩:=oc' h
  ·exact wH J 5 K (wa J 2 (eSub [] (j1 () h)))
  refine wH J 5 K ?_
  obtain ⟨x9,d,h⟩:=ob h
  refine wa J 14 (eIx J (oI .i64) d ?_)
  obtain ⟨K,h⟩|⟨K,h⟩:=oc h
  ·refine wH J 3 K ?_
   cases h
   exact wr J 6 func258 []
  exact wH J 3 K (wa J 7 (eSub [] (ih3 (w64 (c+1)) h)))
 exact eSub [] (ih N 0 h)
theorem z209_ct (N:Nat) (s_:(List Int)) (v_:Int) (r:Bool) (h:z209 N s_ v_=some r) :
 Fn Tryz.prog 209 ⟨1,[.S 0,.I v_],[(0,.sl (rI .i64) s_)],[],1,.O r,[],[]⟩:=by
 refine eFn func209 rfl (fun E F w=>?_)
 unfold z209 at h
 obtain ⟨x1,c,h⟩:=ob h
 refine wa J 8 (eCl (z258_ct N s_ v_ _ c) [] [(0,.sl 0)] ?_)
 cases h
 exact wr J 3 func209 []
theorem z141_ct (N:Nat) (g_:T5) (r:Bool) (h:z141 N g_=some r) :
 Fn Tryz.prog 141 ⟨4,[.a (cC5 0 1 2 3 g_)],(vV5 0 1 2 3 g_ []),[],4,.O r,[],[]⟩:=by
 refine eFn func141 rfl (fun E F w=>?_)
 unfold z141 at h
 obtain ⟨x1,c,h⟩:=ob h
 refine wa J 8 (eCl (z204_ct N g_ _ c) [] [(0,.sl 0),(1,.sl 1),(2,.sl 2),(3,.sl 3)] ?_)
 obtain ⟨K,h⟩|⟨K,h⟩:=oc' h
 ·refine wH J 1 K ?_
  cases h
  exact wr J 34 func141 []
 refine wH J 1 K ?_
 obtain ⟨x2,d,h⟩:=ob h
 refine wa J 1 (eCl (z205_ct N g_ _ d) [] [(0,.sl 0),(1,.sl 1),(2,.sl 2),(3,.sl 3)] ?_)
 obtain ⟨K,h⟩|⟨K,h⟩:=oc' h
 ·refine wH J 2 K ?_
  cases h
  exact wr J 30 func141 []
 refine wH J 2 K ?_
 obtain ⟨x3,e,h⟩:=ob h
 refine wa J 2 (eCl (z206_ct N g_.Decls _ e) [] [(0,.sl 1)] ?_)
 obtain ⟨K,h⟩|⟨K,h⟩:=oc' h
 ·refine wH J 2 K ?_
  cases h
  exact wr J 25 func141 []
 refine wH J 2 K ?_
 obtain ⟨x4,f,h⟩:=ob h
 refine wa J 1 (eCl (z207_ct N g_ _ f) [] [(0,.sl 0),(1,.sl 1),(2,.sl 2),(3,.sl 3)] ?_)
 obtain ⟨K,h⟩|⟨K,h⟩:=oc' h
 ·refine wH J 2 K ?_
  cases h
  exact wr J 21 func141 []
 refine wH J 2 K ?_
 obtain ⟨x5,g,h⟩:=ob h
 refine wa J 1 (eCl (z208_ct N g_ _ g) [] [(0,.sl 0),(1,.sl 1),(2,.sl 2),(3,.sl 3)] ?_)
 obtain ⟨K,h⟩|⟨K,h⟩:=oc' h
 ·refine wH J 2 K ?_
  cases h
  exact wr J 17 func141 []
 refine wH J 2 K ?_
 obtain ⟨x6,i,h⟩:=ob h
 refine wa J 3 (eCl (z210_ct N g_ g_.Start false _ i) [] [(0,.sl 0),(1,.sl 1),(2,.sl 2),(3,.sl 3)] ?_)
 obtain ⟨x7,j,h⟩:=ob h
 refine eCb (z209_ct N x6 (-1) _ j) [] [(0,.sl 5)] [5] (.inr ⟨rfl,trivial⟩) ?_
 obtain ⟨K,h⟩|⟨K,h⟩:=oc' h
 ·refine wH J 3 K ?_
  cases h
  exact wr J 9 func141 []
 refine wH J 3 K ?_
 obtain ⟨x8,k,h⟩:=ob h
 refine wa J 3 (eCl (z210_ct N g_ g_.End true _ k) [] [(0,.sl 0),(1,.sl 1),(2,.sl 2),(3,.sl 3)] ?_)
 obtain ⟨x9,l,h⟩:=ob h
 refine eCb (z209_ct N x8 (-1) _ l) [] [(0,.sl 6)] [6] (.inr ⟨rfl,trivial⟩) ?_
 cases h
 exact wr J 4 func141 []
theorem z214_ct (N:Nat) (m_:T8) (n_:Int) (r:Bool) (h:z214 N m_ n_=some r) :
 Fn Tryz.prog 214 ⟨3,[.a (cC8 0 1 2 m_),.I n_],(vV8 0 1 2 m_ []),[],3,.O r,[],[]⟩:=by
 refine eFn func214 rfl (fun E F w=>?_)
 unfold z214 at h
 obtain ⟨K,h⟩|⟨K,h⟩:=oc h
 ·refine wH J 10 K ?_
  cases h
  exact wr J 7 func214 []
 refine wH J 10 K ?_
 cases h
 exact wr J 7 func214 []
theorem z147_ct (N:Nat) (m_:T8) (r:Bool) (h:z147 N m_=some r) :
 Fn Tryz.prog 147 ⟨3,[.a (cC8 0 1 2 m_)],(vV8 0 1 2 m_ []),[],3,.O r,[],[]⟩:=by
 refine eFn func147 rfl (fun E F w=>?_)
 unfold z147 at h
 obtain ⟨K,h⟩|⟨K,h⟩:=oc h
 ·refine wH J 12 K ?_
  cases h
  exact wr J 41 func147 []
 refine wH J 12 K ?_
 obtain ⟨K,h⟩|⟨K,h⟩:=oc h
 ·refine wH J 5 K ?_
  cases h
  exact wr J 36 func147 []
 refine wH J 5 K ?_
 obtain ⟨K,h⟩|⟨K,h⟩:=oc h
 ·refine wH J 5 K ?_
  cases h
  exact wr J 31 func147 []
 refine wH J 5 K ?_
 obtain ⟨K,h⟩|⟨K,h⟩:=oc h
 ·refine wH J 5 K ?_
  cases h
  exact wr J 26 func147 []
 refine wH J 5 K ?_
 obtain ⟨x1,c,h⟩:=ob h
 refine wa J 3 (eCl (z214_ct N m_ m_.Start _ c) [] [(0,.sl 0),(1,.sl 1),(2,.sl 2)] ?_)
 obtain ⟨K,h⟩|⟨K,h⟩:=oc h
 ·refine wH J 3 K ?_
  cases h
  exact wr J 19 func147 []
 refine wH J 3 K ?_
 obtain ⟨K,h⟩|⟨K,h⟩:=oc h
 ·refine wH J 8 K ?_
  cases h
  exact wr J 11 func147 []
 refine wH J 8 K ?_
 obtain ⟨K,h⟩|⟨K,h⟩:=oc h
 ·refine wH J 6 K ?_
  cases h
  exact wr J 5 func147 []
 refine wH J 6 K (wa J 10 (eCut (σ:=Unit) (fun st=>⟨[],[],(vV8 0 1 2 m_ []),4⟩) (fun st=>z147_k1=some r) ?_ (fun j1=>?_)))
 ·intro _ h
  replace h:z147_k1=some r:=h
  unfold z147_k1 at h
  cases h
  exact wr J 4 func147 []
 refine wa J 1 (eLoop (σ:=Int) (fun st=>⟨[(1,.B 3 0),(45,.S 1),(46,.I (m_.Moves.length:Int)),(47,.I st)],[(3,.box (cC8 0 1 2 m_) 31)],(vV8 0 1 2 m_ []),4⟩) (fun n st=>z147_l2 N m_ n st) (r:=r) (fun _=>rfl) ?_ (fun ih=>?_))
 ·intro n2 ih3
  intro d h
  replace h:z147_l2 N m_ (n2+1) d=some r:=h
  unfold z147_l2 at h
  obtain ⟨K,h⟩|⟨K,h⟩:=oc' h
  ·exact wH J 5 K (wa J 2 (eSub [] (j1 () h)))
  refine wH J 5 K ?_
  obtain ⟨e,f,h⟩:=ob h
  refine wa J 6 (eIx J oO9 f ?_)
  obtain ⟨g,i,h⟩:=ob h
  refine wa J 9 (eCl (z214_ct N m_ e.From _ i) [] [(0,.sl 0),(1,.sl 1),(2,.sl 2)] ?_)
  obtain ⟨K,h⟩|⟨K,h⟩:=oc h
  ·refine wH J 2 K ?_
   cases h
   exact wr J 39 func147 []
  refine wH J 2 K ?_
  obtain ⟨j,k,h⟩:=ob h
  refine wa J 3 (eCl (z214_ct N m_ e.To _ k) [] [(0,.sl 0),(1,.sl 1),(2,.sl 2)] ?_)
  obtain ⟨K,h⟩|⟨K,h⟩:=oc h
  ·refine wH J 3 K ?_
   cases h
   exact wr J 32 func147 []
  refine wH J 3 K ?_
  obtain ⟨K,h⟩|⟨K,h⟩:=oc h
  ·refine wH J 5 K ?_
   cases h
   exact wr J 27 func147 []
  refine wH J 5 K ?_
  obtain ⟨K,h⟩|⟨K,h⟩:=oc h
  ·refine wH J 5 K ?_
   cases h
   exact wr J 22 func147 []
  refine wH J 5 K ?_
  obtain ⟨K,h⟩|⟨K,h⟩:=oc h
  ·refine wH J 7 K ?_
   cases h
   exact wr J 15 func147 []
  refine wH J 7 K ?_
  obtain ⟨K,h⟩|⟨K,h⟩:=oc h
  ·refine wH J 5 K ?_
   cases h
   exact wr J 10 func147 []
  refine wH J 5 K ?_
  obtain ⟨K,h⟩|⟨K,h⟩:=oc h
  ·refine wH J 5 K ?_
   cases h
   exact wr J 5 func147 []
  exact wH J 5 K (wa J 7 (eSub [] (ih3 (w64 (d+1)) h)))
 exact eSub [] (ih N 0 h)
section
variable [LxP]
theorem z155_ct (N:Nat) (x_:T9) (r:T14) (h:z155 N x_=some r) :
 Fn Tryz.prog 155 ⟨0,[.a (cC9 x_)],[],[],0,.a (cC14 r),[],[]⟩:=by
 refine eFn func155 rfl (fun E F w=>?_)
 unfold z155 at h
 cases h
 exact wr J 16 func155 []
end
section
variable [LxP]
theorem z260_ct (N:Nat) (x_:Int) (r:Bool) (h:z260 N x_=some r) :
 Fn Tryz.prog 260 ⟨0,[.I x_],[],[],0,.O r,[],[]⟩:=by
 refine eFn func260 rfl (fun E F w=>?_)
 unfold z260 at h
 cases h
 exact wr J 11 func260 []
end
section
variable [LxP]
theorem z212_ct (N:Nat) (x_:Int) (y_:Int) (r:Int) (h:z212 N x_ y_=some r) :
 Fn Tryz.prog 212 ⟨0,[.I x_,.I y_],[],[],0,.I r,[],[]⟩:=by
 refine eFn func212 rfl (fun E F w=>?_)
 unfold z212 at h
 obtain ⟨x1,c,h⟩:=ob h
 refine wa J 7 (eCl (z260_ct N x_ _ c) [] [] ?_)
 obtain ⟨x2,d,h⟩:=ob h
 refine wa J 5 (eCl (z260_ct N y_ _ d) [] [] ?_)
 obtain ⟨K,h⟩|⟨K,h⟩:=oc h
 ·refine wH J 7 K ?_
  obtain ⟨K,h⟩|⟨K,h⟩:=oc h
  ·refine wH J 6 K ?_
   cases h
   exact wr J 5 func212 []
  refine wH J 6 K ?_
  cases h
  exact wr J 6 func212 []
 refine wH J 7 K ?_
 obtain ⟨K,h⟩|⟨K,h⟩:=oc h
 ·refine wH J 7 K ?_
  cases h
  exact wr J 5 func212 []
 refine wH J 7 K ?_
 obtain ⟨K,h⟩|⟨K,h⟩:=oc h
 ·refine wH J 9 K ?_
  cases h
  exact wr J 5 func212 []
 refine wH J 9 K ?_
 obtain ⟨K,h⟩|⟨K,h⟩:=oc h
 ·refine wH J 9 K ?_
  cases h
  exact wr J 5 func212 []
 refine wH J 9 K ?_
 cases h
 exact wr J 6 func212 []
end
section
variable [LxP]
theorem z211_ct (N:Nat) (vals_:(List Int)) (r:Int) (h:z211 N vals_=some r) :
 Fn Tryz.prog 211 ⟨1,[.S 0],[(0,.sl (rI .i64) vals_)],[],1,.I r,[],[]⟩:=by
 refine eFn func211 rfl (fun E F w=>?_)
 unfold z211 at h
 refine wa J 15 (eCut (σ:=Unit) (fun st=>(zz6 vals_ [(3,.I 0)])) (fun st=>z211_k1=some r) ?_ (fun j1=>?_))
 ·intro _ h
  replace h:z211_k1=some r:=h
  unfold z211_k1 at h
  cases h
  exact wr J 5 func211 []
 refine wa J 1 (eLoop (σ:=Int) (fun st=>(zz6 vals_ [(3,.I 0),(6,.S 0),(7,.I (vals_.length:Int)),(8,.I st)])) (fun n st=>z211_l2 vals_ n st) (r:=r) (fun _=>rfl) ?_ (fun ih=>?_))
 ·intro n2 ih3
  intro c h
  replace h:z211_l2 vals_ (n2+1) c=some r:=h
  unfold z211_l2 at h
  obtain ⟨K,h⟩|⟨K,h⟩:=oc' h
  ·exact wH J 5 K (wa J 2 (eSub [] (j1 () h)))
  refine wH J 5 K ?_
  obtain ⟨x9,d,h⟩:=ob h
  refine wa J 6 (eIx J (oI .i64) d ?_)
  obtain ⟨K,h⟩|⟨K,h⟩:=oc h
  ·refine wH J 9 K ?_
   cases h
   exact wr J 6 func211 []
  exact wH J 9 K (wa J 7 (eSub [] (ih3 (w64 (c+1)) h)))
 exact eSub [] (ih N 0 h)
end
section
variable [LxP]
theorem z156_ct (N:Nat) (x_:T14) (y_:T14) (r:Int) (h:z156 N x_ y_=some r) :
 Fn Tryz.prog 156 ⟨0,[.a (cC14 x_),.a (cC14 y_)],[],[],0,.I r,[],[]⟩:=by
 refine eFn func156 rfl (fun E F w=>?_)
 unfold z156 at h
 obtain ⟨K,h⟩|⟨K,h⟩:=oc h
 ·refine wH J 15 K ?_
  obtain ⟨K,h⟩|⟨K,h⟩:=oc h
  ·refine wH J 7 K ?_
   cases h
   exact wr J 5 func156 []
  refine wH J 7 K ?_
  cases h
  exact wr J 6 func156 []
 refine wH J 15 K ?_
 obtain ⟨x1,c,h⟩:=ob h
 refine wa J 8 (eCl (z212_ct N x_.peer' y_.peer' _ c) [] [] ?_)
 obtain ⟨x2,d,h⟩:=ob h
 refine wa J 4 (eCl (z212_ct N x_.label' y_.label' _ d) [] [] (eBs J [] (oI .i64) ([x1,x2]:List Int) ?_))
 obtain ⟨x3,e,h⟩:=ob h
 refine eCb (z211_ct N ([x1,x2]:List Int) _ e) [] [(0,.sl 2)] [2] (.inr ⟨rfl,trivial⟩) (wa J 1 (eEnd ?_))
 cases h
 exact eRet J func156 []
end
section
variable [LxP]
theorem z216_8_ct (N:Nat) (i_:Int) (k_:Int) (c0_:T8) (r:Int) (h:z216_8 N i_ k_ c0_=some r) :
 Fn Tryz.prog 216 ⟨4,[.I i_,.I k_,.B 0 0],(vV8 1 2 3 c0_ []),[(0,.box (cC8 1 2 3 c0_) 31)],4,.I r,[],[(0,.box (cC8 1 2 3 c0_) 31)]⟩:=by
 refine eFn func216 rfl (fun E F w=>?_)
 unfold z216_8 at h
 obtain ⟨x1,c,h⟩:=ob h
 refine wa J 9 (eIx J oO9 c ?_)
 obtain ⟨x2,d,h⟩:=ob h
 refine wa J 1 (eCl (z155_ct N x1 _ d) [] [] ?_)
 obtain ⟨x3,e,h⟩:=ob h
 refine wa J 3 (eIx J oO9 e ?_)
 obtain ⟨x4,f,h⟩:=ob h
 refine wa J 1 (eCl (z155_ct N x3 _ f) [] [] ?_)
 obtain ⟨x5,g,h⟩:=ob h
 refine eCl (z156_ct N x2 x4 _ g) [] [] (wa J 1 (eEnd ?_))
 cases h
 exact eRet J func216 []
end
theorem z148_ct (N:Nat) (m_:T8) (r:T15) (h:z148 N m_=some r) :
 Fn Tryz.prog 148 ⟨3,[.a (cC8 0 1 2 m_)],(vV8 0 1 2 m_ []),[],8,.B 3 0,(vV15 4 5 6 7 r []),[(3,.box (cC15 4 5 6 7 r) 218)]⟩:=by
 refine eFn func148 rfl (fun E F w=>?_)
 unfold z148 at h
 obtain ⟨us,hus,h⟩:=ob h
 obtain ⟨K,h⟩|⟨K,h⟩:=oc h
 ·cases h
 have hne:us≠[]:=by intro e;rw [e] at K;cases K
 refine wm J (eMk J oNil hus (wm J (eEnd (eGt (rI .i64) 4 hne (fun q=>?_)))))
 refine wm J (eLoop (σ:=List Value × List (List Int) × Int) (fun st=>(zz18 m_ m_.Role m_.States m_.Start (tabR (rI .i64) w.heap.size q.1 q.2 st.1 st.2.1 none) (hdrV q.1 q.2 us.length) [(1,.B 3 0),(3,.B 5 0),(15,.S 1),(16,.I (m_.Moves.length:Int)),(17,.I st.2.2)]))
  (fun n st=>bif Nat.beq st.2.1.length us.length then z148_l1 N m_ n st.2.1 st.2.2 else none) (r:=r) (fun st=>by cases Nat.beq st.2.1.length us.length<;>rfl) ?_ (fun ih=>?_))
 ·intro n1 ih1
  rintro ⟨vs,xss,i⟩ h
  obtain ⟨hl,h⟩:=og h
  replace hl:Nat.beq xss.length us.length=true:=hl
  have hl':=Nat.eq_of_beq_eq_true hl
  replace h:z148_l1 N m_ (n1+1) xss i=some r:=h
  unfold z148_l1 at h
  obtain ⟨K,h⟩|⟨K,h⟩:=oc' h
  ·refine wH J 5 K (wm J (eTn (b:=q.1) (p0:=q.2) (len:=us.length) J (wm J (eLoop (σ:=List (List Int) × Int) (fun st=>(zz18 m_ m_.Role m_.States m_.Start (tabR (rI .i64) w.heap.size q.1 q.2 vs st.1 none) (hdrV q.1 q.2 us.length) [(1,.B 3 0),(3,.B 5 0),(44,.S 4),(45,.I (us.length:Int)),(46,.I st.2)]))
    (fun n st=>bif Nat.beq st.1.length us.length then z148_l2 N m_ n st.1 st.2 else none) (r:=r) (fun st=>by cases Nat.beq st.1.length us.length<;>rfl) ?_ (fun ih=>?_)))))
   ·intro n2 ih2
    rintro ⟨yss,j⟩ h
    obtain ⟨hl,h⟩:=og h
    replace hl:Nat.beq yss.length us.length=true:=hl
    have hl':=Nat.eq_of_beq_eq_true hl
    replace h:z148_l2 N m_ (n2+1) yss j=some r:=h
    unfold z148_l2 at h
    rw [hl'] at h
    obtain ⟨K,h⟩|⟨K,h⟩:=oc' h
    ·cases h
     exact wH J 5 K (eGf (R:=rI .i64) (b:=q.1) (p0:=q.2) (vs:=vs) 4 hl' (wm J (eRet J func148 [(3,.bp 5 0),(4,.sl 0),(5,.sl 1),(6,.sl 2),(7,.sl 4)])))
    obtain ⟨xs,hxs,h⟩:=ob h
    obtain ⟨hk,h⟩:=og h
    unfold machine_sorted_ok at hk
    rw [Bool.and_eq_true,Bool.and_eq_true,decide_eq_true_eq] at hk
    obtain ⟨k1,k2,k3⟩:=hk
    obtain ⟨j1,j2,j3⟩:=idx_ok hxs
    have hn:(decide (0≤j) && decide (j < (us.length:Int)))=true:=by rw [hl'] at j2;simp [j1,j2]
    refine wH J 5 K (eGk (R:=rI .i64) (b:=q.1) (p0:=q.2) (vs:=vs) 4 j3 (wm J (eTx (b:=q.1) (p0:=q.2) (len:=us.length) J hn (eTl (R:=rI .i64) (n1:=w.heap.size) (b:=q.1) (p0:=q.2) (vs:=vs) (xss:=yss) (h:=some j.toNat) 4 6 j.toNat J (wm J (eSr (q:=6) slLays k3 (swo_of k2) (cf:=machine_sorted_cf N m_) ⟨Tryz.f216,func216,rfl,rfl⟩ (fun a b ha hb=>@z216_8_ct LxF N a b m_ (machine_sorted_cf N m_ a b) ?_) [(0,.bp 3 0),(1,.sl 0),(2,.sl 1),(3,.sl 2)] (eGp (R:=rI .i64) (b:=q.1) (p0:=q.2) (vs:=vs) (xss:=yss) (j:=j.toNat) (xs:=sortP (machine_sorted_cf N m_) xs) 4 6 (wm J (eSub [] (ih2 (yss.set j.toNat (sortP (machine_sorted_cf N m_) xs),(w64 (j+1))) ?_))))))))))
    ·have:=List.all_eq_true.1 (List.all_eq_true.1 k1 a ha) b hb
     obtain ⟨z,hz⟩:=Option.isSome_iff_exists.1 this
     unfold machine_sorted_cf
     rw [hz];rfl
    ·show (bif Nat.beq (yss.set j.toNat _).length us.length then _ else none)=some r
     rw [List.length_set,hl]
     exact h
   ·refine eSub [] (ih N (xss,0) ?_)
    show (bif Nat.beq xss.length us.length then _ else none)=some r
    rw [hl];exact h
  refine wH J 5 K ?_
  obtain ⟨x,hx,h⟩:=ob h
  obtain ⟨xs,hxs,h⟩:=ob h
  obtain ⟨ys,hys,h⟩:=ob h
  obtain ⟨j1,j2,j3⟩:=idx_ok hxs
  have hn:(decide (0≤x.From) && decide (x.From < (us.length:Int)))=true:=by rw [hl'] at j2;simp [j1,j2]
  have hj:Nat.blt x.From.toNat xss.length=true:=Nat.ble_eq_true_of_le (by omega)
  refine wm J (eIx J oO9 hx (eGk (R:=rI .i64) (b:=q.1) (p0:=q.2) (vs:=vs) 4 j3 (wm J (eTx (b:=q.1) (p0:=q.2) (len:=us.length) J hn (eTl (R:=rI .i64) (n1:=w.heap.size) (b:=q.1) (p0:=q.2) (vs:=vs) (xss:=xss) (h:=some x.From.toNat) 4 7 x.From.toNat J (wm J (eBs J [] (oI .i64) ([i]:List Int) (eAp J (rI .i64) hys (eTx (b:=q.1) (p0:=q.2) (len:=us.length) J hn (eTt (eTs (R:=rI .i64) (b:=q.1) (p0:=q.2) (vs:=vs) (xss:=xss) (xs:=ys) 4 10 x.From.toNat J hj (fun v=>wm J (eSub [] (ih1 (vs.set x.From.toNat v,xss.set x.From.toNat ys,(w64 (i+1))) ?_))))))))))))))
  show (bif Nat.beq (xss.set x.From.toNat ys).length us.length then _ else none)=some r
  rw [List.length_set,hl]
  exact h
 refine eSub [] (ih N (List.replicate us.length (.slice none 0 0),List.replicate us.length [],0) ?_)
 show (bif Nat.beq (List.replicate us.length []).length us.length then _ else none)=some r
 rw [List.length_replicate,Nat.beq_refl]
 exact h
theorem z149_ct (N:Nat) (t_:T15) (r:Bool) (h:z149 N t_=some r) :
 Fn Tryz.prog 149 ⟨5,[.B 0 0],(vV15 1 2 3 4 t_ []),[(0,.box (cC15 1 2 3 4 t_) 218)],5,.O r,[],[(0,.box (cC15 1 2 3 4 t_) 218)]⟩:=by
 refine eFn func149 rfl (fun E F w=>?_)
 unfold z149 at h
 refine wa J 14 (eCut (σ:=Unit) (fun st=>(zz4 t_ [])) (fun st=>z149_k1=some r) ?_ (fun j1=>?_))
 ·intro _ h
  replace h:z149_k1=some r:=h
  unfold z149_k1 at h
  cases h
  exact wr J 4 func149 []
 refine wa J 1 (eLoop (σ:=Int) (fun st=>(zz4 t_ [(0,.B 0 0),(11,.S 4),(12,.I (t_.out'.length:Int)),(13,.I st)])) (fun n st=>z149_l2 N t_ n st) (r:=r) (fun _=>rfl) ?_ (fun ih=>?_))
 ·intro n12 ih12
  intro c h
  replace h:z149_l2 N t_ (n12+1) c=some r:=h
  unfold z149_l2 at h
  obtain ⟨K,h⟩|⟨K,h⟩:=oc' h
  ·exact wH J 5 K (wa J 2 (eSub [] (j1 () h)))
  refine wH J 5 K ?_
  obtain ⟨d,e,h⟩:=ob h
  refine wa J 6 (eIx J (oSl (rI .i64)) e (wa J 7 (eCut (σ:=Unit) (fun st=>⟨[(0,.B 0 0),(11,.S 4),(12,.I (t_.out'.length:Int)),(13,.I c)],[(0,.box (cC15 1 2 3 4 t_) 218)],(vV15 1 2 3 4 t_ []),7⟩) (fun st=>z149_k3 c (z149_l2 N t_ n12)=some r) ?_ (fun j19=>?_))))
  ·intro _ h
   replace h:z149_k3 c (z149_l2 N t_ n12)=some r:=h
   unfold z149_k3 at h
   exact wa J 5 (eSub [] (ih12 (w64 (c+1)) h))
  refine wa J 1 (eLoop (σ:=Int) (fun st=>⟨[(0,.B 0 0),(4,.S 6),(5,.I st),(11,.S 4),(12,.I (t_.out'.length:Int)),(13,.I c)],[(0,.box (cC15 1 2 3 4 t_) 218)],(vV15 1 2 3 4 t_ [(6,.sl (rI .i64) d)]),7⟩) (fun n st=>z149_l4 N t_ c (z149_l2 N t_ n12) d n st) (r:=r) (fun _=>rfl) ?_ (fun ih=>?_))
  ·intro n14 ih21
   intro f h
   replace h:z149_l4 N t_ c (z149_l2 N t_ n12) d (n14+1) f=some r:=h
   unfold z149_l4 at h
   obtain ⟨K,h⟩|⟨K,h⟩:=oc' h
   ·exact wH J 8 K (wa J 2 (eSub [] (j19 () h)))
   refine wH J 8 K ?_
   obtain ⟨g,i,h⟩:=ob h
   refine wa J 14 (eIx J (oI .i64) i ?_)
   obtain ⟨j,k,h⟩:=ob h
   refine wa J 1 (eIx J oO9 k ?_)
   obtain ⟨l,m,h⟩:=ob h
   refine wa J 8 (eIx J (oI .i64) m ?_)
   obtain ⟨o,p,h⟩:=ob h
   refine wa J 1 (eIx J oO9 p (wa J 5 (eEnd ?_)))
   obtain ⟨q,s,h⟩:=ob h
   refine wa J 3 (eCl (z155_ct N j _ s) [] [] ?_)
   obtain ⟨t,u,h⟩:=ob h
   refine wa J 1 (eCl (z155_ct N o _ u) [] [] (eEq ?_))
   obtain ⟨K,h⟩|⟨K,h⟩:=oc h
   ·refine wH J 1 K (wa J 6 (eEnd ?_))
    cases h
    exact wr J 5 func149 []
   refine wH J 1 K (wa J 6 (eEnd ?_))
   obtain ⟨K,h⟩|⟨K,h⟩:=oc h
   ·refine eK K ?_
    cases h
    exact wr J 5 func149 []
   exact eK K (wa J 8 (eSub [] (ih21 (w64 (f+1)) h)))
  exact eSub [] (ih N 1 h)
 exact eSub [] (ih N 0 h)
theorem z150_ct (N:Nat) (t_:T15) (r:Bool) (h:z150 N t_=some r) :
 Fn Tryz.prog 150 ⟨5,[.B 0 0],(vV15 1 2 3 4 t_ []),[(0,.box (cC15 1 2 3 4 t_) 218)],5,.O r,[],[(0,.box (cC15 1 2 3 4 t_) 218)]⟩:=by
 refine eFn func150 rfl (fun E F w=>?_)
 unfold z150 at h
 obtain ⟨x1,c,h⟩:=ob h
 refine wa J 11 (eMk J oB c ?_)
 obtain ⟨x2,d,h⟩:=ob h
 refine wa J 10 (eIo J rB d (eSt J [] oB true d (wa J 8 (eBs J [] (oI .i64) ([t_.Machine.Start]:List Int) (wa J 7 (eCut (σ:=(List Int)) (fun st=>⟨[(0,.B 0 0),(4,.S 8)],[(0,.box (cC15 1 2 3 4 t_) 218),(8,.own (rI .i64) st true)],(vV15 1 2 3 4 t_ []),9⟩) (fun st=>z150_k1 t_ st=some r) ?_ (fun j1=>?_)))))))
 ·intro e h
  replace h:z150_k1 t_ e=some r:=h
  unfold z150_k1 at h
  cases h
  exact wr J 12 func150 []
 refine wa J 1 (eLoop (σ:=(List Bool) × (List Int) × Int) (fun st=>⟨[(0,.B 0 0),(3,.S 5),(4,.S 8),(5,.I st.2.2)],[(0,.box (cC15 1 2 3 4 t_) 218),(5,.own rB st.1 true),(8,.own (rI .i64) st.2.1 true)],(vV15 1 2 3 4 t_ []),9⟩) (fun n st=>z150_l2 N t_ n st.1 st.2.1 st.2.2) (r:=r) (fun _=>rfl) ?_ (fun ih=>?_))
 ·intro n12 ih12
  rintro ⟨f,g,i⟩ h
  replace h:z150_l2 N t_ (n12+1) f g i=some r:=h
  unfold z150_l2 at h
  obtain ⟨K,h⟩|⟨K,h⟩:=oc' h
  ·exact wH J 8 K (wa J 2 (eSub [] (j1 g h)))
  refine wH J 8 K ?_
  obtain ⟨j,k,h⟩:=ob h
  refine wa J 12 (eIo J (rI .i64) k (eLd J (oI .i64) k ?_))
  obtain ⟨l,m,h⟩:=ob h
  refine eIx J (oSl (rI .i64)) m (wa J 3 (eEnd (eCut (σ:=(List Bool) × (List Int)) (fun st=>⟨[(0,.B 0 0),(3,.S 5),(4,.S 12),(5,.I i)],[(0,.box (cC15 1 2 3 4 t_) 218),(5,.own rB st.1 true),(12,.own (rI .i64) st.2 true)],(vV15 1 2 3 4 t_ []),13⟩) (fun st=>z150_k3 i (z150_l2 N t_ n12) st.1 st.2=some r) ?_ (fun j19=>?_))))
  ·rintro ⟨o,p⟩ h
   replace h:z150_k3 i (z150_l2 N t_ n12) o p=some r:=h
   unfold z150_k3 at h
   exact wa J 6 (eSub [(8,.sl 12)] (ih12 (o,p,(w64 (i+1))) h))
  refine wa J 1 (eLoop (σ:=(List Bool) × (List Int) × Int) (fun st=>⟨[(0,.B 0 0),(3,.S 5),(4,.S 12),(5,.I i),(43,.S 11),(44,.I (l.length:Int)),(45,.I st.2.2)],[(0,.box (cC15 1 2 3 4 t_) 218),(5,.own rB st.1 true),(12,.own (rI .i64) st.2.1 true)],(vV15 1 2 3 4 t_ [(11,.sl (rI .i64) l)]),13⟩) (fun n st=>z150_l4 t_ i (z150_l2 N t_ n12) l n st.1 st.2.1 st.2.2) (r:=r) (fun _=>rfl) ?_ (fun ih=>?_))
  ·intro n14 ih21
   rintro ⟨q,s,t⟩ h
   replace h:z150_l4 t_ i (z150_l2 N t_ n12) l (n14+1) q s t=some r:=h
   unfold z150_l4 at h
   obtain ⟨K,h⟩|⟨K,h⟩:=oc' h
   ·exact wH J 5 K (wa J 2 (eSub [] (j19 (q,s) h)))
   refine wH J 5 K ?_
   obtain ⟨u,v,h⟩:=ob h
   refine wa J 6 (eIx J (oI .i64) v ?_)
   obtain ⟨x,y,h⟩:=ob h
   refine wa J 11 (eIx J oO9 y ?_)
   obtain ⟨z,A,h⟩:=ob h
   refine wa J 8 (eIo J rB A (eLd J oB A ?_))
   obtain ⟨K,h⟩|⟨K,h⟩:=oc' h
   ·exact wH J 2 K (wa J 7 (eSub [] (ih21 (q,s,(w64 (t+1))) h)))
   refine wH J 2 K ?_
   obtain ⟨C,D,h⟩:=ob h
   refine wa J 5 (eIo J rB D (eSt J [] oB true D (wa J 4 (eBs J [] (oI .i64) ([x.To]:List Int) ?_))))
   obtain ⟨G,H,h⟩:=ob h
   exact eAp J (rI .i64) H (wa J 7 (eSub [(12,.sl 18)] (ih21 ((setL' q x.To true),G,(w64 (t+1))) h)))
  exact eSub [(12,.sl 8)] (ih N (f,g,0) h)
 exact eSub [(8,.sl 7)] (ih N ((setL' x1 t_.Machine.Start true),([t_.Machine.Start]:List Int),0) h)
theorem z151_ct (N:Nat) (t_:T15) (r:Bool) (h:z151 N t_=some r) :
 Fn Tryz.prog 151 ⟨5,[.B 0 0],(vV15 1 2 3 4 t_ []),[(0,.box (cC15 1 2 3 4 t_) 218)],5,.O r,[],[(0,.box (cC15 1 2 3 4 t_) 218)]⟩:=by
 refine eFn func151 rfl (fun E F w=>?_)
 unfold z151 at h
 refine wa J 15 (eCut (σ:=Unit) (fun st=>(zz4 t_ [])) (fun st=>z151_k1=some r) ?_ (fun j1=>?_))
 ·intro _ h
  replace h:z151_k1=some r:=h
  unfold z151_k1 at h
  cases h
  exact wr J 4 func151 []
 refine wa J 1 (eLoop (σ:=Int) (fun st=>(zz4 t_ [(0,.B 0 0),(11,.S 2),(12,.I (t_.Machine.Moves.length:Int)),(13,.I st)])) (fun n st=>z151_l2 N t_ n st) (r:=r) (fun _=>rfl) ?_ (fun ih=>?_))
 ·intro n12 ih12
  intro c h
  replace h:z151_l2 N t_ (n12+1) c=some r:=h
  unfold z151_l2 at h
  obtain ⟨K,h⟩|⟨K,h⟩:=oc' h
  ·exact wH J 5 K (wa J 2 (eSub [] (j1 () h)))
  refine wH J 5 K ?_
  obtain ⟨d,e,h⟩:=ob h
  refine wa J 6 (eIx J oO9 e ?_)
  obtain ⟨K,h⟩|⟨K,h⟩:=oc h
  ·exact wH J 11 K (wa J 6 (eSub [] (ih12 (w64 (c+1)) h)))
  refine wH J 11 K ?_
  obtain ⟨K,h⟩|⟨K,h⟩:=oc h
  ·refine wH J 9 K (wa J 32 (eEnd ?_))
   cases h
   exact wr J 5 func151 []
  refine wH J 9 K ?_
  obtain ⟨f,g,h⟩:=ob h
  refine wa J 6 (eIx J (oSl (rI .i64)) g ?_)
  obtain ⟨K,h⟩|⟨K,h⟩:=oc h
  ·refine wH J 5 K (wa J 20 (eEnd ?_))
   cases h
   exact wr J 5 func151 []
  refine wH J 5 K ?_
  obtain ⟨K,h⟩|⟨K,h⟩:=oc h
  ·refine wH J 10 K (wa J 10 (eEnd ?_))
   cases h
   exact wr J 5 func151 []
  refine wH J 10 K ?_
  obtain ⟨i,j,h⟩:=ob h
  refine wa J 7 (eIx J oB j (wa J 2 (eEnd ?_)))
  obtain ⟨K,h⟩|⟨K,h⟩:=oc h
  ·refine eK K ?_
   cases h
   exact wr J 5 func151 []
  refine eK K (wa J 12 (eCut (σ:=Unit) (fun st=>⟨[(0,.B 0 0),(11,.S 2),(12,.I (t_.Machine.Moves.length:Int)),(13,.I c)],[(0,.box (cC15 1 2 3 4 t_) 218)],(vV15 1 2 3 4 t_ []),10⟩) (fun st=>z151_k3 c (z151_l2 N t_ n12)=some r) ?_ (fun j19=>?_)))
  ·intro _ h
   replace h:z151_k3 c (z151_l2 N t_ n12)=some r:=h
   unfold z151_k3 at h
   exact wa J 5 (eSub [] (ih12 (w64 (c+1)) h))
  refine wa J 1 (eLoop (σ:=Int) (fun st=>⟨[(0,.B 0 0),(4,.B 6 0),(11,.S 2),(12,.I (t_.Machine.Moves.length:Int)),(13,.I c),(60,.S 2),(61,.I (t_.Machine.Moves.length:Int)),(62,.I st)],[(0,.box (cC15 1 2 3 4 t_) 218),(6,.box (cC9 d) 93)],(vV15 1 2 3 4 t_ []),10⟩) (fun n st=>z151_l4 t_ c (z151_l2 N t_ n12) d n st) (r:=r) (fun _=>rfl) ?_ (fun ih=>?_))
  ·intro n14 ih21
   intro k h
   replace h:z151_l4 t_ c (z151_l2 N t_ n12) d (n14+1) k=some r:=h
   unfold z151_l4 at h
   obtain ⟨K,h⟩|⟨K,h⟩:=oc' h
   ·exact wH J 5 K (wa J 2 (eSub [] (j19 () h)))
   refine wH J 5 K ?_
   obtain ⟨l,m,h⟩:=ob h
   refine wa J 6 (eIx J oO9 m ?_)
   obtain ⟨K,h⟩|⟨K,h⟩:=oc' h
   ·exact wH J 12 K (wa J 19 (eSub [] (ih21 (w64 (k+1)) h)))
   refine wH J 12 K ?_
   obtain ⟨K,h⟩|⟨K,h⟩:=oc h
   ·refine wH J 4 K ?_
    cases h
    exact wr J 13 func151 []
   refine wH J 4 K ?_
   obtain ⟨K,h⟩|⟨K,h⟩:=oc h
   ·refine wH J 8 K ?_
    cases h
    exact wr J 5 func151 []
   exact wH J 8 K (wa J 7 (eSub [] (ih21 (w64 (k+1)) h)))
  exact eSub [] (ih N 0 h)
 exact eSub [] (ih N 0 h)
theorem z152_ct (N:Nat) (t_:T15) (r:Bool) (h:z152 N t_=some r) :
 Fn Tryz.prog 152 ⟨5,[.B 0 0],(vV15 1 2 3 4 t_ []),[(0,.box (cC15 1 2 3 4 t_) 218)],5,.O r,[],[(0,.box (cC15 1 2 3 4 t_) 218)]⟩:=by
 refine eFn func152 rfl (fun E F w=>?_)
 unfold z152 at h
 refine wa J 15 (eCut (σ:=Unit) (fun st=>(zz4 t_ [])) (fun st=>z152_k1=some r) ?_ (fun j1=>?_))
 ·intro _ h
  replace h:z152_k1=some r:=h
  unfold z152_k1 at h
  cases h
  exact wr J 4 func152 []
 refine wa J 1 (eLoop (σ:=Int) (fun st=>(zz4 t_ [(0,.B 0 0),(10,.S 3),(11,.I (t_.Machine.Timeouts.length:Int)),(12,.I st)])) (fun n st=>z152_l2 t_ n st) (r:=r) (fun _=>rfl) ?_ (fun ih=>?_))
 ·intro n2 ih6
  intro c h
  replace h:z152_l2 t_ (n2+1) c=some r:=h
  unfold z152_l2 at h
  obtain ⟨K,h⟩|⟨K,h⟩:=oc' h
  ·exact wH J 5 K (wa J 2 (eSub [] (j1 () h)))
  refine wH J 5 K ?_
  obtain ⟨d,e,h⟩:=ob h
  refine wa J 7 (eIx J oO11 e ?_)
  refine wa J 11 (eCut (σ:=Bool) (fun st=>⟨[(0,.B 0 0),(4,.B 6 0),(10,.S 3),(11,.I (t_.Machine.Timeouts.length:Int)),(12,.I c),(59,.O st)],[(0,.box (cC15 1 2 3 4 t_) 218),(6,.box (cC11 d) 235)],(vV15 1 2 3 4 t_ []),7⟩) (fun st=>z152_k3 t_ c (z152_l2 t_ n2) d st=some r) ?_ (fun j9=>?_))
  ·intro f h
   replace h:z152_k3 t_ c (z152_l2 t_ n2) d f=some r:=h
   unfold z152_k3 at h
   obtain ⟨K,h⟩|⟨K,h⟩:=oc h
   ·refine eK K ?_
    cases h
    exact wr J 5 func152 []
   refine eK K ?_
   obtain ⟨g,i,h⟩:=ob h
   refine wa J 11 (eIx J oO9 i (wa J 3 (eEnd ?_)))
   obtain ⟨K,h⟩|⟨K,h⟩:=oc h
   ·refine wH J 8 K ?_
    cases h
    exact wr J 14 func152 []
   refine wH J 8 K ?_
   obtain ⟨K,h⟩|⟨K,h⟩:=oc h
   ·refine wH J 5 K ?_
    cases h
    exact wr J 9 func152 []
   refine wH J 5 K ?_
   obtain ⟨K,h⟩|⟨K,h⟩:=oc h
   ·refine wH J 4 K ?_
    cases h
    exact wr J 5 func152 []
   exact wH J 4 K (wa J 7 (eSub [] (ih6 (w64 (c+1)) h)))
  obtain ⟨K,h⟩|⟨K,h⟩:=oc' h
  ·refine eK K ?_
   obtain ⟨K,h⟩|⟨K,h⟩:=oc h
   ·exact wH J 20 K (wa J 20 (eEnd (eSub [] (j9 true h))))
   refine wH J 20 K ?_
   obtain ⟨K,h⟩|⟨K,h⟩:=oc h
   ·exact wH J 5 K (wa J 15 (eEnd (eSub [] (j9 true h))))
   refine wH J 5 K ?_
   obtain ⟨K,h⟩|⟨K,h⟩:=oc h
   ·exact wH J 5 K (wa J 10 (eEnd (eSub [] (j9 true h))))
   exact wH J 5 K (wa J 10 (eEnd (eSub [] (j9 (decide (d.Else≥(t_.Machine.Moves.length:Int))) h))))
  refine eK K ?_
  obtain ⟨j,k,h⟩:=ob h
  refine wa J 7 (eIx J oO11 k ?_)
  obtain ⟨K,h⟩|⟨K,h⟩:=oc h
  ·exact wH J 7 K (wa J 25 (eEnd (eSub [] (j9 true h))))
  refine wH J 7 K ?_
  obtain ⟨K,h⟩|⟨K,h⟩:=oc h
  ·exact wH J 5 K (wa J 20 (eEnd (eSub [] (j9 true h))))
  refine wH J 5 K ?_
  obtain ⟨K,h⟩|⟨K,h⟩:=oc h
  ·exact wH J 5 K (wa J 15 (eEnd (eSub [] (j9 true h))))
  refine wH J 5 K ?_
  obtain ⟨K,h⟩|⟨K,h⟩:=oc h
  ·exact wH J 5 K (wa J 10 (eEnd (eSub [] (j9 true h))))
  exact wH J 5 K (wa J 10 (eEnd (eSub [] (j9 (decide (d.Else≥(t_.Machine.Moves.length:Int))) h))))
 exact eSub [] (ih N 0 h)
theorem z77_ct (N:Nat) (m_:T8) (r:(Option T15) × Bool) (h:z77 N m_=some r) :
 Fn Tryz.prog 77 ⟨3,[.a (cC8 0 1 2 m_)],(vV8 0 1 2 m_ []),[],8,(optC r.1 (.t [.inl (.v (.pointer none)),.inl (.b r.2)]) fun q=>.t [.inl (.bp 3 0),.inl (.b r.2)]),(optC r.1 [] fun q=>(vV15 4 5 6 7 q [])),(optC r.1 [] fun q=>[(3,.box (cC15 4 5 6 7 q) 218)])⟩:=by
 refine eFn func77 rfl (fun E F w=>?_)
 unfold z77 at h
 obtain ⟨x1,c,h⟩:=ob h
 refine wa J 10 (eCl (z147_ct N m_ _ c) [] [(0,.sl 0),(1,.sl 1),(2,.sl 2)] ?_)
 obtain ⟨K,h⟩|⟨K,h⟩:=oc h
 ·refine wH J 2 K ?_
  cases h
  exact wr J 6 func77 []
 refine wH J 2 K ?_
 obtain ⟨x2,d,h⟩:=ob h
 refine wa J 5 (eCl (z148_ct N m_ _ d) [] [(0,.sl 0),(1,.sl 1),(2,.sl 2)] ?_)
 obtain ⟨x3,e,h⟩:=ob h
 refine wa J 6 (eCl (z149_ct N x2 _ e) [] [(0,.bp 4 0),(1,.sl 5),(2,.sl 6),(3,.sl 7),(4,.sl 8)] ?_)
 obtain ⟨K,h⟩|⟨K,h⟩:=oc' h
 ·refine wH J 1 K ?_
  cases h
  exact wr J 14 func77 [(3,.bp 4 0),(4,.sl 5),(5,.sl 6),(6,.sl 7),(7,.sl 8)]
 refine wH J 1 K ?_
 obtain ⟨x4,f,h⟩:=ob h
 refine wa J 1 (eCl (z150_ct N x2 _ f) [] [(0,.bp 4 0),(1,.sl 5),(2,.sl 6),(3,.sl 7),(4,.sl 8)] ?_)
 obtain ⟨K,h⟩|⟨K,h⟩:=oc' h
 ·refine wH J 2 K ?_
  cases h
  exact wr J 10 func77 [(3,.bp 4 0),(4,.sl 5),(5,.sl 6),(6,.sl 7),(7,.sl 8)]
 refine wH J 2 K ?_
 obtain ⟨x5,g,h⟩:=ob h
 refine wa J 1 (eCl (z151_ct N x2 _ g) [] [(0,.bp 4 0),(1,.sl 5),(2,.sl 6),(3,.sl 7),(4,.sl 8)] ?_)
 obtain ⟨K,h⟩|⟨K,h⟩:=oc' h
 ·refine wH J 2 K ?_
  cases h
  exact wr J 6 func77 [(3,.bp 4 0),(4,.sl 5),(5,.sl 6),(6,.sl 7),(7,.sl 8)]
 refine wH J 2 K ?_
 obtain ⟨x6,i,h⟩:=ob h
 refine wa J 1 (eCl (z152_ct N x2 _ i) [] [(0,.bp 4 0),(1,.sl 5),(2,.sl 6),(3,.sl 7),(4,.sl 8)] ?_)
 cases h
 exact wr J 4 func77 [(3,.bp 4 0),(4,.sl 5),(5,.sl 6),(6,.sl 7),(7,.sl 8)]
theorem machine_open_ctn (N:Nat) (m_:T8) (r:(Option T15) × Bool) (h:z77 N m_=some r) (ho:r.1=none):Fn Tryz.prog 77 ⟨3,[.a (cC8 0 1 2 m_)],(vV8 0 1 2 m_ []),[],8,.t [.inl (.v (.pointer none)),.inl (.b r.2)],[],[]⟩:=by
 have hf:=z77_ct N m_ r h
 rw [ho] at hf
 exact hf
theorem machine_open_cts (N:Nat) (m_:T8) (r:(Option T15) × Bool) (h:z77 N m_=some r) (q:T15) (ho:r.1=some q):Fn Tryz.prog 77 ⟨3,[.a (cC8 0 1 2 m_)],(vV8 0 1 2 m_ []),[],8,.t [.inl (.bp 3 0),.inl (.b r.2)],(vV15 4 5 6 7 q []),[(3,.box (cC15 4 5 6 7 q) 218)]⟩:=by
 have hf:=z77_ct N m_ r h
 rw [ho] at hf
 exact hf
theorem z142_ct (N:Nat) (m_:T8) (r:Bool) (h:z142 N m_=some r) :
 Fn Tryz.prog 142 ⟨3,[.a (cC8 0 1 2 m_)],(vV8 0 1 2 m_ []),[],3,.O r,[],[]⟩:=by
 refine eFn func142 rfl (fun E F w=>?_)
 unfold z142 at h
 obtain ⟨x1,c,h⟩:=ob h
 rcases oO h with ⟨ox1,h⟩ | ⟨q2,ox1,h⟩
 ·refine wa J 8 (eCl (machine_open_ctn N m_ _ c ox1) [] [(0,.sl 0),(1,.sl 1),(2,.sl 2)] ?_)
  cases h
  exact wr J 11 func142 []
 refine wa J 8 (eCl (machine_open_cts N m_ _ c q2 ox1) [] [(0,.sl 0),(1,.sl 1),(2,.sl 2)] ?_)
 cases h
 exact wr J 11 func142 []
theorem z140_9_ct (N:Nat) (x_:T9) (c0_:T5) (r:Bool) (h:z140_9 N x_ c0_=some r) :
 Fn Tryz.prog 140 ⟨5,[.a (cC9 x_),.B 0 0],(vV5 1 2 3 4 c0_ []),[(0,.box (cC5 1 2 3 4 c0_) 27)],5,.O r,[],[(0,.box (cC5 1 2 3 4 c0_) 27)]⟩:=by
 refine eFn func140 rfl (fun E F w=>?_)
 unfold z140_9 at h
 obtain ⟨K,h⟩|⟨K,h⟩:=oc h
 ·refine wH J 14 K ?_
  cases h
  exact wr J 9 func140 []
 refine wH J 14 K ?_
 cases h
 exact wr J 9 func140 []
theorem z111_10_ct (N:Nat) (s_:(List T9)) (c0_:T5) (r:Int) (h:z111_10 N s_ c0_=some r) :
 Fn Tryz.prog 111 ⟨6,[.S 0,.c (.cl 140 [] [1])],((0,.sl rR9 s_)::vV5 2 3 4 5 c0_ []),[(1,.box (cC5 2 3 4 5 c0_) 27)],6,.I r,[],[(1,.box (cC5 2 3 4 5 c0_) 27)]⟩:=by
 refine eFn func111 rfl (fun E F w=>?_)
 unfold z111_10 at h
 refine wa J 11 (eCut (σ:=Unit) (fun st=>⟨[],[(1,.box (cC5 2 3 4 5 c0_) 27)],((0,.sl rR9 s_)::vV5 2 3 4 5 c0_ []),6⟩) (fun st=>z111_10_k1=some r) ?_ (fun j1=>?_))
 ·intro _ h
  replace h:z111_10_k1=some r:=h
  unfold z111_10_k1 at h
  cases h
  exact wr J 4 func111 []
 refine wa J 1 (eLoop (σ:=Int) (fun st=>⟨[(0,.S 0),(1,.c (.cl 140 [] [1])),(7,.I (s_.length:Int)),(8,.I st)],[(1,.box (cC5 2 3 4 5 c0_) 27)],((0,.sl rR9 s_)::vV5 2 3 4 5 c0_ []),6⟩) (fun n st=>z111_10_l2 N s_ c0_ n st) (r:=r) (fun _=>rfl) ?_ (fun ih=>?_))
 ·intro n2 ih3
  intro d h
  replace h:z111_10_l2 N s_ c0_ (n2+1) d=some r:=h
  unfold z111_10_l2 at h
  obtain ⟨K,h⟩|⟨K,h⟩:=oc' h
  ·exact wH J 5 K (wa J 2 (eSub [] (j1 () h)))
  refine wH J 5 K ?_
  obtain ⟨e,f,h⟩:=ob h
  refine wa J 14 (eIx J oO9 f ?_)
  obtain ⟨g,i,h⟩:=ob h
  refine wa J 1 (eCl (z140_9_ct N e c0_ _ i) [] [(0,.bp 1 0),(1,.sl 2),(2,.sl 3),(3,.sl 4),(4,.sl 5)] ?_)
  obtain ⟨K,h⟩|⟨K,h⟩:=oc h
  ·refine wH J 1 K ?_
   cases h
   exact wr J 6 func111 []
  exact wH J 1 K (wa J 7 (eSub [] (ih3 (w64 (d+1)) h)))
 exact eSub [] (ih N 0 h)
theorem z143_11_ct (N:Nat) (s_:(List T9)) (c0_:T5) (r:Bool) (h:z143_11 N s_ c0_=some r) :
 Fn Tryz.prog 143 ⟨6,[.S 0,.c (.cl 140 [] [1])],((0,.sl rR9 s_)::vV5 2 3 4 5 c0_ []),[(1,.box (cC5 2 3 4 5 c0_) 27)],6,.O r,[],[(1,.box (cC5 2 3 4 5 c0_) 27)]⟩:=by
 refine eFn func143 rfl (fun E F w=>?_)
 unfold z143_11 at h
 obtain ⟨x1,d,h⟩:=ob h
 refine wa J 8 (eCl (z111_10_ct N s_ c0_ _ d) [] [(0,.sl 0),(1,.bp 1 0),(2,.sl 2),(3,.sl 3),(4,.sl 4),(5,.sl 5)] ?_)
 cases h
 exact wr J 3 func143 []
theorem z72_ct (N:Nat) (g_:T5) (m_:T8) (r:Bool) (h:z72 N g_ m_=some r) :
 Fn Tryz.prog 72 ⟨7,[.a (cC5 0 1 2 3 g_),.a (cC8 4 5 6 m_)],((0,.sl rS g_.Roles)::(1,.sl rR0 g_.Decls)::(2,.sl rR2 g_.Edges)::(3,.sl rR11 g_.Timeouts)::vV8 4 5 6 m_ []),[],7,.O r,[],[]⟩:=by
 refine eFn func72 rfl (fun E F w=>?_)
 unfold z72 at h
 obtain ⟨x1,c,h⟩:=ob h
 refine wa J 14 (eCl (z141_ct N g_ _ c) [] [(0,.sl 0),(1,.sl 1),(2,.sl 2),(3,.sl 3)] ?_)
 obtain ⟨K,h⟩|⟨K,h⟩:=oc' h
 ·refine wH J 1 K ?_
  cases h
  exact wr J 20 func72 []
 refine wH J 1 K ?_
 obtain ⟨x2,d,h⟩:=ob h
 refine wa J 1 (eCl (z142_ct N m_ _ d) [] [(0,.sl 4),(1,.sl 5),(2,.sl 6)] ?_)
 obtain ⟨K,h⟩|⟨K,h⟩:=oc' h
 ·refine wH J 2 K ?_
  cases h
  exact wr J 16 func72 []
 refine wH J 2 K ?_
 obtain ⟨K,h⟩|⟨K,h⟩:=oc' h
 ·refine wH J 8 K ?_
  cases h
  exact wr J 8 func72 []
 refine wH J 8 K ?_
 obtain ⟨x3,e,h⟩:=ob h
 refine wa J 3 (eCl (z143_11_ct N m_.Moves g_ _ e) [] [(0,.sl 5),(1,.bp 7 0),(2,.sl 0),(3,.sl 1),(4,.sl 2),(5,.sl 3)] ?_)
 cases h
 exact wr J 4 func72 []
theorem z74_ct (N:Nat) (g_:T5) (r:(List T4)) (h:z74 N g_=some r) :
 Fn Tryz.prog 74 ⟨4,[.a (cC5 0 1 2 3 g_)],(vV5 0 1 2 3 g_ []),[],5,.S 4,[],[(4,.own rR4 r true)]⟩:=by
 refine eFn func74 rfl (fun E F w=>?_)
 unfold z74 at h
 refine wa J 17 (eCut (σ:=(List T4)) (fun st=>⟨[(3,.S 5)],[(5,.own rR4 st true)],(vV5 0 1 2 3 g_ []),6⟩) (fun st=>z74_k1 st=some r) ?_ (fun j1=>?_))
 ·intro c h
  replace h:z74_k1 c=some r:=h
  unfold z74_k1 at h
  cases h
  exact wr J 5 func74 [(4,.sl 5)]
 refine wa J 1 (eLoop (σ:=(List T4) × Int) (fun st=>⟨[(3,.S 5),(7,.S 1),(8,.I (g_.Decls.length:Int)),(9,.I st.2)],[(5,.own rR4 st.1 true)],(vV5 0 1 2 3 g_ []),6⟩) (fun n st=>z74_l2 g_ n st.1 st.2) (r:=r) (fun _=>rfl) ?_ (fun ih=>?_))
 ·intro n2 ih3
  rintro ⟨d,e⟩ h
  replace h:z74_l2 g_ (n2+1) d e=some r:=h
  unfold z74_l2 at h
  obtain ⟨K,h⟩|⟨K,h⟩:=oc' h
  ·exact wH J 5 K (wa J 2 (eSub [] (j1 d h)))
  refine wH J 5 K ?_
  obtain ⟨f,g,h⟩:=ob h
  refine wa J 6 (eIx J oO0 g ?_)
  obtain ⟨i,j,h⟩:=ob h
  exact wa J 8 (eAp J rR4 j (wa J 7 (eSub [(5,.sl 11)] (ih3 (i,(w64 (e+1))) h))))
 exact eSub [(5,.nil)] (ih N (([]:List T4),0) h)
theorem z30_ct (N:Nat) (g_:T5) (m_:T8) (r:T16) (h:z30 N g_ m_=some r) :
 Fn Tryz.prog 30 ⟨7,[.a (cC5 0 1 2 3 g_),.a (cC8 4 5 6 m_)],((0,.sl rS g_.Roles)::(1,.sl rR0 g_.Decls)::(2,.sl rR2 g_.Edges)::(3,.sl rR11 g_.Timeouts)::vV8 4 5 6 m_ []),[],9,.a (cC16 7 8 r),(vV16 7 8 r []),[]⟩:=by
 refine eFn func30 rfl (fun E F w=>?_)
 unfold z30 at h
 obtain ⟨x1,c,h⟩:=ob h
 refine wa J 11 (eCl (z72_ct N g_ m_ _ c) [] [(0,.sl 0),(1,.sl 1),(2,.sl 2),(3,.sl 3),(4,.sl 4),(5,.sl 5),(6,.sl 6)] ?_)
 obtain ⟨K,h⟩|⟨K,h⟩:=oc h
 ·refine wH J 2 K ?_
  cases h
  exact wr J 6 func30 [(7,.nil),(8,.nil)]
 refine wH J 2 K ?_
 obtain ⟨x2,d,h⟩:=ob h
 refine wa J 7 (eCl (z74_ct N g_ _ d) [] [(0,.sl 0),(1,.sl 1),(2,.sl 2),(3,.sl 3)] ?_)
 obtain ⟨x3,e,h⟩:=ob h
 refine wa J 1 (eMk J oO12 e (wa J 2 (eEnd (eFr [11] ?_))))
 cases h
 exact eRet J func30 [(7,.sl 11),(8,.nil)]
theorem z137_ct (N:Nat) (v_:T12) (r:Int) (h:z137 N v_=some r) :
 Fn Tryz.prog 137 ⟨0,[.a (cC12 v_)],[],[],0,.I r,[],[]⟩:=by
 refine eFn func137 rfl (fun E F w=>?_)
 unfold z137 at h
 obtain ⟨K,h⟩|⟨K,h⟩:=oc h
 ·refine wH J 17 K ?_
  cases h
  exact wr J 7 func137 []
 refine wH J 17 K ?_
 obtain ⟨K,h⟩|⟨K,h⟩:=oc h
 ·refine wH J 6 K ?_
  cases h
  exact wr J 8 func137 []
 refine wH J 6 K ?_
 cases h
 exact wr J 7 func137 []
theorem z138_ct (N:Nat) (s_:T10) (r:Bool) (h:z138 N s_=some r) :
 Fn Tryz.prog 138 ⟨0,[.a (cC10 s_)],[],[],0,.O r,[],[]⟩:=by
 refine eFn func138 rfl (fun E F w=>?_)
 unfold z138 at h
 refine wa J 22 (eCut (σ:=Int × Int) (fun st=>⟨[(1,.B 0 0),(3,.I st.1),(4,.I st.2)],[(0,.box (cC10 s_) 113)],[],1⟩) (fun st=>z138_k1 s_ st.1 st.2=some r) ?_ (fun j1=>?_))
 ·rintro ⟨c,d⟩ h
  replace h:z138_k1 s_ c d=some r:=h
  unfold z138_k1 at h
  obtain ⟨K,h⟩|⟨K,h⟩:=oc' h
  ·refine wH J 8 K ?_
   cases h
   exact wr J 14 func138 []
  refine wH J 8 K ?_
  obtain ⟨K,h⟩|⟨K,h⟩:=oc h
  ·refine wH J 7 K ?_
   cases h
   exact wr J 7 func138 []
  refine wH J 7 K ?_
  cases h
  exact wr J 7 func138 []
 obtain ⟨K,h⟩|⟨K,h⟩:=oc h
 ·exact eK K (wa J 5 (eSub [] (j1 ((-1000),1000) h)))
 refine eK K ?_
 obtain ⟨K,h⟩|⟨K,h⟩:=oc h
 ·exact wH J 6 K (wa J 5 (eSub [] (j1 (0,40) h)))
 refine wH J 6 K ?_
 cases h
 exact wr J 5 func138 []
theorem z256_ct (N:Nat) (c_:Int) (r:Bool) (h:z256 N c_=some r) :
 Fn Tryz.prog 256 ⟨0,[.c (.i .i32 c_)],[],[],0,.O r,[],[]⟩:=by
 refine eFn func256 rfl (fun E F w=>?_)
 unfold z256 at h
 obtain ⟨K,h⟩|⟨K,h⟩:=oc h
 ·refine wH J 9 K ?_
  cases h
  exact wr J 5 func256 []
 refine wH J 9 K ?_
 cases h
 exact wr J 5 func256 []
theorem z294_12_ct (N:Nat) (s_:ByteArray) (truth_:Bool) (r:Int) (h:z294_12 N s_ truth_=some r) :
 Fn Tryz.prog 294 ⟨0,[.c (.s s_),.c (.cl 256 [] []),.O truth_],[],[],0,.I r,[],[]⟩:=by
 refine eFn func294 rfl (fun E F w=>?_)
 unfold z294_12 at h
 refine wa J 8 (eRn J (fun bk1=>wa J 1 (eCut (σ:=Nat) (fun st=>(zz3 (itR bk1 s_ st) [])) (fun st=>z294_12_k1 st=some r) ?_ (fun j1=>?_))))
 ·intro vi0_1 h
  replace h:z294_12_k1 vi0_1=some r:=h
  unfold z294_12_k1 at h
  cases h
  exact wr J 4 func294 []
 refine wa J 1 (eLoop (σ:=Nat) (fun st=>(zz3 (itR bk1 s_ st) [(1,.c (.cl 256 [] [])),(2,.O truth_),(10,.c (.v (.pointer (some ⟨bk1,0,none⟩))))])) (fun n st=>z294_12_l2 N s_ truth_ n st) (r:=r) (fun _=>rfl) ?_ (fun ih=>?_))
 ·intro n2 ih3
  intro vi0_3 h
  replace h:z294_12_l2 N s_ truth_ (n2+1) vi0_3=some r:=h
  unfold z294_12_l2 at h
  obtain ⟨K,h⟩|⟨K,h⟩:=oc' h
  ·exact wa J 2 (eNf bk1 0 K (wa J 5 (eSub [] (j1 vi0_3 h))))
  refine wa J 2 (eNt bk1 0 K ?_)
  obtain ⟨d,e,h⟩:=ob h
  refine wa J 17 (eCl (z256_ct N ((Utf8.decode s_ vi0_3).1:Int) _ e) [] [] ?_)
  obtain ⟨K,h⟩|⟨K,h⟩:=oc h
  ·refine wH J 3 K ?_
   cases h
   exact wr J 6 func294 []
  exact wH J 3 K (wa J 3 (eSub [] (ih3 (vi0_3+(Utf8.decode s_ vi0_3).2) h)))
 exact eSub [] (ih N (0:Nat) h)
theorem z270_13_ct (N:Nat) (s_:ByteArray) (r:Int) (h:z270_13 N s_=some r) :
 Fn Tryz.prog 270 ⟨0,[.c (.s s_),.c (.cl 256 [] [])],[],[],0,.I r,[],[]⟩:=by
 refine eFn func270 rfl (fun E F w=>?_)
 unfold z270_13 at h
 obtain ⟨x1,d,h⟩:=ob h
 refine wa J 8 (eCl (z294_12_ct N s_ true _ d) [] [] ?_)
 cases h
 exact wr J 2 func270 []
theorem z225_14_ct (N:Nat) (s_:ByteArray) (r:Bool) (h:z225_14 N s_=some r) :
 Fn Tryz.prog 225 ⟨0,[.c (.s s_),.c (.cl 256 [] [])],[],[],0,.O r,[],[]⟩:=by
 refine eFn func225 rfl (fun E F w=>?_)
 unfold z225_14 at h
 obtain ⟨x1,d,h⟩:=ob h
 refine wa J 8 (eCl (z270_13_ct N s_ _ d) [] [] ?_)
 cases h
 exact wr J 3 func225 []
theorem z203_ct (N:Nat) (s_:ByteArray) (r:Bool) (h:z203 N s_=some r) :
 Fn Tryz.prog 203 ⟨0,[.c (.s s_)],[],[],0,.O r,[],[]⟩:=by
 refine eFn func203 rfl (fun E F w=>?_)
 unfold z203 at h
 obtain ⟨x1,d,h⟩:=ob h
 refine wa J 7 (eCl (z225_14_ct N s_ _ d) [] [] ?_)
 cases h
 exact wr J 3 func203 []
theorem z139_ct (N:Nat) (v_:T12) (r:Bool) (h:z139 N v_=some r) :
 Fn Tryz.prog 139 ⟨0,[.a (cC12 v_)],[],[],0,.O r,[],[]⟩:=by
 refine eFn func139 rfl (fun E F w=>?_)
 unfold z139 at h
 obtain ⟨K,h⟩|⟨K,h⟩:=oc h
 ·refine wH J 17 K ?_
  obtain ⟨K,h⟩|⟨K,h⟩:=oc' h
  ·refine wH J 7 K ?_
   cases h
   exact wr J 11 func139 []
  refine wH J 7 K ?_
  obtain ⟨K,h⟩|⟨K,h⟩:=oc h
  ·refine wH J 5 K ?_
   cases h
   exact wr J 6 func139 []
  refine wH J 5 K ?_
  cases h
  exact wr J 6 func139 []
 refine wH J 17 K ?_
 obtain ⟨K,h⟩|⟨K,h⟩:=oc' h
 ·refine wH J 6 K ?_
  cases h
  exact wr J 7 func139 []
 refine wH J 6 K ?_
 obtain ⟨K,h⟩|⟨K,h⟩:=oc' h
 ·refine wH J 7 K ?_
  cases h
  exact wr J 12 func139 []
 refine wH J 7 K ?_
 obtain ⟨K,h⟩|⟨K,h⟩:=oc' h
 ·refine wH J 6 K ?_
  cases h
  exact wr J 6 func139 []
 refine wH J 6 K ?_
 obtain ⟨x1,c,h⟩:=ob h
 refine wa J 2 (eCl (z203_ct N v_.S _ c) [] [] ?_)
 cases h
 exact wr J 3 func139 []
theorem z71_ct (N:Nat) (s_:T10) (v_:T12) (r:Bool) (h:z71 N s_ v_=some r) :
 Fn Tryz.prog 71 ⟨0,[.a (cC10 s_),.a (cC12 v_)],[],[],0,.O r,[],[]⟩:=by
 refine eFn func71 rfl (fun E F w=>?_)
 unfold z71 at h
 obtain ⟨x1,c,h⟩:=ob h
 refine wa J 9 (eCl (z137_ct N v_ _ c) [] [] ?_)
 obtain ⟨x2,d,h⟩:=ob h
 refine wa J 5 (eCl (z138_ct N s_ _ d) [] [] ?_)
 obtain ⟨K,h⟩|⟨K,h⟩:=oc' h
 ·refine wH J 1 K ?_
  cases h
  exact wr J 24 func71 []
 refine wH J 1 K ?_
 obtain ⟨x3,e,h⟩:=ob h
 refine wa J 1 (eCl (z139_ct N v_ _ e) [] [] ?_)
 obtain ⟨K,h⟩|⟨K,h⟩:=oc' h
 ·refine wH J 2 K ?_
  cases h
  exact wr J 20 func71 []
 refine wH J 2 K ?_
 obtain ⟨K,h⟩|⟨K,h⟩:=oc' h
 ·refine wH J 7 K ?_
  cases h
  exact wr J 13 func71 []
 refine wH J 7 K ?_
 obtain ⟨K,h⟩|⟨K,h⟩:=oc h
 ·refine wH J 6 K ?_
  cases h
  exact wr J 7 func71 []
 refine wH J 6 K ?_
 cases h
 exact wr J 7 func71 []
theorem z70_ct (N:Nat) (f_:T4) (v_:T12) (r:Bool) (h:z70 N f_ v_=some r) :
 Fn Tryz.prog 70 ⟨0,[.a (cC4 f_),.a (cC12 v_)],[],[],0,.O r,[],[]⟩:=by
 refine eFn func70 rfl (fun E F w=>?_)
 unfold z70 at h
 refine wa J 10 (eEq ?_)
 obtain ⟨K,h⟩|⟨K,h⟩:=oc h
 ·refine wH J 1 K ?_
  cases h
  exact wr J 7 func70 []
 refine wH J 1 K ?_
 obtain ⟨x1,c,h⟩:=ob h
 refine wa J 3 (eCl (z71_ct N f_.Sort' v_ _ c) [] [] ?_)
 cases h
 exact wr J 3 func70 []
theorem z73_15_ct (N:Nat) (s1_:(List T4)) (s2_:(List T12)) (r:Bool) (h:z73_15 N s1_ s2_=some r) :
 Fn Tryz.prog 73 ⟨2,[.S 0,.S 1,.c (.cl 70 [] [])],[(0,.sl rR4 s1_),(1,.sl rR12 s2_)],[],2,.O r,[],[]⟩:=by
 refine eFn func73 rfl (fun E F w=>?_)
 unfold z73_15 at h
 obtain ⟨K,h⟩|⟨K,h⟩:=oc h
 ·refine wH J 13 K ?_
  cases h
  exact wr J 5 func73 []
 refine wH J 13 K (wa J 9 (eCut (σ:=Unit) (fun st=>(zz5 s1_ s2_ [])) (fun st=>z73_15_k1=some r) ?_ (fun j1=>?_)))
 ·intro _ h
  replace h:z73_15_k1=some r:=h
  unfold z73_15_k1 at h
  cases h
  exact wr J 4 func73 []
 refine wa J 1 (eLoop (σ:=Int) (fun st=>(zz5 s1_ s2_ [(1,.S 1),(2,.c (.cl 70 [] [])),(15,.S 0),(16,.I (s1_.length:Int)),(17,.I st)])) (fun n st=>z73_15_l2 N s1_ s2_ n st) (r:=r) (fun _=>rfl) ?_ (fun ih=>?_))
 ·intro n2 ih3
  intro d h
  replace h:z73_15_l2 N s1_ s2_ (n2+1) d=some r:=h
  unfold z73_15_l2 at h
  obtain ⟨K,h⟩|⟨K,h⟩:=oc' h
  ·exact wH J 5 K (wa J 2 (eSub [] (j1 () h)))
  refine wH J 5 K ?_
  obtain ⟨e,f,h⟩:=ob h
  refine wa J 7 (eIx J oO4 f ?_)
  obtain ⟨g,i,h⟩:=ob h
  refine wa J 9 (eIx J oO12 i ?_)
  obtain ⟨j,k,h⟩:=ob h
  refine wa J 9 (eCl (z70_ct N e g _ k) [] [] ?_)
  obtain ⟨K,h⟩|⟨K,h⟩:=oc h
  ·refine wH J 2 K ?_
   cases h
   exact wr J 5 func73 []
  exact wH J 2 K (wa J 7 (eSub [] (ih3 (w64 (d+1)) h)))
 exact eSub [] (ih N 0 h)
theorem z27_ct (N:Nat) (g_:T5) (m_:T8) (s_:T16) (r:Bool) (h:z27 N g_ m_ s_=some r) :
 Fn Tryz.prog 27 ⟨9,[.a (cC5 0 1 2 3 g_),.a (cC8 4 5 6 m_),.a (cC16 7 8 s_)],((0,.sl rS g_.Roles)::(1,.sl rR0 g_.Decls)::(2,.sl rR2 g_.Edges)::(3,.sl rR11 g_.Timeouts)::(4,.sl rB m_.Finals)::(5,.sl rR9 m_.Moves)::(6,.sl rR11 m_.Timeouts)::vV16 7 8 s_ []),[],9,.O r,[],[]⟩:=by
 refine eFn func27 rfl (fun E F w=>?_)
 unfold z27 at h
 obtain ⟨x1,c,h⟩:=ob h
 refine wa J 15 (eCl (z72_ct N g_ m_ _ c) [] [(0,.sl 0),(1,.sl 1),(2,.sl 2),(3,.sl 3),(4,.sl 4),(5,.sl 5),(6,.sl 6)] ?_)
 obtain ⟨K,h⟩|⟨K,h⟩:=oc' h
 ·refine wH J 1 K (wa J 20 (eEnd ?_))
  cases h
  exact eRet J func27 []
 refine wH J 1 K ?_
 obtain ⟨K,h⟩|⟨K,h⟩:=oc' h
 ·refine wH J 5 K (wa J 15 (eEnd ?_))
  cases h
  exact eRet J func27 []
 refine wH J 5 K ?_
 obtain ⟨K,h⟩|⟨K,h⟩:=oc' h
 ·refine wH J 7 K (wa J 8 (eEnd ?_))
  cases h
  exact eRet J func27 []
 refine wH J 7 K ?_
 obtain ⟨x2,d,h⟩:=ob h
 refine wa J 1 (eCl (z74_ct N g_ _ d) [] [(0,.sl 0),(1,.sl 1),(2,.sl 2),(3,.sl 3)] ?_)
 obtain ⟨x3,e,h⟩:=ob h
 refine wa J 3 (eCb (z73_15_ct N x2 s_.Known _ e) [] [(0,.sl 12),(1,.sl 7)] [12] (.inr ⟨rfl,trivial⟩) (wa J 2 (eEnd ?_)))
 cases h
 exact eRet J func27 []
theorem z112_16_ct (N:Nat) (y_:T9) (c0_:T16) (c1_:T3) (r:Bool) (h:z112_16 N y_ c0_ c1_=some r) :
 Fn Tryz.prog 112 ⟨5,[.a (cC9 y_),.B 0 0,.B 3 0],(vV16 1 2 c0_ [(4,.sl rR12 c1_.Values)]),[(0,.box (cC16 1 2 c0_) 37),(3,.box (cC3 4 c1_) 67)],5,.O r,[],[(0,.box (cC16 1 2 c0_) 37),(3,.box (cC3 4 c1_) 67)]⟩:=by
 refine eFn func112 rfl (fun E F w=>?_)
 unfold z112_16 at h
 obtain ⟨K,h⟩|⟨K,h⟩:=oc' h
 ·refine wH J 13 K ?_
  cases h
  exact wr J 22 func112 []
 refine wH J 13 K ?_
 obtain ⟨K,h⟩|⟨K,h⟩:=oc' h
 ·refine wH J 7 K ?_
  cases h
  exact wr J 15 func112 []
 refine wH J 7 K ?_
 obtain ⟨K,h⟩|⟨K,h⟩:=oc h
 ·refine wH J 7 K ?_
  cases h
  exact wr J 8 func112 []
 refine wH J 7 K ?_
 cases h
 exact wr J 8 func112 []
theorem z111_17_ct (N:Nat) (s_:(List T9)) (c0_:T16) (c1_:T3) (r:Int) (h:z111_17 N s_ c0_ c1_=some r) :
 Fn Tryz.prog 111 ⟨6,[.S 0,.c (.cl 112 [] [1,4])],((0,.sl rR9 s_)::vV16 2 3 c0_ [(5,.sl rR12 c1_.Values)]),[(1,.box (cC16 2 3 c0_) 37),(4,.box (cC3 5 c1_) 67)],6,.I r,[],[(1,.box (cC16 2 3 c0_) 37),(4,.box (cC3 5 c1_) 67)]⟩:=by
 refine eFn func111 rfl (fun E F w=>?_)
 unfold z111_17 at h
 refine wa J 11 (eCut (σ:=Unit) (fun st=>(zz19 c0_ c1_ s_ c1_.Values [])) (fun st=>z111_17_k1=some r) ?_ (fun j1=>?_))
 ·intro _ h
  replace h:z111_17_k1=some r:=h
  unfold z111_17_k1 at h
  cases h
  exact wr J 4 func111 []
 refine wa J 1 (eLoop (σ:=Int) (fun st=>(zz19 c0_ c1_ s_ c1_.Values [(0,.S 0),(1,.c (.cl 112 [] [1,4])),(7,.I (s_.length:Int)),(8,.I st)])) (fun n st=>z111_17_l2 N s_ c0_ c1_ n st) (r:=r) (fun _=>rfl) ?_ (fun ih=>?_))
 ·intro n2 ih3
  intro d h
  replace h:z111_17_l2 N s_ c0_ c1_ (n2+1) d=some r:=h
  unfold z111_17_l2 at h
  obtain ⟨K,h⟩|⟨K,h⟩:=oc' h
  ·exact wH J 5 K (wa J 2 (eSub [] (j1 () h)))
  refine wH J 5 K ?_
  obtain ⟨e,f,h⟩:=ob h
  refine wa J 14 (eIx J oO9 f ?_)
  obtain ⟨g,i,h⟩:=ob h
  refine wa J 1 (eCl (z112_16_ct N e c0_ c1_ _ i) [] [(0,.bp 1 0),(1,.sl 2),(2,.sl 3),(3,.bp 4 0),(4,.sl 5)] ?_)
  obtain ⟨K,h⟩|⟨K,h⟩:=oc h
  ·refine wH J 1 K ?_
   cases h
   exact wr J 6 func111 []
  exact wH J 1 K (wa J 7 (eSub [] (ih3 (w64 (d+1)) h)))
 exact eSub [] (ih N 0 h)
theorem z177_ct (N:Nat) (f_:T4) (x_:T12) (r:Bool) (h:z177 N f_ x_=some r) :
 Fn Tryz.prog 177 ⟨0,[.a (cC4 f_),.a (cC12 x_)],[],[],0,.O r,[],[]⟩:=by
 refine eFn func177 rfl (fun E F w=>?_)
 unfold z177 at h
 obtain ⟨x1,c,h⟩:=ob h
 refine wa J 11 (eCl (z71_ct N f_.Sort' x_ _ c) [] [] ?_)
 cases h
 exact wr J 2 func177 []
theorem z73_18_ct (N:Nat) (s1_:(List T4)) (s2_:(List T12)) (r:Bool) (h:z73_18 N s1_ s2_=some r) :
 Fn Tryz.prog 73 ⟨2,[.S 0,.S 1,.c (.cl 177 [] [])],[(0,.sl rR4 s1_),(1,.sl rR12 s2_)],[],2,.O r,[],[]⟩:=by
 refine eFn func73 rfl (fun E F w=>?_)
 unfold z73_18 at h
 obtain ⟨K,h⟩|⟨K,h⟩:=oc h
 ·refine wH J 13 K ?_
  cases h
  exact wr J 5 func73 []
 refine wH J 13 K (wa J 9 (eCut (σ:=Unit) (fun st=>(zz5 s1_ s2_ [])) (fun st=>z73_18_k1=some r) ?_ (fun j1=>?_)))
 ·intro _ h
  replace h:z73_18_k1=some r:=h
  unfold z73_18_k1 at h
  cases h
  exact wr J 4 func73 []
 refine wa J 1 (eLoop (σ:=Int) (fun st=>(zz5 s1_ s2_ [(1,.S 1),(2,.c (.cl 177 [] [])),(15,.S 0),(16,.I (s1_.length:Int)),(17,.I st)])) (fun n st=>z73_18_l2 N s1_ s2_ n st) (r:=r) (fun _=>rfl) ?_ (fun ih=>?_))
 ·intro n2 ih3
  intro d h
  replace h:z73_18_l2 N s1_ s2_ (n2+1) d=some r:=h
  unfold z73_18_l2 at h
  obtain ⟨K,h⟩|⟨K,h⟩:=oc' h
  ·exact wH J 5 K (wa J 2 (eSub [] (j1 () h)))
  refine wH J 5 K ?_
  obtain ⟨e,f,h⟩:=ob h
  refine wa J 7 (eIx J oO4 f ?_)
  obtain ⟨g,i,h⟩:=ob h
  refine wa J 9 (eIx J oO12 i ?_)
  obtain ⟨j,k,h⟩:=ob h
  refine wa J 9 (eCl (z177_ct N e g _ k) [] [] ?_)
  obtain ⟨K,h⟩|⟨K,h⟩:=oc h
  ·refine wH J 2 K ?_
   cases h
   exact wr J 5 func73 []
  exact wH J 2 K (wa J 7 (eSub [] (ih3 (w64 (d+1)) h)))
 exact eSub [] (ih N 0 h)
theorem z113_ct (N:Nat) (l_:(List T4)) (v_:(List T12)) (r:Bool) (h:z113 N l_ v_=some r) :
 Fn Tryz.prog 113 ⟨2,[.S 0,.S 1],[(0,.sl rR4 l_),(1,.sl rR12 v_)],[],2,.O r,[],[]⟩:=by
 refine eFn func113 rfl (fun E F w=>?_)
 unfold z113 at h
 obtain ⟨x1,c,h⟩:=ob h
 refine wa J 8 (eCl (z73_18_ct N l_ v_ _ c) [] [(0,.sl 0),(1,.sl 1)] ?_)
 cases h
 exact wr J 2 func113 []
theorem z160_ct (N:Nat) (v_:T12) (r:Int) (h:z160 N v_=some r) :
 Fn Tryz.prog 160 ⟨0,[.a (cC12 v_)],[],[],0,.I r,[],[]⟩:=by
 refine eFn func160 rfl (fun E F w=>?_)
 unfold z160 at h
 obtain ⟨K,h⟩|⟨K,h⟩:=oc h
 ·refine wH J 12 K ?_
  cases h
  exact wr J 8 func160 []
 refine wH J 12 K ?_
 cases h
 exact wr J 8 func160 []
theorem z226_ct (N:Nat) (r_:Int) (r:Bool) (h:z226 N r_=some r) :
 Fn Tryz.prog 226 ⟨0,[.c (.i .i32 r_)],[],[],0,.O r,[],[]⟩:=by
 refine eFn func226 rfl (fun E F w=>?_)
 unfold z226 at h
 obtain ⟨K,h⟩|⟨K,h⟩:=oc h
 ·refine wH J 9 K ?_
  cases h
  exact wr J 5 func226 []
 refine wH J 9 K ?_
 cases h
 exact wr J 5 func226 []
theorem z294_19_ct (N:Nat) (s_:ByteArray) (truth_:Bool) (r:Int) (h:z294_19 N s_ truth_=some r) :
 Fn Tryz.prog 294 ⟨0,[.c (.s s_),.c (.cl 226 [] []),.O truth_],[],[],0,.I r,[],[]⟩:=by
 refine eFn func294 rfl (fun E F w=>?_)
 unfold z294_19 at h
 refine wa J 8 (eRn J (fun bk1=>wa J 1 (eCut (σ:=Nat) (fun st=>(zz3 (itR bk1 s_ st) [])) (fun st=>z294_19_k1 st=some r) ?_ (fun j1=>?_))))
 ·intro vi0_1 h
  replace h:z294_19_k1 vi0_1=some r:=h
  unfold z294_19_k1 at h
  cases h
  exact wr J 4 func294 []
 refine wa J 1 (eLoop (σ:=Nat) (fun st=>(zz3 (itR bk1 s_ st) [(1,.c (.cl 226 [] [])),(2,.O truth_),(10,.c (.v (.pointer (some ⟨bk1,0,none⟩))))])) (fun n st=>z294_19_l2 N s_ truth_ n st) (r:=r) (fun _=>rfl) ?_ (fun ih=>?_))
 ·intro n2 ih3
  intro vi0_3 h
  replace h:z294_19_l2 N s_ truth_ (n2+1) vi0_3=some r:=h
  unfold z294_19_l2 at h
  obtain ⟨K,h⟩|⟨K,h⟩:=oc' h
  ·exact wa J 2 (eNf bk1 0 K (wa J 5 (eSub [] (j1 vi0_3 h))))
  refine wa J 2 (eNt bk1 0 K ?_)
  obtain ⟨d,e,h⟩:=ob h
  refine wa J 17 (eCl (z226_ct N ((Utf8.decode s_ vi0_3).1:Int) _ e) [] [] ?_)
  obtain ⟨K,h⟩|⟨K,h⟩:=oc h
  ·refine wH J 3 K ?_
   cases h
   exact wr J 6 func294 []
  exact wH J 3 K (wa J 3 (eSub [] (ih3 (vi0_3+(Utf8.decode s_ vi0_3).2) h)))
 exact eSub [] (ih N (0:Nat) h)
theorem z270_20_ct (N:Nat) (s_:ByteArray) (r:Int) (h:z270_20 N s_=some r) :
 Fn Tryz.prog 270 ⟨0,[.c (.s s_),.c (.cl 226 [] [])],[],[],0,.I r,[],[]⟩:=by
 refine eFn func270 rfl (fun E F w=>?_)
 unfold z270_20 at h
 obtain ⟨x1,d,h⟩:=ob h
 refine wa J 8 (eCl (z294_19_ct N s_ true _ d) [] [] ?_)
 cases h
 exact wr J 2 func270 []
theorem z225_21_ct (N:Nat) (s_:ByteArray) (r:Bool) (h:z225_21 N s_=some r) :
 Fn Tryz.prog 225 ⟨0,[.c (.s s_),.c (.cl 226 [] [])],[],[],0,.O r,[],[]⟩:=by
 refine eFn func225 rfl (fun E F w=>?_)
 unfold z225_21 at h
 obtain ⟨x1,d,h⟩:=ob h
 refine wa J 8 (eCl (z270_20_ct N s_ _ d) [] [] ?_)
 cases h
 exact wr J 3 func225 []
theorem z159_ct (N:Nat) (s_:T10) (v_:T12) (r:Bool) (h:z159 N s_ v_=some r) :
 Fn Tryz.prog 159 ⟨0,[.a (cC10 s_),.a (cC12 v_)],[],[],0,.O r,[],[]⟩:=by
 refine eFn func159 rfl (fun E F w=>?_)
 unfold z159 at h
 obtain ⟨K,h⟩|⟨K,h⟩:=oc h
 ·refine wH J 15 K (wa J 13 (eEnd ?_))
  cases h
  exact wr J 5 func159 []
 refine wH J 15 K ?_
 obtain ⟨x1,c,h⟩:=ob h
 refine wa J 1 (eCl (z160_ct N v_ _ c) [] [] ?_)
 obtain ⟨K,h⟩|⟨K,h⟩:=oc h
 ·refine wH J 5 K (wa J 6 (eEnd ?_))
  cases h
  exact wr J 5 func159 []
 refine wH J 5 K ?_
 obtain ⟨x2,d,h⟩:=ob h
 refine wa J 1 (eCl (z160_ct N v_ _ d) [] [] (wa J 4 (eEnd ?_)))
 obtain ⟨K,h⟩|⟨K,h⟩:=oc h
 ·refine eK K ?_
  cases h
  exact wr J 5 func159 []
 refine eK K ?_
 obtain ⟨K,h⟩|⟨K,h⟩:=oc h
 ·refine wH J 9 K ?_
  cases h
  exact wr J 8 func159 []
 refine wH J 9 K ?_
 obtain ⟨K,h⟩|⟨K,h⟩:=oc' h
 ·refine wH J 8 K ?_
  cases h
  exact wr J 7 func159 []
 refine wH J 8 K ?_
 obtain ⟨x3,e,h⟩:=ob h
 refine wa J 2 (eCl (z225_21_ct N v_.S _ e) [] [] ?_)
 cases h
 exact wr J 4 func159 []
theorem z79_ct (N:Nat) (l_:(List T0)) (label_:Int) (known_:(List T12)) (r:Bool) (h:z79 N l_ label_ known_=some r) :
 Fn Tryz.prog 79 ⟨2,[.S 0,.I label_,.S 1],[(0,.sl rR0 l_),(1,.sl rR12 known_)],[],2,.O r,[],[]⟩:=by
 refine eFn func79 rfl (fun E F w=>?_)
 unfold z79 at h
 obtain ⟨K,h⟩|⟨K,h⟩:=oc h
 ·refine wH J 10 K ?_
  cases h
  exact wr J 16 func79 []
 refine wH J 10 K ?_
 obtain ⟨K,h⟩|⟨K,h⟩:=oc h
 ·refine wH J 6 K ?_
  cases h
  exact wr J 10 func79 []
 refine wH J 6 K ?_
 obtain ⟨x1,c,h⟩:=ob h
 refine wa J 1 (eCl (z157_ct N l_ _ c) [] [(0,.sl 0)] ?_)
 obtain ⟨K,h⟩|⟨K,h⟩:=oc h
 ·refine wH J 3 K ?_
  cases h
  exact wr J 5 func79 []
 refine wH J 3 K ?_
 obtain ⟨x2,d,h⟩:=ob h
 refine wa J 5 (eCl (z158_ct N l_ _ d) [] [(0,.sl 0)] ?_)
 obtain ⟨K,h⟩|⟨K,h⟩:=oc h
 ·refine wH J 11 K ?_
  cases h
  exact wr J 5 func79 []
 refine wH J 11 K (wa J 9 (eCut (σ:=Unit) (fun st=>⟨[],[],[(0,.sl rR0 l_),(1,.sl rR12 known_)],3⟩) (fun st=>z79_k1=some r) ?_ (fun j1=>?_)))
 ·intro _ h
  replace h:z79_k1=some r:=h
  unfold z79_k1 at h
  cases h
  exact wr J 4 func79 []
 refine wa J 1 (eLoop (σ:=Int) (fun st=>⟨[(7,.S 2),(30,.S 1),(31,.I (known_.length:Int)),(32,.I st)],[(2,.own rR4 x2 true)],[(0,.sl rR0 l_),(1,.sl rR12 known_)],3⟩) (fun n st=>z79_l2 N known_ x2 n st) (r:=r) (fun _=>rfl) ?_ (fun ih=>?_))
 ·intro n2 ih3
  intro e h
  replace h:z79_l2 N known_ x2 (n2+1) e=some r:=h
  unfold z79_l2 at h
  obtain ⟨K,h⟩|⟨K,h⟩:=oc' h
  ·exact wH J 5 K (wa J 2 (eSub [] (j1 () h)))
  refine wH J 5 K ?_
  obtain ⟨f,g,h⟩:=ob h
  refine wa J 7 (eIx J oO12 g (wa J 9 (eEq ?_)))
  obtain ⟨K,h⟩|⟨K,h⟩:=oc' h
  ·exact wH J 1 K (wa J 9 (eEnd (wa J 7 (eSub [] (ih3 (w64 (e+1)) h)))))
  refine wH J 1 K ?_
  obtain ⟨i,j,h⟩:=ob h
  refine wa J 2 (eIo J rR4 j (wa J 1 (eLd J oO4 j ?_)))
  obtain ⟨k,l,h⟩:=ob h
  refine wa J 1 (eCl (z159_ct N i.Sort' f _ l) [] [] (wa J 2 (eEnd ?_)))
  obtain ⟨K,h⟩|⟨K,h⟩:=oc h
  ·refine eK K ?_
   cases h
   exact wr J 5 func79 []
  exact eK K (wa J 7 (eSub [] (ih3 (w64 (e+1)) h)))
 exact eSub [] (ih N 0 h)
theorem z80_ct (N:Nat) (l_:(List T4)) (values_:(List T12)) (r:Bool) (h:z80 N l_ values_=some r) :
 Fn Tryz.prog 80 ⟨2,[.S 0,.S 1],[(0,.sl rR4 l_),(1,.sl rR12 values_)],[],2,.O r,[],[]⟩:=by
 refine eFn func80 rfl (fun E F w=>?_)
 unfold z80 at h
 obtain ⟨K,h⟩|⟨K,h⟩:=oc h
 ·refine wH J 13 K ?_
  cases h
  exact wr J 5 func80 []
 refine wH J 13 K (wa J 9 (eCut (σ:=Unit) (fun st=>(zz5 l_ values_ [])) (fun st=>z80_k1=some r) ?_ (fun j1=>?_)))
 ·intro _ h
  replace h:z80_k1=some r:=h
  unfold z80_k1 at h
  cases h
  exact wr J 4 func80 []
 refine wa J 1 (eLoop (σ:=Int) (fun st=>(zz5 l_ values_ [(1,.S 1),(12,.S 0),(13,.I (l_.length:Int)),(14,.I st)])) (fun n st=>z80_l2 N l_ values_ n st) (r:=r) (fun _=>rfl) ?_ (fun ih=>?_))
 ·intro n2 ih3
  intro c h
  replace h:z80_l2 N l_ values_ (n2+1) c=some r:=h
  unfold z80_l2 at h
  obtain ⟨K,h⟩|⟨K,h⟩:=oc' h
  ·exact wH J 5 K (wa J 2 (eSub [] (j1 () h)))
  refine wH J 5 K ?_
  obtain ⟨d,e,h⟩:=ob h
  refine wa J 7 (eIx J oO4 e ?_)
  obtain ⟨f,g,h⟩:=ob h
  refine wa J 11 (eIx J oO12 g ?_)
  obtain ⟨i,j,h⟩:=ob h
  refine wa J 1 (eCl (z159_ct N d.Sort' f _ j) [] [] (wa J 1 (eEnd ?_)))
  obtain ⟨K,h⟩|⟨K,h⟩:=oc h
  ·refine eK K ?_
   cases h
   exact wr J 5 func80 []
  exact eK K (wa J 7 (eSub [] (ih3 (w64 (c+1)) h)))
 exact eSub [] (ih N 0 h)
theorem z114_ct (N:Nat) (s_:(List T12)) (r:(List T12)) (h:z114 N s_=some r) :
 Fn Tryz.prog 114 ⟨1,[.S 0],[(0,.sl rR12 s_)],[],2,.S 1,[],[(1,.own rR12 r true)]⟩:=by
 refine eFn func114 rfl (fun E F w=>?_)
 unfold z114 at h
 refine wa J 8 (eNi rR12 s_ false ?_)
 intro nb hnb
 cases nb
 ·refine wa J 5 (eBs J [] oO12 ([]:List T12) ?_)
  obtain ⟨x1,c,h⟩:=ob h
  refine wa J 1 (eAp J rR12 c ?_)
  cases h
  exact wr J 2 func114 [(1,.sl 2)]
 ·obtain rfl:=hnb rfl
  replace h:(some ([]:List T12):Option (List T12))=some r:=h
  cases h
  exact wr J 6 func114 [(1,.nil)]
theorem z82_ct (N:Nat) (d_:T0) (values_:(List T12)) (known_:(List T12)) (r:(List T12)) (h:z82 N d_ values_ known_=some r) :
 Fn Tryz.prog 82 ⟨5,[.a (cC0 0 1 2 d_),.S 3,.S 4],(vV0 0 1 2 d_ [(3,.sl rR12 values_),(4,.sl rR12 known_)]),[],6,.S 5,[],[(5,.own rR12 r true)]⟩:=by
 refine eFn func82 rfl (fun E F w=>?_)
 unfold z82 at h
 obtain ⟨x1,c,h⟩:=ob h
 refine wa J 8 (eCl (z114_ct N known_ _ c) [] [(0,.sl 4)] ?_)
 obtain ⟨x2,d,h⟩:=ob h
 refine wa J 7 (eVw J rR12 d ?_)
 obtain ⟨x3,e,h⟩:=ob h
 refine wa J 1 (eCw J rR12 e ?_)
 cases h
 exact wr J 6 func82 [(5,.sl 6)]
theorem z81_ct (N:Nat) (g_:T6) (l_:(List T12)) (r:Bool) (h:z81 N g_ l_=some r) :
 Fn Tryz.prog 81 ⟨3,[.a [.sl 0,.sl 1],.S 2],[(0,.sl rR1 g_.Diffs),(1,.sl (rP (rI .i64) (rI .i64)) g_.Equals),(2,.sl rR12 l_)],[],3,.O r,[],[]⟩:=by
 refine eFn func81 rfl (fun E F w=>?_)
 unfold z81 at h
 refine wa J 13 (eCut (σ:=Unit) (fun st=>(zz7 g_.Diffs g_.Equals l_ [(1,.S 2),(2,.B 3 0)])) (fun st=>z81_k3 N g_ l_=some r) ?_ (fun j1=>?_))
 ·intro _ h
  replace h:z81_k3 N g_ l_=some r:=h
  unfold z81_k3 at h
  refine wa J 8 (eCut (σ:=Unit) (fun st=>(zz14 g_.Diffs g_.Equals l_ [])) (fun st=>z81_k1=some r) ?_ (fun j12=>?_))
  ·intro _ h
   replace h:z81_k1=some r:=h
   unfold z81_k1 at h
   cases h
   exact wr J 4 func81 []
  refine wa J 1 (eLoop (σ:=Int) (fun st=>(zz14 g_.Diffs g_.Equals l_ [(1,.S 2),(55,.S 1),(56,.I (g_.Equals.length:Int)),(57,.I st)])) (fun n st=>z81_l2 g_ l_ n st) (r:=r) (fun _=>rfl) ?_ (fun ih=>?_))
  ·intro n9 ih14
   intro c h
   replace h:z81_l2 g_ l_ (n9+1) c=some r:=h
   unfold z81_l2 at h
   obtain ⟨K,h⟩|⟨K,h⟩:=oc' h
   ·exact wH J 5 K (wa J 2 (eSub [] (j12 () h)))
   refine wH J 5 K ?_
   obtain ⟨d,e,h⟩:=ob h
   refine wa J 6 (eIx J (oP (oI .i64) (oI .i64)) e (wa J 7 (eAb 0 rfl ?_)))
   obtain ⟨f,g,h⟩:=ob h
   refine wa J 1 (eIx J oO12 g ?_)
   obtain ⟨K,h⟩|⟨K,h⟩:=oc h
   ·refine wH J 4 K (wa J 23 (eEnd ?_))
    cases h
    exact wr J 5 func81 []
   refine wH J 4 K (wa J 1 (eAb 1 rfl ?_))
   obtain ⟨j,k,h⟩:=ob h
   refine wa J 1 (eIx J oO12 k ?_)
   obtain ⟨K,h⟩|⟨K,h⟩:=oc h
   ·refine wH J 5 K (wa J 14 (eEnd ?_))
    cases h
    exact wr J 5 func81 []
   refine wH J 5 K (wa J 1 (eAb 0 rfl ?_))
   obtain ⟨l,m,h⟩:=ob h
   refine wa J 1 (eIx J oO12 m (wa J 3 (eAb 1 rfl ?_)))
   obtain ⟨o,p,h⟩:=ob h
   refine wa J 1 (eIx J oO12 p (wa J 4 (eEnd ?_)))
   obtain ⟨K,h⟩|⟨K,h⟩:=oc h
   ·refine eK K ?_
    cases h
    exact wr J 5 func81 []
   exact eK K (wa J 7 (eSub [] (ih14 (w64 (c+1)) h)))
  exact eSub [] (ih N 0 h)
 refine wa J 1 (eLoop (σ:=Int) (fun st=>(zz7 g_.Diffs g_.Equals l_ [(1,.S 2),(2,.B 3 0),(13,.S 0),(14,.I (g_.Diffs.length:Int)),(15,.I st)])) (fun n st=>z81_l4 N g_ l_ n st) (r:=r) (fun _=>rfl) ?_ (fun ih=>?_))
 ·intro n14 ih15
  intro q h
  replace h:z81_l4 N g_ l_ (n14+1) q=some r:=h
  unfold z81_l4 at h
  obtain ⟨K,h⟩|⟨K,h⟩:=oc' h
  ·exact wH J 5 K (wa J 2 (eSub [] (j1 () h)))
  refine wH J 5 K ?_
  obtain ⟨s,t,h⟩:=ob h
  refine wa J 6 (eIx J oO1 t (wa J 20 (eCut (σ:=Int × Int) (fun st=>(zz20 s st.1 st.2 g_.Diffs g_.Equals l_ [(1,.S 2),(2,.B 3 0),(6,.B 5 0),(7,.B 6 0),(13,.S 0),(14,.I (g_.Diffs.length:Int)),(15,.I q)])) (fun st=>z81_k5 q (z81_l4 N g_ l_ n14) s st.1 st.2=some r) ?_ (fun j22=>?_))))
  ·rintro ⟨u,v⟩ h
   replace h:z81_k5 q (z81_l4 N g_ l_ n14) s u v=some r:=h
   unfold z81_k5 at h
   refine wa J 2 (eAb 0 rfl (wa J 1 (eAb 1 rfl ?_)))
   obtain ⟨K,h⟩|⟨K,h⟩:=oc h
   ·refine wH J 6 K ?_
    cases h
    exact wr J 5 func81 []
   exact wH J 6 K (wa J 7 (eSub [] (ih15 (w64 (q+1)) h)))
  refine wa J 1 (eLoop (σ:=Int × Int × Int) (fun st=>(zz20 s st.1 st.2.1 g_.Diffs g_.Equals l_ [(1,.S 2),(2,.B 3 0),(6,.B 5 0),(7,.B 6 0),(13,.S 0),(14,.I (g_.Diffs.length:Int)),(15,.I q),(24,.a [.I s.X,.I s.Y]),(25,.I st.2.2)])) (fun n st=>z81_l6 N l_ q (z81_l4 N g_ l_ n14) s n st.1 st.2.1 st.2.2) (r:=r) (fun _=>rfl) ?_ (fun ih=>?_))
  ·intro n16 ih24
   rintro ⟨x,y,z⟩ h
   replace h:z81_l6 N l_ q (z81_l4 N g_ l_ n14) s (n16+1) x y z=some r:=h
   unfold z81_l6 at h
   obtain ⟨K,h⟩|⟨K,h⟩:=oc' h
   ·exact wH J 5 K (wa J 2 (eSub [] (j22 (x,y) h)))
   refine wH J 5 K ?_
   obtain ⟨A,C,h⟩:=ob h
   refine wa J 7 (eAx (SC.i .i64) ([s.X,s.Y]:List Int) C ?_)
   obtain ⟨K,h⟩|⟨K,h⟩:=oc h
   ·exact wH J 9 K (wa J 6 (eSub [] (ih24 (x,y,(w64 (z+1))) h)))
   refine wH J 9 K ?_
   obtain ⟨D,G,h⟩:=ob h
   refine wa J 7 (eIx J oO12 G ?_)
   obtain ⟨K,h⟩|⟨K,h⟩:=oc h
   ·refine wH J 4 K ?_
    cases h
    exact wr J 5 func81 []
   refine wH J 4 K ?_
   obtain ⟨H,R,h⟩:=ob h
   refine wa J 6 (eIx J oO12 R ?_)
   obtain ⟨T,U,h⟩:=ob h
   refine wa J 1 (eCl (z160_ct N H _ U) [] [] ?_)
   obtain ⟨K,h⟩|⟨K,h⟩:=oc h
   ·exact eAb 0 (by exact eq_of_beq K) (wa J 7 (eSub [] (ih24 (T,y,(w64 (z+1))) h)))
   obtain ⟨K,h⟩|⟨K,h⟩:=oc h
   ·exact eAb 1 (by exact eq_of_beq K) (wa J 7 (eSub [] (ih24 (x,T,(w64 (z+1))) h)))
   cases h
  exact eSub [] (ih N (0,0,0) h)
 exact eSub [] (ih N 0 h)
theorem z35_ct (N:Nat) (decls_:(List T0)) (label_:Int) (values_:(List T12)) (known_:(List T12)) (r:Bool) (h:z35 N decls_ label_ values_ known_=some r) :
 Fn Tryz.prog 35 ⟨3,[.S 0,.I label_,.S 1,.S 2],[(0,.sl rR0 decls_),(1,.sl rR12 values_),(2,.sl rR12 known_)],[],3,.O r,[],[]⟩:=by
 refine eFn func35 rfl (fun E F w=>?_)
 unfold z35 at h
 obtain ⟨x1,c,h⟩:=ob h
 refine wa J 10 (eCl (z79_ct N decls_ label_ known_ _ c) [] [(0,.sl 0),(1,.sl 2)] ?_)
 obtain ⟨K,h⟩|⟨K,h⟩:=oc h
 ·refine wH J 2 K ?_
  cases h
  exact wr J 15 func35 []
 refine wH J 2 K ?_
 obtain ⟨x2,d,h⟩:=ob h
 refine wa J 2 (eIx J oO0 d ?_)
 obtain ⟨x3,e,h⟩:=ob h
 refine wa J 3 (eCl (z80_ct N x2.Fields values_ _ e) [] [(0,.sl 4),(1,.sl 1)] ?_)
 obtain ⟨K,h⟩|⟨K,h⟩:=oc h
 ·refine wH J 3 K ?_
  cases h
  exact wr J 5 func35 []
 refine wH J 3 K ?_
 obtain ⟨x4,f,h⟩:=ob h
 refine wa J 6 (eIx J oO0 f ?_)
 obtain ⟨x5,g,h⟩:=ob h
 refine wa J 11 (eCl (z82_ct N x4 values_ known_ _ g) [] [(0,.sl 8),(1,.sl 9),(2,.sl 10),(3,.sl 1),(4,.sl 2)] ?_)
 obtain ⟨x6,i,h⟩:=ob h
 refine eCb (z81_ct N x4.Guard x5 _ i) [] [(0,.sl 9),(1,.sl 10),(2,.sl 12)] [12] (.inr ⟨rfl,trivial⟩) (wa J 1 (eEnd ?_))
 cases h
 exact eRet J func35 []
theorem z261_ct (N:Nat) (x_:ByteArray) (r:Bool) (h:z261 N x_=some r) :
 Fn Tryz.prog 261 ⟨0,[.c (.s x_)],[],[],0,.O r,[],[]⟩:=by
 refine eFn func261 rfl (fun E F w=>?_)
 unfold z261 at h
 cases h
 exact wr J 11 func261 []
theorem z213_ct (N:Nat) (x_:ByteArray) (y_:ByteArray) (r:Int) (h:z213 N x_ y_=some r) :
 Fn Tryz.prog 213 ⟨0,[.c (.s x_),.c (.s y_)],[],[],0,.I r,[],[]⟩:=by
 refine eFn func213 rfl (fun E F w=>?_)
 unfold z213 at h
 obtain ⟨x1,d,h⟩:=ob h
 refine wa J 7 (eCl (z261_ct N x_ _ d) [] [] ?_)
 obtain ⟨x2,e,h⟩:=ob h
 refine wa J 5 (eCl (z261_ct N y_ _ e) [] [] ?_)
 obtain ⟨K,h⟩|⟨K,h⟩:=oc h
 ·refine wH J 7 K ?_
  obtain ⟨K,h⟩|⟨K,h⟩:=oc h
  ·refine wH J 6 K ?_
   cases h
   exact wr J 5 func213 []
  refine wH J 6 K ?_
  cases h
  exact wr J 6 func213 []
 refine wH J 7 K ?_
 obtain ⟨K,h⟩|⟨K,h⟩:=oc h
 ·refine wH J 7 K ?_
  cases h
  exact wr J 5 func213 []
 refine wH J 7 K ?_
 obtain ⟨K,h⟩|⟨K,h⟩:=oc h
 ·refine wH J 9 K ?_
  cases h
  exact wr J 5 func213 []
 refine wH J 9 K ?_
 obtain ⟨K,h⟩|⟨K,h⟩:=oc h
 ·refine wH J 9 K ?_
  cases h
  exact wr J 5 func213 []
 refine wH J 9 K ?_
 cases h
 exact wr J 6 func213 []
theorem z146_ct (N:Nat) (a_:T12) (b_:T12) (r:Int) (h:z146 N a_ b_=some r) :
 Fn Tryz.prog 146 ⟨0,[.a (cC12 a_),.a (cC12 b_)],[],[],0,.I r,[],[]⟩:=by
 refine eFn func146 rfl (fun E F w=>?_)
 unfold z146 at h
 obtain ⟨x1,c,h⟩:=ob h
 refine wa J 12 (eCl (z212_ct N a_.Kind b_.Kind _ c) [] [] ?_)
 obtain ⟨x2,d,h⟩:=ob h
 refine wa J 4 (eCl (z212_ct N a_.N b_.N _ d) [] [] ?_)
 obtain ⟨x3,e,h⟩:=ob h
 refine wa J 6 (eCl (z212_ct N (a_.S.size:Int) (b_.S.size:Int) _ e) [] [] ?_)
 obtain ⟨x4,f,h⟩:=ob h
 refine wa J 4 (eCl (z213_ct N a_.S b_.S _ f) [] [] (eBs J [] (oI .i64) ([x1,x2,x3,x4]:List Int) ?_))
 obtain ⟨x5,g,h⟩:=ob h
 refine eCb (z211_ct N ([x1,x2,x3,x4]:List Int) _ g) [] [(0,.sl 2)] [2] (.inr ⟨rfl,trivial⟩) (wa J 1 (eEnd ?_))
 cases h
 exact eRet J func146 []
theorem z145_ct (N:Nat) (x_:T12) (y_:T12) (r:Bool) (h:z145 N x_ y_=some r) :
 Fn Tryz.prog 145 ⟨0,[.a (cC12 x_),.a (cC12 y_)],[],[],0,.O r,[],[]⟩:=by
 refine eFn func145 rfl (fun E F w=>?_)
 unfold z145 at h
 obtain ⟨x1,c,h⟩:=ob h
 refine wa J 10 (eCl (z146_ct N x_ y_ _ c) [] [] ?_)
 cases h
 exact wr J 3 func145 []
theorem z144_22_ct (N:Nat) (s1_:(List T12)) (s2_:(List T12)) (r:Bool) (h:z144_22 N s1_ s2_=some r) :
 Fn Tryz.prog 144 ⟨2,[.S 0,.S 1,.c (.cl 145 [] [])],[(0,.sl rR12 s1_),(1,.sl rR12 s2_)],[],2,.O r,[],[]⟩:=by
 refine eFn func144 rfl (fun E F w=>?_)
 unfold z144_22 at h
 obtain ⟨K,h⟩|⟨K,h⟩:=oc h
 ·refine wH J 13 K ?_
  cases h
  exact wr J 5 func144 []
 refine wH J 13 K (wa J 9 (eCut (σ:=Unit) (fun st=>(zz10 s1_ s2_ [])) (fun st=>z144_22_k1=some r) ?_ (fun j1=>?_)))
 ·intro _ h
  replace h:z144_22_k1=some r:=h
  unfold z144_22_k1 at h
  cases h
  exact wr J 4 func144 []
 refine wa J 1 (eLoop (σ:=Int) (fun st=>(zz10 s1_ s2_ [(1,.S 1),(2,.c (.cl 145 [] [])),(15,.S 0),(16,.I (s1_.length:Int)),(17,.I st)])) (fun n st=>z144_22_l2 N s1_ s2_ n st) (r:=r) (fun _=>rfl) ?_ (fun ih=>?_))
 ·intro n2 ih3
  intro d h
  replace h:z144_22_l2 N s1_ s2_ (n2+1) d=some r:=h
  unfold z144_22_l2 at h
  obtain ⟨K,h⟩|⟨K,h⟩:=oc' h
  ·exact wH J 5 K (wa J 2 (eSub [] (j1 () h)))
  refine wH J 5 K ?_
  obtain ⟨e,f,h⟩:=ob h
  refine wa J 7 (eIx J oO12 f ?_)
  obtain ⟨g,i,h⟩:=ob h
  refine wa J 9 (eIx J oO12 i ?_)
  obtain ⟨j,k,h⟩:=ob h
  refine wa J 9 (eCl (z145_ct N e g _ k) [] [] ?_)
  obtain ⟨K,h⟩|⟨K,h⟩:=oc h
  ·refine wH J 2 K ?_
   cases h
   exact wr J 5 func144 []
  exact wH J 2 K (wa J 7 (eSub [] (ih3 (w64 (d+1)) h)))
 exact eSub [] (ih N 0 h)
theorem z76_ct (N:Nat) (a_:(List T12)) (b_:(List T12)) (r:Bool) (h:z76 N a_ b_=some r) :
 Fn Tryz.prog 76 ⟨2,[.S 0,.S 1],[(0,.sl rR12 a_),(1,.sl rR12 b_)],[],2,.O r,[],[]⟩:=by
 refine eFn func76 rfl (fun E F w=>?_)
 unfold z76 at h
 obtain ⟨x1,c,h⟩:=ob h
 refine wa J 8 (eCl (z144_22_ct N a_ b_ _ c) [] [(0,.sl 0),(1,.sl 1)] ?_)
 cases h
 exact wr J 2 func76 []
theorem z36_ct (N:Nat) (decls_:(List T0)) (label_:Int) (values_:(List T12)) (known_:(List T12)) (r:(List T12) × Int) (h:z36 N decls_ label_ values_ known_=some r) :
 Fn Tryz.prog 36 ⟨3,[.S 0,.I label_,.S 1,.S 2],[(0,.sl rR0 decls_),(1,.sl rR12 values_),(2,.sl rR12 known_)],[],4,.t [.inl (.sl 3),.inl (.I r.2)],[],[(3,.own rR12 r.1 true)]⟩:=by
 refine eFn func36 rfl (fun E F w=>?_)
 unfold z36 at h
 obtain ⟨x1,c,h⟩:=ob h
 refine wa J 11 (eCl (z79_ct N decls_ label_ known_ _ c) [] [(0,.sl 0),(1,.sl 2)] ?_)
 obtain ⟨K,h⟩|⟨K,h⟩:=oc h
 ·refine wH J 2 K ?_
  cases h
  exact wr J 6 func36 [(3,.nil)]
 refine wH J 2 K ?_
 obtain ⟨x2,d,h⟩:=ob h
 refine wa J 7 (eIx J oO0 d ?_)
 obtain ⟨x3,e,h⟩:=ob h
 refine wa J 3 (eCl (z80_ct N x2.Fields values_ _ e) [] [(0,.sl 4),(1,.sl 1)] ?_)
 obtain ⟨K,h⟩|⟨K,h⟩:=oc h
 ·refine wH J 2 K ?_
  cases h
  exact wr J 6 func36 [(3,.nil)]
 refine wH J 2 K ?_
 obtain ⟨x4,f,h⟩:=ob h
 refine wa J 6 (eIx J oO0 f ?_)
 obtain ⟨x5,g,h⟩:=ob h
 refine wa J 3 (eCl (z82_ct N x4 values_ known_ _ g) [] [(0,.sl 8),(1,.sl 9),(2,.sl 10),(3,.sl 1),(4,.sl 2)] ?_)
 cases h
 exact wr J 3 func36 [(3,.sl 11)]
theorem z56_ct (N:Nat) (g_:T5) (m_:T8) (s_:T16) (x_:T3) (r:T16 × Int) (h:z56 N g_ m_ s_ x_=some r) :
 Fn Tryz.prog 56 ⟨10,[.a (cC5 0 1 2 3 g_),.a (cC8 4 5 6 m_),.a (cC16 7 8 s_),.a (cC3 9 x_)],((0,.sl rS g_.Roles)::(1,.sl rR0 g_.Decls)::(2,.sl rR2 g_.Edges)::(3,.sl rR11 g_.Timeouts)::(4,.sl rB m_.Finals)::(5,.sl rR9 m_.Moves)::(6,.sl rR11 m_.Timeouts)::vV16 7 8 s_ [(9,.sl rR12 x_.Values)]),[],12,.t [.inr (cC16 10 11 r.1),.inl (.I r.2)],(vV16 10 11 r.1 []),[]⟩:=by
 refine eFn func56 rfl (fun E F w=>?_)
 unfold z56 at h
 obtain ⟨x1,c,h⟩:=ob h
 refine wa J 14 (eCl (z111_17_ct N m_.Moves s_ x_ _ c) [] [(0,.sl 5),(1,.bp 12 0),(2,.sl 7),(3,.sl 8),(4,.bp 13 0),(5,.sl 9)] ?_)
 obtain ⟨K,h⟩|⟨K,h⟩:=oc h
 ·refine wH J 13 K ?_
  cases h
  exact wr J 7 func56 [(10,.nil),(11,.nil)]
 refine wH J 13 K ?_
 obtain ⟨K,h⟩|⟨K,h⟩:=oc h
 ·refine wH J 7 K ?_
  cases h
  exact wr J 7 func56 [(10,.nil),(11,.nil)]
 refine wH J 7 K ?_
 obtain ⟨x2,d,h⟩:=ob h
 refine wa J 7 (eIx J oO0 d ?_)
 obtain ⟨x3,e,h⟩:=ob h
 refine wa J 4 (eCl (z113_ct N x2.Fields x_.Values _ e) [] [(0,.sl 16),(1,.sl 9)] (wa J 2 (eEnd ?_)))
 obtain ⟨K,h⟩|⟨K,h⟩:=oc h
 ·refine eK K ?_
  cases h
  exact wr J 7 func56 [(10,.nil),(11,.nil)]
 refine eK K ?_
 obtain ⟨x4,f,h⟩:=ob h
 refine wa J 12 (eCl (z35_ct N g_.Decls x_.Label x_.Values s_.Known _ f) [] [(0,.sl 1),(1,.sl 9),(2,.sl 7)] (wa J 3 (eCut (σ:=Bool) (fun st=>⟨[(4,.B 10 0),(5,.B 11 0),(6,.B 12 0),(7,.B 13 0),(8,.B 14 0),(10,.I x1),(40,.O st)],[(10,.box (cC5 0 1 2 3 g_) 27),(11,.box (cC8 4 5 6 m_) 31),(12,.box (cC16 7 8 s_) 37),(13,.box (cC3 9 x_) 67),(14,.box [.I 0,.nil,.nil] 37)],((0,.sl rS g_.Roles)::(1,.sl rR0 g_.Decls)::(2,.sl rR2 g_.Edges)::(3,.sl rR11 g_.Timeouts)::(4,.sl rB m_.Finals)::(5,.sl rR9 m_.Moves)::(6,.sl rR11 m_.Timeouts)::vV16 7 8 s_ [(9,.sl rR12 x_.Values)]),19⟩) (fun st=>z56_k1 N g_ m_ s_ x_ x1 st=some r) ?_ (fun j1=>?_))))
 ·intro g h
  replace h:z56_k1 N g_ m_ s_ x_ x1 g=some r:=h
  unfold z56_k1 at h
  obtain ⟨K,h⟩|⟨K,h⟩:=oc h
  ·refine eK K ?_
   cases h
   exact wr J 7 func56 [(10,.nil),(11,.nil)]
  refine eK K ?_
  obtain ⟨x7,i,h⟩:=ob h
  refine wa J 8 (eIx J oO9 i ?_)
  obtain ⟨x8,j,h⟩:=ob h
  refine wa J 16 (eCl (z36_ct N g_.Decls x_.Label x_.Values s_.Known _ j) [] [(0,.sl 1),(1,.sl 9),(2,.sl 7)] ?_)
  obtain ⟨K,h⟩|⟨K,h⟩:=oc' h
  ·refine wH J 12 K (wa J 8 (eFr [21] ?_))
   cases h
   exact eRet J func56 [(10,.sl 21),(11,.nil)]
  refine wH J 12 K ?_
  obtain ⟨x9,k,h⟩:=ob h
  refine wa J 4 (eCl (z114_ct N x_.Values _ k) [] [(0,.sl 9)] (wa J 9 (eFr [21] (eFr [22] ?_))))
  cases h
  exact eRet J func56 [(10,.sl 21),(11,.sl 22)]
 obtain ⟨K,h⟩|⟨K,h⟩:=oc h
 ·exact eK K (wa J 2 (eSub [] (j1 true h)))
 refine eK K ?_
 obtain ⟨l,m,h⟩:=ob h
 refine wa J 5 (eIx J oO9 m ?_)
 obtain ⟨K,h⟩|⟨K,h⟩:=oc' h
 ·exact wH J 3 K (wa J 9 (eSub [] (j1 false h)))
 refine wH J 3 K ?_
 obtain ⟨o,p,h⟩:=ob h
 exact wa J 4 (eCl (z76_ct N x_.Values s_.Pending _ p) [] [(0,.sl 9),(1,.sl 8)] (wa J 4 (eSub [] (j1 (!o) h))))
theorem z15_ct (N:Nat) (g_:T5) (m_:T8) (history_:(List T3)) (r:T16 × Int × Int) (h:z15 N g_ m_ history_=some r) :
 Fn Tryz.prog 15 ⟨8,[.a (cC5 0 1 2 3 g_),.a (cC8 4 5 6 m_),.S 7],((0,.sl rS g_.Roles)::(1,.sl rR0 g_.Decls)::(2,.sl rR2 g_.Edges)::(3,.sl rR11 g_.Timeouts)::vV8 4 5 6 m_ [(7,.sl rR3 history_)]),[],10,.t [.inr (cC16 8 9 r.1),.inl (.I r.2.1),.inl (.I r.2.2)],(vV16 8 9 r.1 []),[]⟩:=by
 refine eFn func15 rfl (fun E F w=>?_)
 unfold z15 at h
 obtain ⟨x1,c,h⟩:=ob h
 refine wa J 12 (eCl (z30_ct N g_ m_ _ c) [] [(0,.sl 0),(1,.sl 1),(2,.sl 2),(3,.sl 3),(4,.sl 4),(5,.sl 5),(6,.sl 6)] ?_)
 obtain ⟨x2,d,h⟩:=ob h
 refine wa J 8 (eCl (z27_ct N g_ m_ x1 _ d) [] [(0,.sl 0),(1,.sl 1),(2,.sl 2),(3,.sl 3),(4,.sl 4),(5,.sl 5),(6,.sl 6),(7,.sl 11),(8,.sl 12)] ?_)
 obtain ⟨K,h⟩|⟨K,h⟩:=oc h
 ·refine wH J 2 K ?_
  cases h
  exact wr J 8 func15 [(8,.nil),(9,.nil)]
 refine wH J 2 K (wa J 9 (eCut (σ:=Int × (List T12) × (List T12)) (fun st=>⟨[(2,.S 7),(6,.B 10 0)],[(10,.box [.I st.1,.sl 13,.sl 14] 37)],((0,.sl rS g_.Roles)::(1,.sl rR0 g_.Decls)::(2,.sl rR2 g_.Edges)::(3,.sl rR11 g_.Timeouts)::vV8 4 5 6 m_ [(7,.sl rR3 history_),(13,.sl rR12 st.2.1),(14,.sl rR12 st.2.2)]),15⟩) (fun st=>z15_k1 history_ st.1 st.2.1 st.2.2=some r) ?_ (fun j1=>?_)))
 ·rintro ⟨e,f,g⟩ h
  replace h:z15_k1 history_ e f g=some r:=h
  unfold z15_k1 at h
  cases h
  exact wr J 9 func15 [(8,.sl 13),(9,.sl 14)]
 refine wa J 1 (eLoop (σ:=Int × (List T12) × (List T12) × Int) (fun st=>⟨[(2,.S 7),(3,.B 8 0),(4,.B 9 0),(6,.B 10 0),(22,.S 7),(23,.I (history_.length:Int)),(24,.I st.2.2.2)],[(8,.box (cC5 0 1 2 3 g_) 27),(9,.box (cC8 4 5 6 m_) 31),(10,.box [.I st.1,.sl 13,.sl 14] 37)],((0,.sl rS g_.Roles)::(1,.sl rR0 g_.Decls)::(2,.sl rR2 g_.Edges)::(3,.sl rR11 g_.Timeouts)::vV8 4 5 6 m_ [(7,.sl rR3 history_),(13,.sl rR12 st.2.1),(14,.sl rR12 st.2.2.1)]),15⟩) (fun n st=>z15_l2 N g_ m_ history_ n st.1 st.2.1 st.2.2.1 st.2.2.2) (r:=r) (fun _=>rfl) ?_ (fun ih=>?_))
 ·intro n2 ih3
  rintro ⟨i,j,k,l⟩ h
  replace h:z15_l2 N g_ m_ history_ (n2+1) i j k l=some r:=h
  unfold z15_l2 at h
  obtain ⟨K,h⟩|⟨K,h⟩:=oc' h
  ·exact wH J 5 K (wa J 2 (eSub [] (j1 (i,j,k) h)))
  refine wH J 5 K ?_
  obtain ⟨m,o,h⟩:=ob h
  refine wa J 7 (eIx J oO3 o ?_)
  obtain ⟨p,q,h⟩:=ob h
  refine wa J 11 (eCl (z56_ct N g_ m_ (⟨i,j,k⟩:T16) m _ q) [] [(0,.sl 0),(1,.sl 1),(2,.sl 2),(3,.sl 3),(4,.sl 4),(5,.sl 5),(6,.sl 6),(7,.sl 13),(8,.sl 14),(9,.sl 16)] ?_)
  obtain ⟨K,h⟩|⟨K,h⟩:=oc h
  ·refine wH J 13 K ?_
   cases h
   exact wr J 10 func15 [(8,.sl 13),(9,.sl 14)]
  exact wH J 13 K (wa J 11 (eSub [(13,.sl 18),(14,.sl 19)] (ih3 (p.1.At,p.1.Known,p.1.Pending,(w64 (l+1))) h)))
 exact eSub [(13,.sl 11),(14,.sl 12)] (ih N (x1.At,x1.Known,x1.Pending,0) h)
theorem z162_ct (N:Nat) (decls_:(List T0)) (label_:Int) (own_:(List T12)) (known_:(List T12)) (r:(List T12)) (h:z162 N decls_ label_ own_ known_=some r) :
 Fn Tryz.prog 162 ⟨3,[.S 0,.I label_,.S 1,.S 2],[(0,.sl rR0 decls_),(1,.sl rR12 own_),(2,.sl rR12 known_)],[],4,.S 3,[],[(3,.own rR12 r true)]⟩:=by
 refine eFn func162 rfl (fun E F w=>?_)
 unfold z162 at h
 refine wa J 6 (eBs J [] oO12 ([]:List T12) ?_)
 obtain ⟨x1,c,h⟩:=ob h
 refine wa J 1 (eAp J rR12 c ?_)
 obtain ⟨x2,d,h⟩:=ob h
 refine wa J 7 (eIx J oO0 d ?_)
 obtain ⟨x3,e,h⟩:=ob h
 refine wa J 2 (eVw J rR12 e ?_)
 obtain ⟨x4,f,h⟩:=ob h
 refine wa J 1 (eCw J rR12 f ?_)
 cases h
 exact wr J 6 func162 [(3,.sl 4)]
theorem z227_ct (N:Nat) (all_:(List T12)) (x_:Int) (r:Int × Bool) (h:z227 N all_ x_=some r) :
 Fn Tryz.prog 227 ⟨1,[.S 0,.I x_],[(0,.sl rR12 all_)],[],1,.t [.inl (.I r.1),.inl (.b r.2)],[],[]⟩:=by
 refine eFn func227 rfl (fun E F w=>?_)
 unfold z227 at h
 obtain ⟨K,h⟩|⟨K,h⟩:=oc h
 ·refine wH J 11 K ?_
  cases h
  exact wr J 6 func227 []
 refine wH J 11 K ?_
 obtain ⟨x1,c,h⟩:=ob h
 refine wa J 6 (eIx J oO12 c ?_)
 obtain ⟨x2,d,h⟩:=ob h
 refine wa J 1 (eCl (z137_ct N x1 _ d) [] [] ?_)
 obtain ⟨x3,e,h⟩:=ob h
 refine wa J 2 (eIx J oO12 e (wa J 5 (eEnd ?_)))
 cases h
 exact eRet J func227 []
theorem z161_ct (N:Nat) (x_:T6) (all_:(List T12)) (r:Int × Bool) (h:z161 N x_ all_=some r) :
 Fn Tryz.prog 161 ⟨3,[.a [.sl 0,.sl 1],.S 2],[(0,.sl rR1 x_.Diffs),(1,.sl (rP (rI .i64) (rI .i64)) x_.Equals),(2,.sl rR12 all_)],[],3,.t [.inl (.I r.1),.inl (.b r.2)],[],[]⟩:=by
 refine eFn func161 rfl (fun E F w=>?_)
 unfold z161 at h
 refine wa J 14 (eCut (σ:=Unit) (fun st=>(zz7 x_.Diffs x_.Equals all_ [(1,.S 2),(2,.B 3 0)])) (fun st=>z161_k3 N x_ all_=some r) ?_ (fun j1=>?_))
 ·intro _ h
  replace h:z161_k3 N x_ all_=some r:=h
  unfold z161_k3 at h
  refine wa J 8 (eCut (σ:=Unit) (fun st=>(zz14 x_.Diffs x_.Equals all_ [])) (fun st=>z161_k1=some r) ?_ (fun j3=>?_))
  ·intro _ h
   replace h:z161_k1=some r:=h
   unfold z161_k1 at h
   cases h
   exact wr J 5 func161 []
  refine wa J 1 (eLoop (σ:=Int) (fun st=>(zz7 x_.Diffs x_.Equals all_ [(1,.S 2),(2,.B 3 0),(55,.S 1),(56,.I (x_.Equals.length:Int)),(57,.I st)])) (fun n st=>z161_l2 x_ all_ n st) (r:=r) (fun _=>rfl) ?_ (fun ih=>?_))
  ·intro n3 ih5
   intro c h
   replace h:z161_l2 x_ all_ (n3+1) c=some r:=h
   unfold z161_l2 at h
   obtain ⟨K,h⟩|⟨K,h⟩:=oc' h
   ·exact wH J 5 K (wa J 2 (eSub [] (j3 () h)))
   refine wH J 5 K ?_
   obtain ⟨d,e,h⟩:=ob h
   refine wa J 7 (eIx J (oP (oI .i64) (oI .i64)) e (wa J 8 (eAb 0 rfl ?_)))
   obtain ⟨f,g,h⟩:=ob h
   refine wa J 1 (eIx J oO12 g (wa J 2 (eAb 1 rfl ?_)))
   obtain ⟨i,j,h⟩:=ob h
   refine wa J 1 (eIx J oO12 j (wa J 5 (eEnd ?_)))
   obtain ⟨K,h⟩|⟨K,h⟩:=oc h
   ·refine wH J 6 K ?_
    cases h
    exact wr J 23 func161 []
   refine wH J 6 K ?_
   obtain ⟨K,h⟩|⟨K,h⟩:=oc h
   ·refine wH J 5 K ?_
    cases h
    exact wr J 18 func161 []
   refine wH J 5 K ?_
   obtain ⟨K,h⟩|⟨K,h⟩:=oc h
   ·refine wH J 7 K ?_
    cases h
    exact wr J 11 func161 []
   exact wH J 7 K (wa J 7 (eSub [] (ih5 (w64 (c+1)) h)))
  exact eSub [] (ih N 0 h)
 refine wa J 1 (eLoop (σ:=Int) (fun st=>(zz7 x_.Diffs x_.Equals all_ [(1,.S 2),(2,.B 3 0),(17,.S 0),(18,.I (x_.Diffs.length:Int)),(19,.I st)])) (fun n st=>z161_l4 N x_ all_ n st) (r:=r) (fun _=>rfl) ?_ (fun ih=>?_))
 ·intro n4 ih6
  intro k h
  replace h:z161_l4 N x_ all_ (n4+1) k=some r:=h
  unfold z161_l4 at h
  obtain ⟨K,h⟩|⟨K,h⟩:=oc' h
  ·exact wH J 5 K (wa J 2 (eSub [] (j1 () h)))
  refine wH J 5 K ?_
  obtain ⟨l,m,h⟩:=ob h
  refine wa J 7 (eIx J oO1 m ?_)
  obtain ⟨o,p,h⟩:=ob h
  refine wa J 10 (eCl (z227_ct N all_ l.X _ p) [] [(0,.sl 2)] ?_)
  obtain ⟨q,s,h⟩:=ob h
  refine wa J 11 (eCl (z227_ct N all_ l.Y _ s) [] [(0,.sl 2)] ?_)
  obtain ⟨K,h⟩|⟨K,h⟩:=oc h
  ·refine wH J 11 K ?_
   cases h
   exact wr J 19 func161 []
  refine wH J 11 K ?_
  obtain ⟨K,h⟩|⟨K,h⟩:=oc h
  ·refine wH J 4 K ?_
   cases h
   exact wr J 15 func161 []
  refine wH J 4 K ?_
  obtain ⟨K,h⟩|⟨K,h⟩:=oc h
  ·refine wH J 8 K ?_
   cases h
   exact wr J 7 func161 []
  exact wH J 8 K (wa J 7 (eSub [] (ih6 (w64 (k+1)) h)))
 exact eSub [] (ih N 0 h)
theorem z163_ct (N:Nat) (a_:(List T12)) (b_:(List T12)) (r:Int) (h:z163 N a_ b_=some r) :
 Fn Tryz.prog 163 ⟨2,[.S 0,.S 1],[(0,.sl rR12 a_),(1,.sl rR12 b_)],[],2,.I r,[],[]⟩:=by
 refine eFn func163 rfl (fun E F w=>?_)
 unfold z163 at h
 refine wa J 11 (eCut (σ:=Unit) (fun st=>(zz10 a_ b_ [(0,.S 0)])) (fun st=>z163_k1 a_=some r) ?_ (fun j1=>?_))
 ·intro _ h
  replace h:z163_k1 a_=some r:=h
  unfold z163_k1 at h
  cases h
  exact wr J 6 func163 []
 refine wa J 1 (eLoop (σ:=Int) (fun st=>(zz10 a_ b_ [(0,.S 0),(1,.S 1),(7,.I (a_.length:Int)),(8,.I st)])) (fun n st=>z163_l2 N a_ b_ n st) (r:=r) (fun _=>rfl) ?_ (fun ih=>?_))
 ·intro n2 ih3
  intro c h
  replace h:z163_l2 N a_ b_ (n2+1) c=some r:=h
  unfold z163_l2 at h
  obtain ⟨K,h⟩|⟨K,h⟩:=oc' h
  ·exact wH J 5 K (wa J 2 (eSub [] (j1 () h)))
  refine wH J 5 K ?_
  obtain ⟨K,h⟩|⟨K,h⟩:=oc h
  ·refine wH J 16 K (wa J 11 (eEnd ?_))
   cases h
   exact wr J 6 func163 []
  refine wH J 16 K ?_
  obtain ⟨d,e,h⟩:=ob h
  refine wa J 2 (eIx J oO12 e ?_)
  obtain ⟨f,g,h⟩:=ob h
  refine wa J 3 (eIx J oO12 g ?_)
  obtain ⟨i,j,h⟩:=ob h
  refine wa J 1 (eCl (z146_ct N d f _ j) [] [] (wa J 2 (eEnd ?_)))
  obtain ⟨K,h⟩|⟨K,h⟩:=oc h
  ·refine eK K ?_
   cases h
   exact wr J 6 func163 []
  exact eK K (wa J 7 (eSub [] (ih3 (w64 (c+1)) h)))
 exact eSub [] (ih N 0 h)
theorem z84_ct (N:Nat) (g_:T5) (s_:T16) (x_:T3) (e_:Int) (r:Int × Int) (h:z84 N g_ s_ x_ e_=some r) :
 Fn Tryz.prog 84 ⟨7,[.a (cC5 0 1 2 3 g_),.a (cC16 4 5 s_),.a (cC3 6 x_),.I e_],((0,.sl rS g_.Roles)::(1,.sl rR0 g_.Decls)::(2,.sl rR2 g_.Edges)::(3,.sl rR11 g_.Timeouts)::vV16 4 5 s_ [(6,.sl rR12 x_.Values)]),[],7,.t [.inl (.I r.1),.inl (.I r.2)],[],[]⟩:=by
 refine eFn func84 rfl (fun E F w=>?_)
 unfold z84 at h
 obtain ⟨K,h⟩|⟨K,h⟩:=oc h
 ·refine wH J 19 K ?_
  cases h
  exact wr J 6 func84 []
 refine wH J 19 K ?_
 obtain ⟨K,h⟩|⟨K,h⟩:=oc h
 ·refine wH J 6 K ?_
  cases h
  exact wr J 6 func84 []
 refine wH J 6 K ?_
 obtain ⟨x1,c,h⟩:=ob h
 refine wa J 9 (eIx J oO0 c ?_)
 obtain ⟨K,h⟩|⟨K,h⟩:=oc h
 ·refine wH J 15 K ?_
  cases h
  exact wr J 6 func84 []
 refine wH J 15 K (wa J 10 (eCut (σ:=Unit) (fun st=>(zz21 g_ s_ x_ x1 g_.Roles g_.Decls g_.Edges g_.Timeouts x_.Values [(4,.B 7 0),(5,.B 8 0),(6,.B 9 0),(10,.B 14 0)])) (fun st=>z84_k1 N g_ s_ x_ x1=some r) ?_ (fun j1=>?_)))
 ·intro _ h
  replace h:z84_k1 N g_ s_ x_ x1=some r:=h
  unfold z84_k1 at h
  obtain ⟨d,e,h⟩:=ob h
  refine wa J 13 (eCl (z162_ct N g_.Decls x_.Label x_.Values s_.Known _ e) [] [(0,.sl 1),(1,.sl 6),(2,.sl 4)] ?_)
  obtain ⟨f,g,h⟩:=ob h
  refine eCb (z161_ct N x1.Guard d _ g) [] [(0,.sl 12),(1,.sl 13),(2,.sl 15)] [15] (.inr ⟨rfl,trivial⟩) (wa J 5 (eEnd ?_))
  obtain ⟨K,h⟩|⟨K,h⟩:=oc h
  ·refine wH J 4 K ?_
   cases h
   exact wr J 7 func84 []
  refine wH J 4 K ?_
  obtain ⟨i,j,h⟩:=ob h
  refine wa J 8 (eCl (z163_ct N x_.Values s_.Pending _ j) [] [(0,.sl 6),(1,.sl 5)] ?_)
  cases h
  exact wr J 3 func84 []
 refine wa J 1 (eLoop (σ:=Int) (fun st=>(zz21 g_ s_ x_ x1 g_.Roles g_.Decls g_.Edges g_.Timeouts x_.Values [(4,.B 7 0),(5,.B 8 0),(6,.B 9 0),(10,.B 14 0),(34,.S 11),(35,.I (x1.Fields.length:Int)),(36,.I st)])) (fun n st=>z84_l2 N g_ s_ x_ x1 n st) (r:=r) (fun _=>rfl) ?_ (fun ih=>?_))
 ·intro n2 ih3
  intro k h
  replace h:z84_l2 N g_ s_ x_ x1 (n2+1) k=some r:=h
  unfold z84_l2 at h
  obtain ⟨K,h⟩|⟨K,h⟩:=oc' h
  ·exact wH J 5 K (wa J 2 (eSub [] (j1 () h)))
  refine wH J 5 K ?_
  obtain ⟨l,m,h⟩:=ob h
  refine wa J 7 (eIx J oO4 m ?_)
  obtain ⟨o,p,h⟩:=ob h
  refine wa J 12 (eIx J oO12 p ?_)
  obtain ⟨q,s,h⟩:=ob h
  refine wa J 1 (eCl (z71_ct N l.Sort' o _ s) [] [] (wa J 1 (eEnd ?_)))
  obtain ⟨K,h⟩|⟨K,h⟩:=oc h
  ·refine eK K ?_
   cases h
   exact wr J 7 func84 []
  exact eK K (wa J 7 (eSub [] (ih3 (w64 (k+1)) h)))
 exact eSub [] (ih N 0 h)
theorem z39_ct (N:Nat) (g_:T5) (m_:T8) (history_:(List T3)) (r:T13 × Bool × Int) (h:z39 N g_ m_ history_=some r) :
 Fn Tryz.prog 39 ⟨8,[.a (cC5 0 1 2 3 g_),.a (cC8 4 5 6 m_),.S 7],((0,.sl rS g_.Roles)::(1,.sl rR0 g_.Decls)::(2,.sl rR2 g_.Edges)::(3,.sl rR11 g_.Timeouts)::vV8 4 5 6 m_ [(7,.sl rR3 history_)]),[],8,.t [.inr (cC13 r.1),.inl (.b r.2.1),.inl (.I r.2.2)],[],[]⟩:=by
 refine eFn func39 rfl (fun E F w=>?_)
 unfold z39 at h
 obtain ⟨x1,c,h⟩:=ob h
 refine wa J 13 (eCl (z15_ct N g_ m_ history_ _ c) [] [(0,.sl 0),(1,.sl 1),(2,.sl 2),(3,.sl 3),(4,.sl 4),(5,.sl 5),(6,.sl 6),(7,.sl 7)] (wa J 21 (eCut (σ:=Bool) (fun st=>⟨[(2,.S 7),(3,.B 8 0),(4,.B 9 0),(6,.B 10 0),(8,.I x1.2.2),(9,.B 13 0),(10,.I x1.2.1),(21,.O st)],[(8,.box (cC5 0 1 2 3 g_) 27),(9,.box (cC8 4 5 6 m_) 31),(10,.box [.I 0,.I 0,.I 0,.I 0] 97),(13,.box (cC16 11 12 x1.1) 37)],((0,.sl rS g_.Roles)::(1,.sl rR0 g_.Decls)::(2,.sl rR2 g_.Edges)::(3,.sl rR11 g_.Timeouts)::(4,.sl rB m_.Finals)::(5,.sl rR9 m_.Moves)::(6,.sl rR11 m_.Timeouts)::(7,.sl rR3 history_)::vV16 11 12 x1.1 []),14⟩) (fun st=>z39_k1 N g_ m_ history_ x1 st=some r) ?_ (fun j1=>?_))))
 ·intro d h
  replace h:z39_k1 N g_ m_ history_ x1 d=some r:=h
  unfold z39_k1 at h
  obtain ⟨K,h⟩|⟨K,h⟩:=oc h
  ·refine eK K ?_
   cases h
   exact wr J 9 func39 []
  refine eK K ?_
  obtain ⟨x2,e,h⟩:=ob h
  refine wa J 7 (eIx J oO3 e ?_)
  obtain ⟨x3,f,h⟩:=ob h
  refine wa J 16 (eCl (z84_ct N g_ x1.1 x2 x1.2.2 _ f) [] [(0,.sl 0),(1,.sl 1),(2,.sl 2),(3,.sl 3),(4,.sl 11),(5,.sl 12),(6,.sl 15)] ?_)
  obtain ⟨K,h⟩|⟨K,h⟩:=oc h
  ·refine wH J 17 K ?_
   cases h
   exact wr J 15 func39 []
  refine wH J 17 K ?_
  obtain ⟨K,h⟩|⟨K,h⟩:=oc h
  ·refine wH J 7 K ?_
   cases h
   exact wr J 15 func39 []
  refine wH J 7 K ?_
  cases h
  exact wr J 15 func39 []
 obtain ⟨K,h⟩|⟨K,h⟩:=oc h
 ·exact eK K (wa J 2 (eSub [] (j1 true h)))
 exact eK K (wa J 5 (eSub [] (j1 (x1.2.2==1) h)))
theorem z93_ct (N:Nat) (l_:(List ByteArray)) (i_:Int) (r:ByteArray) (h:z93 N l_ i_=some r) :
 Fn Tryz.prog 93 ⟨1,[.S 0,.I i_],[(0,.sl rS l_)],[],1,.c (.s r),[],[]⟩:=by
 refine eFn func93 rfl (fun E F w=>?_)
 unfold z93 at h
 obtain ⟨K,h⟩|⟨K,h⟩:=oc h
 ·refine wH J 10 K ?_
  cases h
  exact wr J 11 func93 []
 refine wH J 10 K ?_
 obtain ⟨K,h⟩|⟨K,h⟩:=oc h
 ·refine wH J 6 K ?_
  cases h
  exact wr J 5 func93 []
 refine wH J 6 K ?_
 obtain ⟨x1,d,h⟩:=ob h
 refine wa J 6 (eIx J oS d ?_)
 cases h
 exact wr J 3 func93 []
theorem z94_ct (N:Nat) (decls_:(List T0)) (r:(List ByteArray)) (h:z94 N decls_=some r) :
 Fn Tryz.prog 94 ⟨1,[.S 0],[(0,.sl rR0 decls_)],[],2,.S 1,[],[(1,.own rS r true)]⟩:=by
 refine eFn func94 rfl (fun E F w=>?_)
 unfold z94 at h
 refine wa J 15 (eCut (σ:=(List ByteArray)) (fun st=>⟨[(3,.S 1)],[(1,.own rS st true)],[(0,.sl rR0 decls_)],2⟩) (fun st=>z94_k1 st=some r) ?_ (fun j1=>?_))
 ·intro c h
  replace h:z94_k1 c=some r:=h
  unfold z94_k1 at h
  cases h
  exact wr J 5 func94 [(1,.sl 1)]
 refine wa J 1 (eLoop (σ:=(List ByteArray) × Int) (fun st=>⟨[(3,.S 1),(6,.S 0),(7,.I (decls_.length:Int)),(8,.I st.2)],[(1,.own rS st.1 true)],[(0,.sl rR0 decls_)],2⟩) (fun n st=>z94_l2 decls_ n st.1 st.2) (r:=r) (fun _=>rfl) ?_ (fun ih=>?_))
 ·intro n2 ih3
  rintro ⟨d,e⟩ h
  replace h:z94_l2 decls_ (n2+1) d e=some r:=h
  unfold z94_l2 at h
  obtain ⟨K,h⟩|⟨K,h⟩:=oc' h
  ·exact wH J 5 K (wa J 2 (eSub [] (j1 d h)))
  refine wH J 5 K ?_
  obtain ⟨f,g,h⟩:=ob h
  refine wa J 6 (eIx J oO0 g (wa J 8 (eBs J [] oS ([f.Name]:List ByteArray) ?_)))
  obtain ⟨i,j,h⟩:=ob h
  exact eAp J rS j (wa J 7 (eSub [(1,.sl 8)] (ih3 (i,(w64 (e+1))) h)))
 exact eSub [(1,.nil)] (ih N (([]:List ByteArray),0) h)
theorem z165_ct (N:Nat) (v_:T12) (r:ByteArray) (h:z165 N v_=some r):Fn Tryz.prog 165 ⟨1,[.a (cC12 v_)],[],[(0,.abs powT)],1,.c (.s r),[],[(0,.abs powT)]⟩:=by
 unfold z165 at h
 obtain ⟨x1,d,h⟩:=ob h
 cases hb:((decide ((-9223372036854775808)≤v_.N) && decide (v_.N≤9223372036854775807)) && decide (v_.S.size≤35184372088832)) with
 | false=>rw [hb] at h;cases h
 | true =>
  rw [hb] at h
  simp only [cond_true,Option.some.injEq] at h
  subst h
  simp only [Bool.and_eq_true,decide_eq_true_eq] at hb
  exact show_fn v_.Kind v_.N v_.S x1 (z139_ct N v_ _ d) hb.1.1 hb.1.2 hb.2
theorem z167_ct (N:Nat) (elems_:List ByteArray) (sep_:ByteArray) (r:ByteArray) (h:z167 N elems_ sep_=some r):Fn Tryz.prog 167 ⟨1,[.S 0,.c (.s sep_)],[(0,.sl rS elems_)],[],1,.c (.s r),[],[]⟩:=by
  unfold z167 at h
  cases hb:(decide (elems_.length≤140737488355328) && decide ((joinL sep_.data.toList (elems_.map (·.data.toList))).length≤140737488355328)) with
  | false=>rw [hb] at h;cases h
  | true =>
    rw [hb] at h
    simp only [cond_true,Option.some.injEq] at h
    subst h
    simp only [Bool.and_eq_true,decide_eq_true_eq] at hb
    exact join_fn elems_ sep_ hb.1 hb.2
theorem z95_ct (N:Nat) (l_:(List T12)) (r:ByteArray) (h:z95 N l_=some r) :
 Fn Tryz.prog 95 ⟨2,[.S 0],[(0,.sl rR12 l_)],[(1,.abs powT)],2,.c (.s r),[],[(1,.abs powT)]⟩:=by
 refine eFn func95 rfl (fun E F w=>?_)
 unfold z95 at h
 refine wa J 15 (eCut (σ:=(List ByteArray)) (fun st=>⟨[(3,.S 2)],[(1,.abs powT),(2,.own rS st true)],[(0,.sl rR12 l_)],3⟩) (fun st=>z95_k1 N st=some r) ?_ (fun j1=>?_))
 ·intro d h
  replace h:z95_k1 N d=some r:=h
  unfold z95_k1 at h
  obtain ⟨e,f,h⟩:=ob h
  refine wa J 3 (eCb (z167_ct N d (str [44,32]) _ f) [] [(0,.sl 2)] [2] (.inr ⟨rfl,trivial⟩) ?_)
  obtain ⟨g,i,h⟩:=ob h
  refine eCa i ?_
  obtain ⟨j,k,h⟩:=ob h
  refine eCa k ?_
  cases h
  exact wr J 2 func95 []
 refine wa J 1 (eLoop (σ:=(List ByteArray) × Int) (fun st=>⟨[(3,.S 2),(6,.S 0),(7,.I (l_.length:Int)),(8,.I st.2)],[(1,.abs powT),(2,.own rS st.1 true)],[(0,.sl rR12 l_)],3⟩) (fun n st=>z95_l2 N l_ n st.1 st.2) (r:=r) (fun _=>rfl) ?_ (fun ih=>?_))
 ·intro n2 ih3
  rintro ⟨l,m⟩ h
  replace h:z95_l2 N l_ (n2+1) l m=some r:=h
  unfold z95_l2 at h
  obtain ⟨K,h⟩|⟨K,h⟩:=oc' h
  ·exact wH J 5 K (wa J 2 (eSub [] (j1 l h)))
  refine wH J 5 K ?_
  obtain ⟨o,p,h⟩:=ob h
  refine wa J 6 (eIx J oO12 p ?_)
  obtain ⟨q,t,h⟩:=ob h
  refine wa J 7 (eCl (z165_ct N o _ t) [] [(0,.sl 1)] (eBs J [] oS ([q]:List ByteArray) ?_))
  obtain ⟨u,v,h⟩:=ob h
  exact eAp J rS v (wa J 7 (eSub [(2,.sl 6)] (ih3 (u,(w64 (m+1))) h)))
 exact eSub [(2,.nil)] (ih N (([]:List ByteArray),0) h)
theorem z44_ct (N:Nat) (g_:T5) (x_:T3) (r:ByteArray) (h:z44 N g_ x_=some r) :
 Fn Tryz.prog 44 ⟨6,[.a (cC5 0 1 2 3 g_),.a (cC3 4 x_)],(vV5 0 1 2 3 g_ [(4,.sl rR12 x_.Values)]),[(5,.abs powT)],6,.c (.s r),[],[(5,.abs powT)]⟩:=by
 refine eFn func44 rfl (fun E F w=>?_)
 unfold z44 at h
 refine wa J 17 (eCut (σ:=ByteArray × ByteArray) (fun st=>⟨[(2,.B 6 0),(3,.B 7 0),(5,.c (.s st.1)),(6,.c (.s st.2))],[(5,.abs powT),(6,.box (cC5 0 1 2 3 g_) 27),(7,.box (cC3 4 x_) 67)],(vV5 0 1 2 3 g_ [(4,.sl rR12 x_.Values)]),8⟩) (fun st=>z44_k1 N g_ x_ st.1 st.2=some r) ?_ (fun j1=>?_))
 ·rintro ⟨d,e⟩ h
  replace h:z44_k1 N g_ x_ d e=some r:=h
  unfold z44_k1 at h
  obtain ⟨x1,f,h⟩:=ob h
  refine wa J 6 (eCl (z93_ct N g_.Roles x_.Role _ f) [] [(0,.sl 0)] ?_)
  obtain ⟨x2,g,h⟩:=ob h
  refine wa J 1 (eCa g ?_)
  obtain ⟨x3,i,h⟩:=ob h
  refine wa J 2 (eCl (z94_ct N g_.Decls _ i) [] [(0,.sl 1)] ?_)
  obtain ⟨x4,j,h⟩:=ob h
  refine wa J 2 (eCb (z93_ct N x3 x_.Label _ j) [] [(0,.sl 8)] [8] (.inr ⟨rfl,trivial⟩) ?_)
  obtain ⟨x5,k,h⟩:=ob h
  refine eCa k ?_
  obtain ⟨x6,l,h⟩:=ob h
  refine wa J 2 (eCl (z95_ct N x_.Values _ l) [] [(0,.sl 4),(1,.sl 5)] ?_)
  obtain ⟨x7,m,h⟩:=ob h
  refine eCa m ?_
  obtain ⟨x8,o,h⟩:=ob h
  refine wa J 1 (eCa o ?_)
  obtain ⟨x9,p,h⟩:=ob h
  refine wa J 4 (eCl (z93_ct N g_.Roles x_.Peer _ p) [] [(0,.sl 0)] ?_)
  obtain ⟨q,t,h⟩:=ob h
  refine eCa t (wa J 1 (eEnd ?_))
  cases h
  exact eRet J func44 []
 obtain ⟨K,h⟩|⟨K,h⟩:=oc h
 ·exact eK K (wa J 5 (eSub [] (j1 ((str [32,115,101,110,100,115,32]),(str [32,116,111,32])) h)))
 exact eK K (wa J 2 (eSub [] (j1 ((str [32,103,101,116,115,32]),(str [32,102,114,111,109,32])) h)))
theorem z164_ct (N:Nat) (i_:Int) (r:ByteArray) (h:z164 N i_=some r):Fn Tryz.prog 164 ⟨1,[.I i_],[],[(0,.abs powT)],1,.c (.s r),[],[(0,.abs powT)]⟩:=by
 unfold z164 at h
 cases hb:(decide ((-9223372036854775808)≤i_) && decide (i_≤9223372036854775807)) with
 | false=>rw [hb] at h;cases h
 | true =>
  rw [hb] at h
  simp only [cond_true,Option.some.injEq] at h
  subst h
  simp only [Bool.and_eq_true,decide_eq_true_eq] at hb
  exact itoa_fn i_ hb.1 hb.2
theorem z170_ct (N:Nat) (decls_:(List T0)) (x_:Int) (r:T0 × T4 × Bool) (h:z170 N decls_ x_=some r) :
 Fn Tryz.prog 170 ⟨1,[.S 0,.I x_],[(0,.sl rR0 decls_)],[],4,.t [.inr (cC0 1 2 3 r.1),.inr (cC4 r.2.1),.inl (.b r.2.2)],(vV0 1 2 3 r.1 []),[]⟩:=by
 refine eFn func170 rfl (fun E F w=>?_)
 unfold z170 at h
 refine wa J 13 (eCut (σ:=Unit) (fun st=>(zz22 decls_ [(4,.B 1 0),(5,.B 2 0)])) (fun st=>z170_k1=some r) ?_ (fun j1=>?_))
 ·intro _ h
  replace h:z170_k1=some r:=h
  unfold z170_k1 at h
  cases h
  exact wr J 8 func170 [(1,.nil),(2,.nil),(3,.nil)]
 refine wa J 1 (eLoop (σ:=Int × Int) (fun st=>(zz22 decls_ [(1,.I st.1),(4,.B 1 0),(5,.B 2 0),(9,.S 0),(10,.I (decls_.length:Int)),(11,.I st.2)])) (fun n st=>z170_l2 decls_ n st.1 st.2) (r:=r) (fun _=>rfl) ?_ (fun ih=>?_))
 ·intro n2 ih3
  rintro ⟨c,d⟩ h
  replace h:z170_l2 decls_ (n2+1) c d=some r:=h
  unfold z170_l2 at h
  obtain ⟨K,h⟩|⟨K,h⟩:=oc' h
  ·exact wH J 5 K (wa J 2 (eSub [] (j1 () h)))
  refine wH J 5 K ?_
  obtain ⟨e,f,h⟩:=ob h
  refine wa J 6 (eIx J oO0 f ?_)
  obtain ⟨K,h⟩|⟨K,h⟩:=oc' h
  ·exact wH J 10 K (wa J 22 (eSub [] (ih3 ((w64 (c-(e.Fields.length:Int))),(w64 (d+1))) h)))
  refine wH J 10 K ?_
  obtain ⟨K,h⟩|⟨K,h⟩:=oc' h
  ·exact wH J 7 K (wa J 15 (eSub [] (ih3 ((w64 (c-(e.Fields.length:Int))),(w64 (d+1))) h)))
  refine wH J 7 K ?_
  obtain ⟨g,i,h⟩:=ob h
  refine wa J 7 (eIx J oO4 i (wa J 4 (eEnd ?_)))
  cases h
  exact eRet J func170 [(1,.sl 4),(2,.sl 5),(3,.sl 6)]
 exact eSub [] (ih N (x_,0) h)
theorem z100_ct (N:Nat) (decls_:(List T0)) (x_:Int) (r:ByteArray) (h:z100 N decls_ x_=some r) :
 Fn Tryz.prog 100 ⟨1,[.S 0,.I x_],[(0,.sl rR0 decls_)],[],1,.c (.s r),[],[]⟩:=by
 refine eFn func100 rfl (fun E F w=>?_)
 unfold z100 at h
 obtain ⟨x1,d,h⟩:=ob h
 refine wa J 8 (eCl (z170_ct N decls_ x_ _ d) [] [(0,.sl 0)] ?_)
 obtain ⟨x2,e,h⟩:=ob h
 refine wa J 14 (eCa e ?_)
 obtain ⟨x3,f,h⟩:=ob h
 refine wa J 2 (eCa f ?_)
 cases h
 exact wr J 2 func100 []
theorem z169_ct (N:Nat) (decls_:(List T0)) (x_:Int) (r:ByteArray) (h:z169 N decls_ x_=some r) :
 Fn Tryz.prog 169 ⟨1,[.S 0,.I x_],[(0,.sl rR0 decls_)],[],1,.c (.s r),[],[]⟩:=by
 refine eFn func169 rfl (fun E F w=>?_)
 unfold z169 at h
 obtain ⟨x1,d,h⟩:=ob h
 refine wa J 9 (eCl (z170_ct N decls_ x_ _ d) [] [(0,.sl 0)] ?_)
 obtain ⟨K,h⟩|⟨K,h⟩:=oc' h
 ·refine wH J 17 K ?_
  obtain ⟨x5,e,h⟩:=ob h
  refine wa J 6 (eCl (z100_ct N decls_ x_ _ e) [] [(0,.sl 0)] ?_)
  cases h
  exact wr J 2 func169 []
 refine wH J 17 K ?_
 obtain ⟨x2,f,h⟩:=ob h
 refine wa J 5 (eCl (z100_ct N decls_ x_ _ f) [] [(0,.sl 0)] ?_)
 obtain ⟨x3,g,h⟩:=ob h
 refine eCa g ?_
 obtain ⟨x4,i,h⟩:=ob h
 refine eCa i ?_
 cases h
 exact wr J 2 func169 []
theorem z99_ct (N:Nat) (decls_:(List T0)) (d_:T1) (r:ByteArray) (h:z99 N decls_ d_=some r) :
 Fn Tryz.prog 99 ⟨2,[.S 0,.a (cC1 d_)],[(0,.sl rR0 decls_)],[(1,.abs powT)],2,.c (.s r),[],[(1,.abs powT)]⟩:=by
 refine eFn func99 rfl (fun E F w=>?_)
 unfold z99 at h
 refine wa J 13 (eCut (σ:=Bool) (fun st=>⟨[(0,.S 0),(3,.B 2 0),(6,.O st)],[(1,.abs powT),(2,.box (cC1 d_) 150)],[(0,.sl rR0 decls_)],3⟩) (fun st=>z99_k1 N decls_ d_ st=some r) ?_ (fun j1=>?_))
 ·intro d h
  replace h:z99_k1 N decls_ d_ d=some r:=h
  unfold z99_k1 at h
  obtain ⟨K,h⟩|⟨K,h⟩:=oc h
  ·refine eK K ?_
   obtain ⟨x1,e,h⟩:=ob h
   refine wa J 5 (eCl (z164_ct N d_.C _ e) [] [(0,.sl 1)] ?_)
   obtain ⟨x2,f,h⟩:=ob h
   refine eCa f ?_
   cases h
   exact wr J 2 func99 []
  refine eK K ?_
  obtain ⟨K,h⟩|⟨K,h⟩:=oc h
  ·refine wH J 8 K ?_
   obtain ⟨x3,g,h⟩:=ob h
   refine wa J 6 (eCl (z169_ct N decls_ d_.X _ g) [] [(0,.sl 0)] ?_)
   obtain ⟨x4,i,h⟩:=ob h
   refine eCa i ?_
   obtain ⟨x5,j,h⟩:=ob h
   refine wa J 2 (eCl (z164_ct N d_.C _ j) [] [(0,.sl 1)] ?_)
   obtain ⟨x6,k,h⟩:=ob h
   refine eCa k (wa J 1 (eEnd ?_))
   cases h
   exact eRet J func99 []
  refine wH J 8 K ?_
  obtain ⟨K,h⟩|⟨K,h⟩:=oc h
  ·refine wH J 8 K ?_
   obtain ⟨x7,l,h⟩:=ob h
   refine wa J 6 (eCl (z169_ct N decls_ d_.Y _ l) [] [(0,.sl 0)] ?_)
   obtain ⟨x8,m,h⟩:=ob h
   refine eCa m ?_
   obtain ⟨x9,o,h⟩:=ob h
   refine wa J 3 (eCl (z164_ct N (w64 (0-d_.C)) _ o) [] [(0,.sl 1)] ?_)
   obtain ⟨p,q,h⟩:=ob h
   refine eCa q (wa J 1 (eEnd ?_))
   cases h
   exact eRet J func99 []
  refine wH J 8 K ?_
  obtain ⟨t,u,h⟩:=ob h
  refine wa J 8 (eCl (z169_ct N decls_ d_.X _ u) [] [(0,.sl 0)] ?_)
  obtain ⟨v,x,h⟩:=ob h
  refine eCa x ?_
  obtain ⟨y,z,h⟩:=ob h
  refine wa J 3 (eCl (z169_ct N decls_ d_.Y _ z) [] [(0,.sl 0)] ?_)
  obtain ⟨A,D,h⟩:=ob h
  refine eCa D (wa J 1 (eEnd ?_))
  obtain ⟨K,h⟩|⟨K,h⟩:=oc h
  ·refine wH J 9 K ?_
   obtain ⟨G,H,h⟩:=ob h
   refine wa J 4 (eCa H ?_)
   obtain ⟨R,T,h⟩:=ob h
   refine wa J 2 (eCl (z164_ct N d_.C _ T) [] [(0,.sl 1)] ?_)
   obtain ⟨U,Z,h⟩:=ob h
   refine eCa Z ?_
   cases h
   exact wr J 2 func99 []
  refine wH J 9 K ?_
  obtain ⟨K,h⟩|⟨K,h⟩:=oc' h
  ·refine wH J 8 K ?_
   cases h
   exact wr J 8 func99 []
  refine wH J 8 K ?_
  obtain ⟨a0,b0,h⟩:=ob h
  refine wa J 4 (eCa b0 ?_)
  obtain ⟨c0,d0,h⟩:=ob h
  refine wa J 3 (eCl (z164_ct N (w64 (0-d_.C)) _ d0) [] [(0,.sl 1)] ?_)
  obtain ⟨e0,f0,h⟩:=ob h
  refine eCa f0 ?_
  cases h
  exact wr J 2 func99 []
 obtain ⟨K,h⟩|⟨K,h⟩:=oc h
 ·exact eK K (wa J 6 (eSub [] (j1 (decide (d_.Y < 0)) h)))
 exact eK K (wa J 6 (eSub [] (j1 false h)))
theorem z46_ct (N:Nat) (decls_:(List T0)) (label_:Int) (part_:Int) (r:ByteArray) (h:z46 N decls_ label_ part_=some r) :
 Fn Tryz.prog 46 ⟨2,[.S 0,.I label_,.I part_],[(0,.sl rR0 decls_)],[(1,.abs powT)],2,.c (.s r),[],[(1,.abs powT)]⟩:=by
 refine eFn func46 rfl (fun E F w=>?_)
 unfold z46 at h
 obtain ⟨x1,d,h⟩:=ob h
 refine wa J 9 (eCl (z98_ct N decls_ label_ _ d) [] [(0,.sl 0)] ?_)
 obtain ⟨K,h⟩|⟨K,h⟩:=oc h
 ·refine wH J 11 K ?_
  cases h
  exact wr J 9 func46 []
 refine wH J 11 K ?_
 obtain ⟨K,h⟩|⟨K,h⟩:=oc h
 ·refine wH J 4 K ?_
  cases h
  exact wr J 5 func46 []
 refine wH J 4 K ?_
 obtain ⟨x2,e,h⟩:=ob h
 refine wa J 6 (eIx J oO0 e ?_)
 obtain ⟨K,h⟩|⟨K,h⟩:=oc h
 ·refine wH J 14 K ?_
  obtain ⟨x3,f,h⟩:=ob h
  refine wa J 7 (eIx J oO1 f ?_)
  obtain ⟨x4,g,h⟩:=ob h
  refine wa J 1 (eCl (z99_ct N decls_ x3 _ g) [] [(0,.sl 0),(1,.sl 1)] ?_)
  cases h
  exact wr J 2 func46 []
 refine wH J 14 K ?_
 obtain ⟨K,h⟩|⟨K,h⟩:=oc' h
 ·refine wH J 20 K ?_
  cases h
  exact wr J 6 func46 []
 refine wH J 20 K ?_
 obtain ⟨x5,i,h⟩:=ob h
 refine wa J 7 (eIx J (oP (oI .i64) (oI .i64)) i (eAq 0 rfl ?_))
 obtain ⟨x6,j,h⟩:=ob h
 refine wa J 1 (eCl (z100_ct N decls_ x5.1 _ j) [] [(0,.sl 0)] ?_)
 obtain ⟨x7,k,h⟩:=ob h
 refine eCa k ?_
 obtain ⟨x8,l,h⟩:=ob h
 refine wa J 4 (eIx J (oP (oI .i64) (oI .i64)) l (eAq 1 rfl ?_))
 obtain ⟨x9,m,h⟩:=ob h
 refine wa J 1 (eCl (z100_ct N decls_ x8.2 _ m) [] [(0,.sl 0)] ?_)
 obtain ⟨o,p,h⟩:=ob h
 refine eCa p (wa J 1 (eEnd ?_))
 cases h
 exact eRet J func46 []
theorem z88_ct (N:Nat) (g_:T5) (m_:T8) (b_:T13) (x_:T3) (r:ByteArray) (h:z88 N g_ m_ b_ x_=some r) :
 Fn Tryz.prog 88 ⟨9,[.a (cC5 0 1 2 3 g_),.a (cC8 4 5 6 m_),.a (cC13 b_),.a (cC3 7 x_)],((0,.sl rS g_.Roles)::(1,.sl rR0 g_.Decls)::(2,.sl rR2 g_.Edges)::(3,.sl rR11 g_.Timeouts)::vV8 4 5 6 m_ [(7,.sl rR12 x_.Values)]),[(8,.abs powT)],9,.c (.s r),[],[(8,.abs powT)]⟩:=by
 refine eFn func88 rfl (fun E F w=>?_)
 unfold z88 at h
 obtain ⟨K,h⟩|⟨K,h⟩:=oc h
 ·refine wH J 20 K ?_
  obtain ⟨x1,d,h⟩:=ob h
  refine wa J 7 (eCl (z93_ct N g_.Roles m_.Role _ d) [] [(0,.sl 0)] ?_)
  obtain ⟨x2,e,h⟩:=ob h
  refine eCa e ?_
  cases h
  exact wr J 2 func88 []
 refine wH J 20 K ?_
 obtain ⟨K,h⟩|⟨K,h⟩:=oc h
 ·refine wH J 6 K ?_
  cases h
  exact wr J 5 func88 []
 refine wH J 6 K ?_
 obtain ⟨K,h⟩|⟨K,h⟩:=oc h
 ·refine wH J 6 K ?_
  obtain ⟨x3,f,h⟩:=ob h
  refine wa J 6 (eCl (z164_ct N (x_.Values.length:Int) _ f) [] [(0,.sl 8)] ?_)
  obtain ⟨x4,g,h⟩:=ob h
  refine eCa g ?_
  obtain ⟨x5,i,h⟩:=ob h
  refine eCa i ?_
  obtain ⟨x6,j,h⟩:=ob h
  refine wa J 4 (eIx J oO0 j ?_)
  obtain ⟨x7,k,h⟩:=ob h
  refine wa J 3 (eCl (z164_ct N (x6.Fields.length:Int) _ k) [] [(0,.sl 8)] ?_)
  obtain ⟨x8,l,h⟩:=ob h
  refine eCa l (wa J 1 (eEnd ?_))
  cases h
  exact eRet J func88 []
 refine wH J 6 K ?_
 obtain ⟨K,h⟩|⟨K,h⟩:=oc' h
 ·refine wH J 6 K ?_
  obtain ⟨K,h⟩|⟨K,h⟩:=oc' h
  ·refine wH J 6 K ?_
   cases h
   exact wr J 7 func88 []
  refine wH J 6 K ?_
  obtain ⟨m,o,h⟩:=ob h
  refine wa J 9 (eCl (z46_ct N g_.Decls x_.Label b_.Part _ o) [] [(0,.sl 1),(1,.sl 8)] ?_)
  obtain ⟨p,q,h⟩:=ob h
  refine eCa q ?_
  cases h
  exact wr J 2 func88 []
 refine wH J 6 K ?_
 obtain ⟨x9,t,h⟩:=ob h
 refine wa J 7 (eIx J oO0 t ?_)
 obtain ⟨u,v,h⟩:=ob h
 refine wa J 4 (eIx J oO4 v (wa J 3 (eEnd ?_)))
 obtain ⟨x,y,h⟩:=ob h
 refine wa J 6 (eIx J oO12 y ?_)
 obtain ⟨z,A,h⟩:=ob h
 refine wa J 1 (eCl (z165_ct N x _ A) [] [(0,.sl 8)] ?_)
 obtain ⟨C,D,h⟩:=ob h
 refine eCa D ?_
 obtain ⟨G,H,h⟩:=ob h
 refine eCa H ?_
 obtain ⟨R,T,h⟩:=ob h
 refine wa J 2 (eCa T ?_)
 obtain ⟨U,X,h⟩:=ob h
 refine eCa X ?_
 obtain ⟨Y,Z,h⟩:=ob h
 refine wa J 3 (eCl (z164_ct N u.Sort'.Lo _ Z) [] [(0,.sl 8)] ?_)
 obtain ⟨a0,b0,h⟩:=ob h
 refine eCa b0 ?_
 obtain ⟨c0,d0,h⟩:=ob h
 refine eCa d0 ?_
 obtain ⟨e0,f0,h⟩:=ob h
 refine wa J 3 (eCl (z164_ct N u.Sort'.Hi _ f0) [] [(0,.sl 8)] ?_)
 obtain ⟨g0,i0,h⟩:=ob h
 refine eCa i0 (wa J 1 (eEnd ?_))
 cases h
 exact eRet J func88 []
theorem z41_ct (N:Nat) (g_:T5) (m_:T8) (history_:(List T3)) (r:ByteArray × Int) (h:z41 N g_ m_ history_=some r) :
 Fn Tryz.prog 41 ⟨9,[.a (cC5 0 1 2 3 g_),.a (cC8 4 5 6 m_),.S 7],((0,.sl rS g_.Roles)::(1,.sl rR0 g_.Decls)::(2,.sl rR2 g_.Edges)::(3,.sl rR11 g_.Timeouts)::vV8 4 5 6 m_ [(7,.sl rR3 history_)]),[(8,.abs powT)],9,.t [.inl (.s r.1),.inl (.I r.2)],[],[(8,.abs powT)]⟩:=by
 refine eFn func41 rfl (fun E F w=>?_)
 unfold z41 at h
 obtain ⟨x1,c,h⟩:=ob h
 refine wa J 12 (eCl (z39_ct N g_ m_ history_ _ c) [] [(0,.sl 0),(1,.sl 1),(2,.sl 2),(3,.sl 3),(4,.sl 4),(5,.sl 5),(6,.sl 6),(7,.sl 7)] ?_)
 obtain ⟨K,h⟩|⟨K,h⟩:=oc h
 ·refine wH J 15 K ?_
  cases h
  exact wr J 11 func41 []
 refine wH J 15 K ?_
 obtain ⟨K,h⟩|⟨K,h⟩:=oc h
 ·refine wH J 4 K ?_
  cases h
  exact wr J 7 func41 []
 refine wH J 4 K ?_
 obtain ⟨x2,d,h⟩:=ob h
 refine wa J 7 (eIx J oO3 d ?_)
 obtain ⟨x3,e,h⟩:=ob h
 refine wa J 8 (eCl (z44_ct N g_ x2 _ e) [] [(0,.sl 0),(1,.sl 1),(2,.sl 2),(3,.sl 3),(4,.sl 13),(5,.sl 8)] ?_)
 obtain ⟨x4,f,h⟩:=ob h
 refine eCa f ?_
 obtain ⟨x5,g,h⟩:=ob h
 refine wa J 4 (eCl (z88_ct N g_ m_ x1.1 x2 _ g) [] [(0,.sl 0),(1,.sl 1),(2,.sl 2),(3,.sl 3),(4,.sl 4),(5,.sl 5),(6,.sl 6),(7,.sl 13),(8,.sl 8)] ?_)
 obtain ⟨x6,i,h⟩:=ob h
 refine eCa i (wa J 2 (eEnd ?_))
 cases h
 exact eRet J func41 []
theorem z37_ct (N:Nat) (r:Bool) (h:z37 N=some r) :
 Fn Tryz.prog 37 ⟨1,[],[],[(0,.abs powT)],1,.O r,[],[(0,.abs powT)]⟩:=by
 refine eFn func37 rfl (fun E F w=>?_)
 unfold z37 at h
 refine wa J 14 (eBs J [] oO4 ([(⟨(str [110]),(⟨1,0,9⟩:T10)⟩:T4)]:List T4) (wa J 3 (eBs J [] oO4 ([(⟨(str [109]),(⟨1,0,9⟩:T10)⟩:T4)]:List T4) (wa J 1 (eBs J [] oO1 ([(⟨0,1,(-1)⟩:T1)]:List T1) (wa J 2 (eBs J [2,3,4] oO0 ([(⟨(str [120]),([(⟨(str [110]),(⟨1,0,9⟩:T10)⟩:T4)]:List T4),0,(⟨([]:List T1),([]:List (Int × Int))⟩:T6)⟩:T0),(⟨(str [121]),([(⟨(str [109]),(⟨1,0,9⟩:T10)⟩:T4)]:List T4),1,(⟨([(⟨0,1,(-1)⟩:T1)]:List T1),([]:List (Int × Int))⟩:T6)⟩:T0)]:List T0) (wa J 4 (eBs J [] oS ([(str [97]),(str [98])]:List ByteArray) ?_)))))))))
 obtain ⟨x1,c,h⟩:=ob h
 refine wa J 1 (eFr [5] (eIs J rR0 c (wa J 2 (eBs J [] oO2 ([(⟨0,(⟨0,1,0⟩:T7),1,false⟩:T2)]:List T2) (wa J 6 (eBs J [] oB ([false,true]:List Bool) (wa J 1 (eBs J [] oO9 ([(⟨0,true,1,0,1,false⟩:T9)]:List T9) ?_))))))))
 obtain ⟨x2,d,h⟩:=ob h
 refine wa J 6 (eCl (z83_ct N 3 _ d) [] [] (eBs J [] oO12 ([x2]:List T12) (wa J 9 (eBs J [13] oO3 ([(⟨1,false,0,0,([x2]:List T12)⟩:T3)]:List T3) ?_))))
 obtain ⟨x3,e,h⟩:=ob h
 refine eCb (z39_ct N (⟨(str [80]),([(str [97]),(str [98])]:List ByteArray),x1,2,0,1,([(⟨0,(⟨0,1,0⟩:T7),1,false⟩:T2)]:List T2),([]:List T11)⟩:T5) (⟨0,2,0,([false,true]:List Bool),([(⟨0,true,1,0,1,false⟩:T9)]:List T9),([]:List T11)⟩:T8) ([(⟨1,false,0,0,([x2]:List T12)⟩:T3)]:List T3) _ e) [] [(0,.sl 6),(1,.sl 7),(2,.sl 8),(3,.nil),(4,.sl 10),(5,.sl 11),(6,.nil),(7,.sl 15)] [6,8,10,11,15] (.inr ⟨rfl,trivial⟩) (wa J 14 (eBs J [] oO3 ([(⟨1,false,0,0,([x2]:List T12)⟩:T3)]:List T3) ?_))
 obtain ⟨x4,f,h⟩:=ob h
 refine eCl (z41_ct N (⟨(str [80]),([(str [97]),(str [98])]:List ByteArray),x1,2,0,1,([(⟨0,(⟨0,1,0⟩:T7),1,false⟩:T2)]:List T2),([]:List T11)⟩:T5) (⟨0,2,0,([false,true]:List Bool),([(⟨0,true,1,0,1,false⟩:T9)]:List T9),([]:List T11)⟩:T8) ([(⟨1,false,0,0,([x2]:List T12)⟩:T3)]:List T3) _ f) [6,8,10,11,17] [(0,.sl 6),(1,.sl 7),(2,.sl 8),(3,.nil),(4,.sl 10),(5,.sl 11),(6,.nil),(7,.sl 17),(8,.sl 0)] ?_
 obtain ⟨x5,g,h⟩:=ob h
 refine wa J 9 (eCl (z46_ct N ([(⟨(str [120]),([(⟨(str [110]),(⟨1,0,9⟩:T10)⟩:T4)]:List T4),0,(⟨([]:List T1),([]:List (Int × Int))⟩:T6)⟩:T0),(⟨(str [121]),([(⟨(str [109]),(⟨1,0,9⟩:T10)⟩:T4)]:List T4),1,(⟨([(⟨0,1,(-1)⟩:T1)]:List T1),([]:List (Int × Int))⟩:T6)⟩:T0)]:List T0) 1 0 _ g) [] [(0,.sl 5),(1,.sl 0)] ?_)
 obtain ⟨K,h⟩|⟨K,h⟩:=oc' h
 ·refine wH J 2 K ?_
  cases h
  exact wr J 21 func37 []
 refine wH J 2 K ?_
 obtain ⟨K,h⟩|⟨K,h⟩:=oc' h
 ·refine wH J 3 K ?_
  cases h
  exact wr J 18 func37 []
 refine wH J 3 K ?_
 obtain ⟨K,h⟩|⟨K,h⟩:=oc' h
 ·refine wH J 4 K ?_
  cases h
  exact wr J 14 func37 []
 refine wH J 4 K ?_
 obtain ⟨K,h⟩|⟨K,h⟩:=oc' h
 ·refine wH J 4 K ?_
  cases h
  exact wr J 10 func37 []
 refine wH J 4 K (wa J 2 (eEq ?_))
 obtain ⟨K,h⟩|⟨K,h⟩:=oc h
 ·refine wH J 2 K ?_
  cases h
  exact wr J 5 func37 []
 refine wH J 2 K ?_
 cases h
 exact wr J 5 func37 []
theorem z92_ct (N:Nat) (l_:(List T0)) (r:Bool) (h:z92 N l_=some r) :
 Fn Tryz.prog 92 ⟨1,[.S 0],[(0,.sl rR0 l_)],[],1,.O r,[],[]⟩:=by
 refine eFn func92 rfl (fun E F w=>?_)
 unfold z92 at h
 refine wa J 13 (eCut (σ:=Int) (fun st=>(zz1 l_ [(0,.S 0),(3,.I st)])) (fun st=>z92_k1 l_ st=some r) ?_ (fun j1=>?_))
 ·intro c h
  replace h:z92_k1 l_ c=some r:=h
  unfold z92_k1 at h
  obtain ⟨K,h⟩|⟨K,h⟩:=oc h
  ·refine wH J 6 K ?_
   cases h
   exact wr J 5 func92 []
  refine wH J 6 K ?_
  cases h
  exact wr J 5 func92 []
 refine wa J 1 (eLoop (σ:=Int × Int) (fun st=>(zz1 l_ [(0,.S 0),(3,.I st.1),(4,.I st.2)])) (fun n st=>z92_l2 l_ n st.1 st.2) (r:=r) (fun _=>rfl) ?_ (fun ih=>?_))
 ·intro n2 ih3
  rintro ⟨d,e⟩ h
  replace h:z92_l2 l_ (n2+1) d e=some r:=h
  unfold z92_l2 at h
  obtain ⟨K,h⟩|⟨K,h⟩:=oc' h
  ·exact wH J 8 K (wa J 2 (eSub [] (j1 d h)))
  refine wH J 8 K ?_
  obtain ⟨f,g,h⟩:=ob h
  refine wa J 8 (eIx J oO0 g ?_)
  obtain ⟨i,j,h⟩:=ob h
  refine wa J 5 (eIx J oO0 j ?_)
  obtain ⟨k,l,h⟩:=ob h
  exact wa J 7 (eIx J oO0 l (wa J 7 (eEnd (wa J 6 (eSub [] (ih3 ((w64 (d+(w64 ((w64 ((f.Fields.length:Int)+(i.Guard.Diffs.length:Int)))+(k.Guard.Equals.length:Int))))),(w64 (e+1))) h))))))
 exact eSub [] (ih N (0,0) h)
theorem z43_ct (N:Nat) (g_:T5) (r:Bool) (h:z43 N g_=some r) :
 Fn Tryz.prog 43 ⟨4,[.a (cC5 0 1 2 3 g_)],(vV5 0 1 2 3 g_ []),[],4,.O r,[],[]⟩:=by
 refine eFn func43 rfl (fun E F w=>?_)
 unfold z43 at h
 obtain ⟨K,h⟩|⟨K,h⟩:=oc' h
 ·refine wH J 11 K ?_
  cases h
  exact wr J 24 func43 []
 refine wH J 11 K ?_
 obtain ⟨K,h⟩|⟨K,h⟩:=oc' h
 ·refine wH J 6 K ?_
  cases h
  exact wr J 18 func43 []
 refine wH J 6 K ?_
 obtain ⟨K,h⟩|⟨K,h⟩:=oc' h
 ·refine wH J 6 K ?_
  cases h
  exact wr J 12 func43 []
 refine wH J 6 K ?_
 obtain ⟨K,h⟩|⟨K,h⟩:=oc' h
 ·refine wH J 6 K ?_
  cases h
  exact wr J 6 func43 []
 refine wH J 6 K ?_
 obtain ⟨x1,c,h⟩:=ob h
 refine wa J 2 (eCl (z92_ct N g_.Decls _ c) [] [(0,.sl 1)] ?_)
 cases h
 exact wr J 3 func43 []
theorem z20_ct (N:Nat) (l_:(List T12)) (r:Bool) (h:z20 N l_=some r) :
 Fn Tryz.prog 20 ⟨1,[.S 0],[(0,.sl rR12 l_)],[],1,.O r,[],[]⟩:=by
 refine eFn func20 rfl (fun E F w=>?_)
 unfold z20 at h
 refine wa J 9 (eCut (σ:=Unit) (fun st=>⟨[(0,.S 0)],[],[(0,.sl rR12 l_)],1⟩) (fun st=>z20_k1 l_=some r) ?_ (fun j1=>?_))
 ·intro _ h
  replace h:z20_k1 l_=some r:=h
  unfold z20_k1 at h
  cases h
  exact wr J 7 func20 []
 refine wa J 1 (eLoop (σ:=Int) (fun st=>⟨[(0,.S 0),(3,.I st)],[],[(0,.sl rR12 l_)],1⟩) (fun n st=>z20_l2 l_ n st) (r:=r) (fun _=>rfl) ?_ (fun ih=>?_))
 ·intro n2 ih3
  intro c h
  replace h:z20_l2 l_ (n2+1) c=some r:=h
  unfold z20_l2 at h
  obtain ⟨K,h⟩|⟨K,h⟩:=oc' h
  ·exact wH J 8 K (wa J 2 (eSub [] (j1 () h)))
  refine wH J 8 K ?_
  obtain ⟨x9,d,h⟩:=ob h
  refine wa J 8 (eIx J oO12 d ?_)
  obtain ⟨K,h⟩|⟨K,h⟩:=oc h
  ·refine wH J 5 K ?_
   cases h
   exact wr J 5 func20 []
  exact wH J 5 K (wa J 8 (eSub [] (ih3 (w64 (c+1)) h)))
 exact eSub [] (ih N 0 h)
theorem z238_ct (N:Nat) (c_:Int) (r:Bool) (h:z238 N c_=some r) :
 Fn Tryz.prog 238 ⟨0,[.c (.i .u8 c_)],[],[],0,.O r,[],[]⟩:=by
 refine eFn func238 rfl (fun E F w=>?_)
 unfold z238 at h
 obtain ⟨K,h⟩|⟨K,h⟩:=oc' h
 ·refine wH J 9 K ?_
  obtain ⟨K,h⟩|⟨K,h⟩:=oc h
  ·refine wH J 7 K ?_
   cases h
   exact wr J 6 func238 []
  refine wH J 7 K ?_
  cases h
  exact wr J 6 func238 []
 refine wH J 9 K ?_
 obtain ⟨K,h⟩|⟨K,h⟩:=oc h
 ·refine wH J 4 K ?_
  cases h
  exact wr J 9 func238 []
 refine wH J 4 K ?_
 obtain ⟨K,h⟩|⟨K,h⟩:=oc h
 ·refine wH J 3 K ?_
  cases h
  exact wr J 6 func238 []
 refine wH J 3 K ?_
 cases h
 exact wr J 6 func238 []
theorem z274_ct (N:Nat) (c_:Int) (r:Bool) (h:z274 N c_=some r) :
 Fn Tryz.prog 274 ⟨0,[.c (.i .u8 c_)],[],[],0,.O r,[],[]⟩:=by
 refine eFn func274 rfl (fun E F w=>?_)
 unfold z274 at h
 obtain ⟨K,h⟩|⟨K,h⟩:=oc h
 ·refine wH J 9 K ?_
  cases h
  exact wr J 5 func274 []
 refine wH J 9 K ?_
 cases h
 exact wr J 5 func274 []
theorem z239_ct (N:Nat) (c_:Int) (r:Bool) (h:z239 N c_=some r) :
 Fn Tryz.prog 239 ⟨0,[.c (.i .u8 c_)],[],[],0,.O r,[],[]⟩:=by
 refine eFn func239 rfl (fun E F w=>?_)
 unfold z239 at h
 obtain ⟨x1,d,h⟩:=ob h
 refine wa J 7 (eCl (z238_ct N c_ _ d) [] [] ?_)
 obtain ⟨K,h⟩|⟨K,h⟩:=oc h
 ·refine wH J 1 K ?_
  cases h
  exact wr J 9 func239 []
 refine wH J 1 K ?_
 obtain ⟨x2,e,h⟩:=ob h
 refine wa J 1 (eCl (z274_ct N c_ _ e) [] [] ?_)
 obtain ⟨K,h⟩|⟨K,h⟩:=oc h
 ·refine wH J 2 K ?_
  cases h
  exact wr J 5 func239 []
 refine wH J 2 K ?_
 cases h
 exact wr J 5 func239 []
end Gx
end
