/- Each function of the statement computes what its plain definition says, part 1. -/
import Derived.Test.YtopoacpklgcfnaaGreatDoorExplainParsedBase
import Derived.Test.YtopoacpklgcfnaaGreatDoorExplainParsedLib
set_option linter.all false
section
set_option maxRecDepth 10000
set_option maxHeartbeats 4000000
open Go Go.Kx Go.Proofs Tryz
namespace Gx
theorem z56_ct (N:Nat) (d:Int) (r:Bool) (h:z56 N d=some r) :
 Fn Tryz.prog 56 ⟨0,[.c (.i .u8 d)],[],[],0,.O r,[],[]⟩:=by
 refine eFn func56 rfl (fun E F w=>?_)
 unfold z56 at h
 refine wB' J 9 h (fun h=>?_) fun h=>?_
 ·exact wB J 7 h (fun h=>oi h▸wr J 6 func56 []) fun h=>oi h▸wr J 6 func56 []
 refine wB J 4 h (fun h=>oi h▸wr J 9 func56 []) fun h=>?_
 exact wB J 3 h (fun h=>oi h▸wr J 6 func56 []) fun h=>oi h▸wr J 6 func56 []
theorem z58_ct (N:Nat) (d:Int) (r:Bool) (h:z58 N d=some r) :
 Fn Tryz.prog 58 ⟨0,[.c (.i .u8 d)],[],[],0,.O r,[],[]⟩:=by
 refine eFn func58 rfl (fun E F w=>?_)
 unfold z58 at h
 exact wB J 9 h (fun h=>oi h▸wr J 5 func58 []) fun h=>oi h▸wr J 5 func58 []
theorem z116_ct (N:Nat) (d:Int) (r:Bool) (h:z116 N d=some r) :
 Fn Tryz.prog 116 ⟨0,[.c (.i .u8 d)],[],[],0,.O r,[],[]⟩:=by
 refine eFn func116 rfl (fun E F w=>?_)
 unfold z116 at h
 refine wO J 7 h fun e f h=>eCl (z56_ct N d _ f) [] [] ?_
 refine wB J 1 h (fun h=>oi h▸wr J 9 func116 []) fun h=>?_
 refine wO J 1 h fun g j h=>eCl (z58_ct N d _ j) [] [] ?_
 exact wB J 2 h (fun h=>oi h▸wr J 5 func116 []) fun h=>oi h▸wr J 5 func116 []
theorem z125_ct (N:Nat) (d:ByteArray) (r:Bool) (h:z125 N d=some r) :
 Fn Tryz.prog 125 ⟨0,[.c (.s d)],[],[],0,.O r,[],[]⟩:=by
 refine eFn func125 rfl (fun E F w=>?_)
 unfold z125 at h
 refine wB J 10 h (fun h=>oi h▸wr J 16 func125 []) fun h=>?_
 refine wB J 5 h (fun h=>oi h▸wr J 11 func125 []) fun h=>?_
 refine wO J 1 h fun e f h=>eSx J f ?_
 obtain ⟨g,i,h⟩:=ob h
 refine eCl (z56_ct N e _ i) [] [] ?_
 refine wB J 3 h (fun h=>oi h▸wr J 5 func125 []) fun h=>wa J 9 (eCut (σ:=Unit) (fun st=>(zz0 [])) (fun st=>z125_k1=some r) ?_ (fun j1=>?_))
 ·intro _ h
  unfold z125_k1 at h
  exact oi h▸wr J 4 func125 []
 refine wa J 1 (eLoop (σ:=Int) (fun st=>(zz0 [(0,.c (.s d)),(18,.I (d.size:Int)),(19,.I st)])) (fun n st=>z125_l2 N d n st) (r:=r) (fun _=>rfl) ?_ (fun ih=>?_))
 ·intro n2 ih3
  intro j h
  unfold z125_l2 at h
  refine wB' J 5 h (fun h=>wa J 2 (eSub [] (j1 () h))) fun h=>?_
  refine wO J 13 h fun k l h=>eSx J l ?_
  obtain ⟨m,o,h⟩:=ob h
  refine eCl (z116_ct N k _ o) [] [] ?_
  exact wB J 2 h (fun h=>oi h▸wr J 5 func125 []) fun h=>wa J 7 (eSub [] (ih3 (w64 (j+1)) h))
 exact eSub [] (ih N 0 h)
theorem z186_ct (N:Nat) (d:(List ByteArray)) (e:ByteArray) (r:Int) (h:z186 N d e=some r) :
 Fn Tryz.prog 186 ⟨1,[.S 0,.c (.s e)],[(0,.sl rS d)],[],1,.I r,[],[]⟩:=by
 refine eFn func186 rfl (fun E F w=>?_)
 unfold z186 at h
 refine wa J 11 (eCut (σ:=Unit) (fun st=>(zz2 d [])) (fun st=>z186_k1=some r) ?_ (fun j1=>?_))
 ·intro _ h
  unfold z186_k1 at h
  exact oi h▸wr J 4 func186 []
 refine wa J 1 (eLoop (σ:=Int) (fun st=>(zz2 d [(0,.S 0),(1,.c (.s e)),(7,.I (d.length:Int)),(8,.I st)])) (fun n st=>z186_l2 d e n st) (r:=r) (fun _=>rfl) ?_ (fun ih=>?_))
 ·intro n2 ih3
  intro f h
  unfold z186_l2 at h
  refine wB' J 5 h (fun h=>wa J 2 (eSub [] (j1 () h))) fun h=>?_
  refine wO J 14 h fun g i h=>eIx J oS i ?_
  exact wB J 3 h (fun h=>oi h▸wr J 6 func186 []) fun h=>wa J 7 (eSub [] (ih3 (w64 (f+1)) h))
 exact eSub [] (ih N 0 h)
theorem z123_ct (N:Nat) (d:(List ByteArray)) (e:ByteArray) (r:Bool) (h:z123 N d e=some r) :
 Fn Tryz.prog 123 ⟨1,[.S 0,.c (.s e)],[(0,.sl rS d)],[],1,.O r,[],[]⟩:=by
 refine eFn func123 rfl (fun E F w=>?_)
 unfold z123 at h
 refine wO J 8 h fun f g h=>eCl (z186_ct N d e _ g) [] [(0,.sl 0)] ?_
 exact oi h▸wr J 3 func123 []
theorem z67_ct (N:Nat) (d:ByteArray) (r:Bool) (h:z67 N d=some r) :
 Fn Tryz.prog 67 ⟨0,[.c (.s d)],[],[],0,.O r,[],[]⟩:=by
 refine eFn func67 rfl (fun E F w=>?_)
 unfold z67 at h
 refine wO J 13 h fun e f h=>eCl (z125_ct N d _ f) [] [] ?_
 refine wB' J 1 h (fun h=>oi h▸wr J 7 func67 []) fun h=>eSb [] oS ([(str [97,103,97,105,110]),(str [97,110,100]),(str [97,115]),(str [97,116]),(str [99,97,108,108]),(str [99,104,111,105,99,101]),(str [101,108,115,101]),(str [102,114,111,109]),(str [105,102]),(str [105,110,116]),(str [108,101,110]),(str [108,111,111,112]),(str [109,101,115,115,97,103,101]),(str [111,102]),(str [111,102,102,101,114]),(str [111,110]),(str [111,114]),(str [112,97,114]),(str [112,108,97,121,115]),(str [112,114,111,116,111,99,111,108]),(str [115,101,114,118,105,99,101]),(str [116,101,120,116]),(str [116,105,109,101,115]),(str [116,111]),(str [118,97,114]),(str [119,104,101,114,101]),(str [119,104,105,108,101]),(str [119,105,116,104,105,110])]:List ByteArray) ?_
 refine wO J 1 h fun g i h=>eCb (z123_ct N ([(str [97,103,97,105,110]),(str [97,110,100]),(str [97,115]),(str [97,116]),(str [99,97,108,108]),(str [99,104,111,105,99,101]),(str [101,108,115,101]),(str [102,114,111,109]),(str [105,102]),(str [105,110,116]),(str [108,101,110]),(str [108,111,111,112]),(str [109,101,115,115,97,103,101]),(str [111,102]),(str [111,102,102,101,114]),(str [111,110]),(str [111,114]),(str [112,97,114]),(str [112,108,97,121,115]),(str [112,114,111,116,111,99,111,108]),(str [115,101,114,118,105,99,101]),(str [116,101,120,116]),(str [116,105,109,101,115]),(str [116,111]),(str [118,97,114]),(str [119,104,101,114,101]),(str [119,104,105,108,101]),(str [119,105,116,104,105,110])]:List ByteArray) d _ i) [] [(0,.sl 1)] [1] (.inr ⟨rfl,trivial⟩) ?_
 exact oi h▸wr J 4 func67 []
theorem z164_ct (N:Nat) (c:T5) (r:Bool) (h:z164 N c=some r) :
 Fn Tryz.prog 164 ⟨4,[.a (cC5 0 1 2 3 c)],(vV5 0 1 2 3 c []),[],4,.O r,[],[]⟩:=by
 refine eFn func164 rfl (fun E F w=>?_)
 unfold z164 at h
 refine wO J 10 h fun d e h=>eCl (z67_ct N c.Name _ e) [] [] ?_
 refine wB J 2 h (fun h=>oi h▸wr J 17 func164 []) fun h=>?_
 refine wB J 6 h (fun h=>oi h▸wr J 11 func164 []) fun h=>?_
 refine wB J 6 h (fun h=>oi h▸wr J 5 func164 []) fun h=>wa J 10 (eCut (σ:=Unit) (fun st=>⟨[],[],(vV5 0 1 2 3 c []),5⟩) (fun st=>z164_k1=some r) ?_ (fun j1=>?_))
 ·intro _ h
  unfold z164_k1 at h
  exact oi h▸wr J 4 func164 []
 refine wa J 1 (eLoop (σ:=Int) (fun st=>(zz12 c [(1,.B 4 0),(22,.S 0),(23,.I (c.Roles.length:Int)),(24,.I st)])) (fun n st=>z164_l2 N c n st) (r:=r) (fun _=>rfl) ?_ (fun ih=>?_))
 ·intro n2 ih3
  intro f h
  unfold z164_l2 at h
  refine wB' J 5 h (fun h=>wa J 2 (eSub [] (j1 () h))) fun h=>?_
  refine wO J 7 h fun g i h=>eIx J oS i ?_
  refine wO J 7 h fun j k h=>eCl (z67_ct N g _ k) [] [] ?_
  refine wB J 2 h (fun h=>oi h▸wr J 13 func164 []) fun h=>?_
  refine wO J 3 h fun l m h=>eIs J rS m ?_
  refine wO J 1 h fun o p h=>eCl (z123_ct N l g _ p) [] [(0,.sl 6)] ?_
  exact wB J 2 h (fun h=>oi h▸wr J 5 func164 []) fun h=>wa J 7 (eSub [] (ih3 (w64 (f+1)) h))
 exact eSub [] (ih N 0 h)
theorem z165_ct (N:Nat) (c:T5) (r:Bool) (h:z165 N c=some r) :
 Fn Tryz.prog 165 ⟨4,[.a (cC5 0 1 2 3 c)],(vV5 0 1 2 3 c []),[],4,.O r,[],[]⟩:=by
 refine eFn func165 rfl (fun E F w=>?_)
 unfold z165 at h
 refine wB J 12 h (fun h=>oi h▸wr J 34 func165 []) fun h=>?_
 refine wB J 5 h (fun h=>oi h▸wr J 29 func165 []) fun h=>?_
 refine wB J 8 h (fun h=>oi h▸wr J 21 func165 []) fun h=>?_
 refine wB J 10 h (fun h=>oi h▸wr J 11 func165 []) fun h=>?_
 refine wB J 6 h (fun h=>oi h▸wr J 5 func165 []) fun h=>wa J 10 (eCut (σ:=Unit) (fun st=>⟨[],[],(vV5 0 1 2 3 c []),5⟩) (fun st=>z165_k1=some r) ?_ (fun j1=>?_))
 ·intro _ h
  unfold z165_k1 at h
  exact oi h▸wr J 4 func165 []
 refine wa J 1 (eLoop (σ:=Int) (fun st=>(zz12 c [(1,.B 4 0),(39,.S 2),(40,.I (c.Edges.length:Int)),(41,.I st)])) (fun n st=>z165_l2 c n st) (r:=r) (fun _=>rfl) ?_ (fun ih=>?_))
 ·intro n2 ih3
  intro d h
  unfold z165_l2 at h
  refine wB' J 5 h (fun h=>wa J 2 (eSub [] (j1 () h))) fun h=>?_
  refine wO J 6 h fun e f h=>eIx J oO2 f ?_
  refine wB J 26 h (fun h=>oi h▸wr J 41 func165 []) fun h=>?_
  refine wB J 10 h (fun h=>oi h▸wr J 31 func165 []) fun h=>?_
  refine wB J 11 h (fun h=>oi h▸wr J 20 func165 []) fun h=>?_
  refine wB J 7 h (fun h=>oi h▸wr J 13 func165 []) fun h=>?_
  exact wB J 8 h (fun h=>oi h▸wr J 5 func165 []) fun h=>wa J 7 (eSub [] (ih3 (w64 (d+1)) h))
 exact eSub [] (ih N 0 h)
theorem z98_ct (N:Nat) (c:(List T0)) (r:(List T4)) (h:z98 N c=some r) :
 Fn Tryz.prog 98 ⟨1,[.S 0],[(0,.sl rR0 c)],[],2,.S 1,[],[(1,.own rR4 r true)]⟩:=by
 refine eFn func98 rfl (fun E F w=>?_)
 unfold z98 at h
 refine wa J 15 (eCut (σ:=(List T4)) (fun st=>(zz19 st c [(3,.S 1)])) (fun st=>z98_k1 st=some r) ?_ (fun j1=>?_))
 ·intro d h
  unfold z98_k1 at h
  exact oi h▸wr J 5 func98 [(1,.sl 1)]
 refine wa J 1 (eLoop (σ:=(List T4) × Int) (fun st=>(zz19 st.1 c [(3,.S 1),(6,.S 0),(7,.I (c.length:Int)),(8,.I st.2)])) (fun n st=>z98_l2 c n st.1 st.2) (r:=r) (fun _=>rfl) ?_ (fun ih=>?_))
 ·intro n2 ih3
  rintro ⟨e,f⟩ h
  unfold z98_l2 at h
  refine wB' J 5 h (fun h=>wa J 2 (eSub [] (j1 e h))) fun h=>?_
  refine wO J 6 h fun g i h=>eIx J oO0 i ?_
  exact wO J 8 h fun j k h=>eAp J rR4 k (wa J 7 (eSub [(1,.sl 7)] (ih3 (j,(w64 (f+1))) h)))
 exact eSub [(1,.nil)] (ih N (([]:List T4),0) h)
theorem z256_ct (N:Nat) (d:ByteArray) (r:Int) (h:z256 N d=some r) :
 Fn Tryz.prog 256 ⟨0,[.c (.s d)],[],[],0,.I r,[],[]⟩:=by
 refine eFn func256 rfl (fun E F w=>?_)
 unfold z256 at h
 refine wa J 8 (eRn J (fun bk1=>wa J 1 (eCut (σ:=Int × Nat) (fun st=>(zz3 (itR bk1 d st.2) [(2,.I st.1)])) (fun st=>z256_k1 st.1 st.2=some r) ?_ (fun j1=>?_))))
 ·rintro ⟨e,vi0_1⟩ h
  unfold z256_k1 at h
  exact oi h▸wr J 5 func256 []
 refine wa J 1 (eLoop (σ:=Int × Nat) (fun st=>(zz3 (itR bk1 d st.2) [(2,.I st.1),(4,.c (.v (.pointer (some ⟨bk1,0,none⟩))))])) (fun n st=>z256_l2 d n st.1 st.2) (r:=r) (fun _=>rfl) ?_ (fun ih=>?_))
 ·intro n2 ih3
  rintro ⟨f,vi0_3⟩ h
  unfold z256_l2 at h
  obtain ⟨K,h⟩|⟨K,h⟩:=oc h
  ·exact wa J 2 (eNt bk1 0 K (wa J 12 (eSub [] (ih3 ((w64 (f+1)),(vi0_3+(Utf8.decode d vi0_3).2)) h))))
  exact wa J 2 (eNf bk1 0 K (wa J 5 (eSub [] (j1 (f,vi0_3) h))))
 exact eSub [] (ih N (0,(0:Nat)) h)
theorem z267_ct (N:Nat) (d:ByteArray) (r:Int × Int) (h:z267 N d=some r) :
 Fn Tryz.prog 267 ⟨0,[.c (.s d)],[],[],0,.t [.inl (.i .i32 r.1),.inl (.I r.2)],[],[]⟩:=by
 refine eFn func267 rfl (fun E F w=>?_)
 unfold z267 at h
 refine wB J 17 h (fun h=>oi h▸wr J 6 func267 []) fun h=>?_
 refine wO J 5 h fun e f h=>eSx J f ?_
 cases h
theorem z257_ct (N:Nat) (d:ByteArray) (r:Int × Int) (h:z257 N d=some r) :
 Fn Tryz.prog 257 ⟨0,[.c (.s d)],[],[],0,.t [.inl (.i .i32 r.1),.inl (.I r.2)],[],[]⟩:=by
 refine eFn func257 rfl (fun E F w=>?_)
 unfold z257 at h
 refine wB' J 11 h (fun h=>?_) fun h=>?_
 ·refine wO J 8 h fun e f h=>eCl (z267_ct N d _ f) [] [] ?_
  exact oi h▸wr J 6 func257 []
 refine wO J 1 h fun g j h=>eSx J j ?_
 refine wB J 3 h (fun h=>?_) fun h=>?_
 ·refine wO J 4 h fun k l h=>eSx J l ?_
  exact oi h▸wr J 4 func257 []
 refine wO J 3 h fun m o h=>eCl (z267_ct N d _ o) [] [] ?_
 exact oi h▸wr J 6 func257 []
theorem z235_ct (N:Nat) (d:ByteArray) (e:Int) (r:(List ByteArray)) (h:z235 N d e=some r) :
 Fn Tryz.prog 235 ⟨0,[.c (.s d),.I e],[],[],1,.S 0,[],[(0,.own rS r true)]⟩:=by
 refine eFn func235 rfl (fun E F w=>?_)
 unfold z235 at h
 refine wO J 7 h fun f g h=>eCl (z256_ct N d _ g) [] [] ?_
 refine wa J 8 (eCut (σ:=Bool) (fun st=>(zz0 [(0,.c (.s d)),(1,.I e),(5,.I f),(18,.O st)])) (fun st=>z235_k4 N d e f st=some r) ?_ (fun j1=>?_))
 ·intro i h
  unfold z235_k4 at h
  refine eCut (σ:=Int) (fun st=>(zz0 [(0,.c (.s d)),(1,.I st)])) (fun st=>z235_k3 N d st=some r) ?_ (fun j2=>?_)
  ·intro j h
   unfold z235_k3 at h
   refine wO J 3 h fun k l h=>eMk J oS l (wa J 7 (eCut (σ:=ByteArray × (List ByteArray)) (fun st=>(zz13 st.2 [(0,.c (.s st.1)),(1,.I j),(6,.S 0)])) (fun st=>z235_k1 j st.1 st.2=some r) ?_ (fun j3=>?_)))
   ·rintro ⟨m,o⟩ h
    unfold z235_k1 at h
    refine wB' J 6 h (fun h=>oi h▸wr J 7 func235 [(0,.sl 0)]) fun h=>?_
    refine wO J 6 h fun p q h=>eIo J rS q (eSt J [] oS m q ?_)
    exact oi h▸wr J 6 func235 [(0,.sl 0)]
   refine wa J 1 (eLoop (σ:=ByteArray × (List ByteArray) × Int) (fun st=>(zz13 st.2.1 [(0,.c (.s st.1)),(1,.I j),(6,.S 0),(7,.I st.2.2)])) (fun n st=>z235_l2 N j n st.1 st.2.1 st.2.2) (r:=r) (fun _=>rfl) ?_ (fun ih=>?_))
   ·intro n2 ih5
    rintro ⟨t,u,v⟩ h
    unfold z235_l2 at h
    refine wB' J 8 h (fun h=>wa J 2 (eSub [] (j3 (t,u) h))) fun h=>?_
    refine wO J 7 h fun x y h=>eCl (z257_ct N t _ y) [] [] ?_
    refine wO J 12 h fun z A h=>eSs J A ?_
    obtain ⟨C,D,h⟩:=ob h
    refine eIo J rS D (eSt J [] oS z D ?_)
    exact wO J 4 h fun G H h=>eSs J H (wa J 8 (eSub [] (ih5 (G,(setL' u v z),(w64 (v+1))) h)))
   exact eSub [] (ih N (d,k,0) h)
  exact eB h (fun h=>wa J 5 (eSub [] (j2 f h))) fun h=>wa J 2 (eSub [] (j2 e h))
 exact eB h (fun h=>wa J 5 (eSub [] (j1 true h))) fun h=>wa J 5 (eSub [] (j1 (decide (e > f)) h))
theorem z181_ct (N:Nat) (d:ByteArray) (e:Int) (r:Int) (h:z181 N d e=some r) :
 Fn Tryz.prog 181 ⟨0,[.c (.s d),.c (.i .u8 e)],[],[],0,.I r,[],[]⟩:=by
 refine eFn func181 rfl (fun E F w=>?_)
 unfold z181 at h
 refine wa J 8 (eEx (ext_indexByte func224 (by kernel_rfl) (by kernel_rfl) (by kernel_rfl) (by kernel_rfl) d e) (fun _=>trivial) ?_)
 exact oi h▸wr J 2 func181 []
theorem z225_ct (N:Nat) (d:ByteArray) (e:ByteArray) (r:Int) (h:z225 N d e=some r) :
 Fn Tryz.prog 225 ⟨0,[.c (.s d),.c (.s e)],[],[],0,.I r,[],[]⟩:=by
 refine eFn func225 rfl (fun E F w=>?_)
 unfold z225 at h
 refine wB J 17 h (fun h=>oi h▸wr J 11 func225 []) fun h=>?_
 refine wB J 6 h (fun h=>oi h▸wr J 5 func225 []) fun h=>?_
 refine wB J 7 h (fun h=>?_) fun h=>?_
 ·refine wO J 5 h fun f g h=>eSx J g ?_
  obtain ⟨i,j,h⟩:=ob h
  refine eCl (z181_ct N d f _ j) [] [] ?_
  exact oi h▸wr J 2 func225 []
 refine wB J 9 h (fun h=>oi h▸wr J 5 func225 []) fun h=>?_
 cases h
theorem z182_ct (N:Nat) (d:ByteArray) (e:ByteArray) (r:Int) (h:z182 N d e=some r) :
 Fn Tryz.prog 182 ⟨0,[.c (.s d),.c (.s e)],[],[],0,.I r,[],[]⟩:=by
 refine eFn func182 rfl (fun E F w=>?_)
 unfold z182 at h
 refine wO J 8 h fun f g h=>eCl (z225_ct N d e _ g) [] [] ?_
 exact oi h▸wr J 2 func182 []
theorem z236_ct (N:Nat) (d:ByteArray) (e:ByteArray) (r:Int) (h:z236 N d e=some r) :
 Fn Tryz.prog 236 ⟨0,[.c (.s d),.c (.s e)],[],[],0,.I r,[],[]⟩:=by
 refine eFn func236 rfl (fun E F w=>?_)
 unfold z236 at h
 refine wB J 11 h (fun h=>?_) fun h=>?_
 ·refine wO J 4 h fun f g h=>eCl (z256_ct N d _ g) [] [] ?_
  exact oi h▸wr J 3 func236 []
 refine wB J 9 h (fun h=>?_) fun h=>wa J 7 (eLoop (σ:=ByteArray × Int) (fun st=>(zz0 [(0,.c (.s st.1)),(1,.c (.s e)),(5,.I st.2)])) (fun n st=>z236_l1 N e n st.1 st.2) (r:=r) (fun _=>rfl) ?_ (fun ih=>?_))
 ·refine wO J 5 h fun i j h=>eSx J j (eEx (ext_countByte func258 (by kernel_rfl) (by kernel_rfl) (by kernel_rfl) (by kernel_rfl) d i) (fun _=>trivial) ?_)
  exact oi h▸wr J 2 func236 []
 ·intro n1 ih1
  rintro ⟨k,l⟩ h
  unfold z236_l1 at h
  refine wO J 5 h fun m o h=>eCl (z182_ct N k e _ o) [] [] ?_
  refine wB J 8 h (fun h=>oi h▸wr J 6 func236 []) fun h=>?_
  exact wO J 14 h fun p q h=>eSs J q (wa J 3 (eSub [] (ih1 (p,(w64 (l+1))) h)))
 exact eSub [] (ih N (d,0) h)
theorem z216_ct (N:Nat) (d:ByteArray) (e:ByteArray) (f:Int) (g:Int) (r:(List ByteArray)) (h:z216 N d e f g=some r) :
 Fn Tryz.prog 216 ⟨0,[.c (.s d),.c (.s e),.I f,.I g],[],[],1,.S 0,[],[(0,.own rS r true)]⟩:=by
 refine eFn func216 rfl (fun E F w=>?_)
 unfold z216 at h
 refine wB J 10 h (fun h=>oi h▸wr J 5 func216 [(0,.nil)]) fun h=>?_
 refine wB J 8 h (fun h=>?_) fun h=>wa J 8 (eCut (σ:=Int) (fun st=>(zz0 [(0,.c (.s d)),(1,.c (.s e)),(2,.I f),(3,.I st)])) (fun st=>z216_k3 N d e f st=some r) ?_ (fun j1=>?_))
 ·refine wO J 5 h fun i j h=>eCl (z235_ct N d g _ j) [] [] ?_
  exact oi h▸wr J 2 func216 [(0,.sl 0)]
 ·intro k h
  unfold z216_k3 at h
  refine wO J 12 h fun l m h=>eMk J oS m (wa J 13 (eCut (σ:=ByteArray × (List ByteArray) × Int) (fun st=>(zz13 st.2.1 [(0,.c (.s st.1)),(9,.S 0),(10,.I st.2.2)])) (fun st=>z216_k1 st.1 st.2.1 st.2.2=some r) ?_ (fun j2=>?_)))
  ·rintro ⟨o,p,q⟩ h
   unfold z216_k1 at h
   refine wO J 5 h fun t u h=>eIo J rS u (eSt J [] oS o u ?_)
   refine wO J 6 h fun v x h=>eVw J rS x (wa J 2 (eSl rS 2 x ?_))
   cases h
   exact eRet J func216 [(0,.sl 2)]
  refine wa J 1 (eLoop (σ:=ByteArray × (List ByteArray) × Int) (fun st=>(zz13 st.2.1 [(0,.c (.s st.1)),(1,.c (.s e)),(2,.I f),(3,.I (w64 ((minI k (w64 ((d.size:Int)+1)))-1))),(9,.S 0),(10,.I st.2.2)])) (fun n st=>z216_l2 N d e f k n st.1 st.2.1 st.2.2) (r:=r) (fun _=>rfl) ?_ (fun ih=>?_))
  ·intro n2 ih4
   rintro ⟨y,z,A⟩ h
   unfold z216_l2 at h
   refine wB' J 7 h (fun h=>wa J 2 (eSub [] (j2 (y,z,A) h))) fun h=>?_
   refine wO J 7 h fun C D h=>eCl (z182_ct N y e _ D) [] [] ?_
   refine wB J 8 h (fun h=>wa J 2 (eSub [] (j2 (y,z,A) h))) fun h=>?_
   refine wO J 10 h fun G H h=>eSs J H ?_
   obtain ⟨R,T,h⟩:=ob h
   refine eIo J rS T (eSt J [] oS G T ?_)
   exact wO J 8 h fun U X h=>eSs J X (wa J 8 (eSub [] (ih4 (U,(setL' z A G),(w64 (A+1))) h)))
  exact eSub [] (ih N (d,l,0) h)
 refine eB' h (fun h=>wa J 2 (eSub [] (j1 g h))) fun h=>?_
 exact wO J 4 h fun Y Z h=>eCl (z236_ct N d e _ Z) [] [] (wa J 3 (eSub [] (j1 (w64 (Y+1)) h)))
theorem z172_ct (N:Nat) (d:ByteArray) (e:ByteArray) (r:(List ByteArray)) (h:z172 N d e=some r) :
 Fn Tryz.prog 172 ⟨0,[.c (.s d),.c (.s e)],[],[],1,.S 0,[],[(0,.own rS r true)]⟩:=by
 refine eFn func172 rfl (fun E F w=>?_)
 unfold z172 at h
 refine wO J 8 h fun f g h=>eCl (z216_ct N d e 0 (-1) _ g) [] [] ?_
 exact oi h▸wr J 2 func172 [(0,.sl 0)]
theorem z173_ct (N:Nat) (d:ByteArray) (r:Bool) (h:z173 N d=some r) :
 Fn Tryz.prog 173 ⟨0,[.c (.s d)],[],[],0,.O r,[],[]⟩:=by
 refine eFn func173 rfl (fun E F w=>?_)
 unfold z173 at h
 refine wO J 7 h fun e f h=>eCl (z67_ct N d _ f) [] [] ?_
 exact oi h▸wr J 3 func173 []
theorem z189_0_ct (N:Nat) (d:(List ByteArray)) (r:Int) (h:z189_0 N d=some r) :
 Fn Tryz.prog 189 ⟨1,[.S 0,.c (.cl 173 [] [])],[(0,.sl rS d)],[],1,.I r,[],[]⟩:=by
 refine eFn func189 rfl (fun E F w=>?_)
 unfold z189_0 at h
 refine wa J 11 (eCut (σ:=Unit) (fun st=>(zz2 d [])) (fun st=>z189_0_k1=some r) ?_ (fun j1=>?_))
 ·intro _ h
  unfold z189_0_k1 at h
  exact oi h▸wr J 4 func189 []
 refine wa J 1 (eLoop (σ:=Int) (fun st=>(zz2 d [(0,.S 0),(1,.c (.cl 173 [] [])),(7,.I (d.length:Int)),(8,.I st)])) (fun n st=>z189_0_l2 N d n st) (r:=r) (fun _=>rfl) ?_ (fun ih=>?_))
 ·intro n2 ih3
  intro e h
  unfold z189_0_l2 at h
  refine wB' J 5 h (fun h=>wa J 2 (eSub [] (j1 () h))) fun h=>?_
  refine wO J 14 h fun f g h=>eIx J oS g ?_
  refine wO J 1 h fun i j h=>eCl (z173_ct N f _ j) [] [] ?_
  exact wB J 1 h (fun h=>oi h▸wr J 6 func189 []) fun h=>wa J 7 (eSub [] (ih3 (w64 (e+1)) h))
 exact eSub [] (ih N 0 h)
theorem z126_1_ct (N:Nat) (d:(List ByteArray)) (r:Bool) (h:z126_1 N d=some r) :
 Fn Tryz.prog 126 ⟨1,[.S 0,.c (.cl 173 [] [])],[(0,.sl rS d)],[],1,.O r,[],[]⟩:=by
 refine eFn func126 rfl (fun E F w=>?_)
 unfold z126_1 at h
 refine wO J 8 h fun e f h=>eCl (z189_0_ct N d _ f) [] [(0,.sl 0)] ?_
 exact oi h▸wr J 3 func126 []
theorem z99_ct (N:Nat) (d:ByteArray) (r:Bool) (h:z99 N d=some r) :
 Fn Tryz.prog 99 ⟨0,[.c (.s d)],[],[],0,.O r,[],[]⟩:=by
 refine eFn func99 rfl (fun E F w=>?_)
 unfold z99 at h
 refine wB' J 10 h (fun h=>oi h▸wr J 7 func99 []) fun h=>?_
 refine wO J 1 h fun e f h=>eCl (z172_ct N d (str [46]) _ f) [] [] ?_
 obtain ⟨g,i,h⟩:=ob h
 refine eCb (z126_1_ct N e _ i) [] [(0,.sl 0)] [0] (.inr ⟨rfl,trivial⟩) ?_
 exact oi h▸wr J 4 func99 []
theorem z101_2_ct (N:Nat) (c:T0) (d:T0) (r:Bool) (h:z101_2 N c d=some r) :
 Fn Tryz.prog 101 ⟨7,[.a (cC0 0 1 2 c),.B 3 0],(vV0 0 1 2 c (vV0 4 5 6 d [])),[(3,.box (cC0 4 5 6 d) 31)],7,.O r,[],[(3,.box (cC0 4 5 6 d) 31)]⟩:=by
 refine eFn func101 rfl (fun E F w=>?_)
 unfold z101_2 at h
 exact oi h▸wr J 14 func101 []
theorem z174_3_ct (N:Nat) (d:(List T0)) (e:T0) (r:Int) (h:z174_3 N d e=some r) :
 Fn Tryz.prog 174 ⟨5,[.S 0,.c (.cl 101 [] [1])],((0,.sl rR0 d)::vV0 2 3 4 e []),[(1,.box (cC0 2 3 4 e) 31)],5,.I r,[],[(1,.box (cC0 2 3 4 e) 31)]⟩:=by
 refine eFn func174 rfl (fun E F w=>?_)
 unfold z174_3 at h
 refine wa J 11 (eCut (σ:=Unit) (fun st=>⟨[],[(1,.box (cC0 2 3 4 e) 31)],((0,.sl rR0 d)::vV0 2 3 4 e []),5⟩) (fun st=>z174_3_k1=some r) ?_ (fun j1=>?_))
 ·intro _ h
  unfold z174_3_k1 at h
  exact oi h▸wr J 4 func174 []
 refine wa J 1 (eLoop (σ:=Int) (fun st=>⟨[(0,.S 0),(1,.c (.cl 101 [] [1])),(7,.I (d.length:Int)),(8,.I st)],[(1,.box (cC0 2 3 4 e) 31)],((0,.sl rR0 d)::vV0 2 3 4 e []),5⟩) (fun n st=>z174_3_l2 N d e n st) (r:=r) (fun _=>rfl) ?_ (fun ih=>?_))
 ·intro n2 ih3
  intro f h
  unfold z174_3_l2 at h
  refine wB' J 5 h (fun h=>wa J 2 (eSub [] (j1 () h))) fun h=>?_
  refine wO J 14 h fun g i h=>eIx J oO0 i ?_
  refine wO J 1 h fun j k h=>eCl (z101_2_ct N g e _ k) [] [(0,.sl 6),(1,.sl 7),(2,.sl 8),(3,.bp 1 0),(4,.sl 2),(5,.sl 3),(6,.sl 4)] ?_
  exact wB J 1 h (fun h=>oi h▸wr J 6 func174 []) fun h=>wa J 7 (eSub [] (ih3 (w64 (f+1)) h))
 exact eSub [] (ih N 0 h)
theorem z100_4_ct (N:Nat) (d:(List T0)) (e:T0) (r:Bool) (h:z100_4 N d e=some r) :
 Fn Tryz.prog 100 ⟨5,[.S 0,.c (.cl 101 [] [1])],((0,.sl rR0 d)::vV0 2 3 4 e []),[(1,.box (cC0 2 3 4 e) 31)],5,.O r,[],[(1,.box (cC0 2 3 4 e) 31)]⟩:=by
 refine eFn func100 rfl (fun E F w=>?_)
 unfold z100_4 at h
 refine wO J 8 h fun f g h=>eCl (z174_3_ct N d e _ g) [] [(0,.sl 0),(1,.bp 1 0),(2,.sl 2),(3,.sl 3),(4,.sl 4)] ?_
 exact oi h▸wr J 3 func100 []
theorem z102_ct (N:Nat) (c:T10) (r:Bool) (h:z102 N c=some r) :
 Fn Tryz.prog 102 ⟨0,[.a (cC10 c)],[],[],0,.O r,[],[]⟩:=by
 refine eFn func102 rfl (fun E F w=>?_)
 unfold z102 at h
 refine wB J 17 h (fun h=>?_) fun h=>?_
 ·refine wB' J 7 h (fun h=>oi h▸wr J 13 func102 []) fun h=>?_
  exact wB J 7 h (fun h=>oi h▸wr J 6 func102 []) fun h=>oi h▸wr J 6 func102 []
 refine wB' J 6 h (fun h=>oi h▸wr J 7 func102 []) fun h=>?_
 refine wB' J 7 h (fun h=>oi h▸wr J 13 func102 []) fun h=>?_
 exact wB J 7 h (fun h=>oi h▸wr J 6 func102 []) fun h=>oi h▸wr J 6 func102 []
theorem z104_5_ct (N:Nat) (c:T4) (d:T4) (r:Bool) (h:z104_5 N c d=some r) :
 Fn Tryz.prog 104 ⟨1,[.a (cC4 c),.B 0 0],[],[(0,.box (cC4 d) 49)],1,.O r,[],[(0,.box (cC4 d) 49)]⟩:=by
 refine eFn func104 rfl (fun E F w=>?_)
 unfold z104_5 at h
 exact oi h▸wr J 14 func104 []
theorem z175_6_ct (N:Nat) (d:(List T4)) (e:T4) (r:Int) (h:z175_6 N d e=some r) :
 Fn Tryz.prog 175 ⟨2,[.S 0,.c (.cl 104 [] [1])],[(0,.sl rR4 d)],[(1,.box (cC4 e) 49)],2,.I r,[],[(1,.box (cC4 e) 49)]⟩:=by
 refine eFn func175 rfl (fun E F w=>?_)
 unfold z175_6 at h
 refine wa J 11 (eCut (σ:=Unit) (fun st=>⟨[],[(1,.box (cC4 e) 49)],[(0,.sl rR4 d)],2⟩) (fun st=>z175_6_k1=some r) ?_ (fun j1=>?_))
 ·intro _ h
  unfold z175_6_k1 at h
  exact oi h▸wr J 4 func175 []
 refine wa J 1 (eLoop (σ:=Int) (fun st=>⟨[(0,.S 0),(1,.c (.cl 104 [] [1])),(7,.I (d.length:Int)),(8,.I st)],[(1,.box (cC4 e) 49)],[(0,.sl rR4 d)],2⟩) (fun n st=>z175_6_l2 N d e n st) (r:=r) (fun _=>rfl) ?_ (fun ih=>?_))
 ·intro n2 ih3
  intro f h
  unfold z175_6_l2 at h
  refine wB' J 5 h (fun h=>wa J 2 (eSub [] (j1 () h))) fun h=>?_
  refine wO J 14 h fun g i h=>eIx J oO4 i ?_
  refine wO J 1 h fun j k h=>eCl (z104_5_ct N g e _ k) [] [(0,.bp 1 0)] ?_
  exact wB J 1 h (fun h=>oi h▸wr J 6 func175 []) fun h=>wa J 7 (eSub [] (ih3 (w64 (f+1)) h))
 exact eSub [] (ih N 0 h)
theorem z103_7_ct (N:Nat) (d:(List T4)) (e:T4) (r:Bool) (h:z103_7 N d e=some r) :
 Fn Tryz.prog 103 ⟨2,[.S 0,.c (.cl 104 [] [1])],[(0,.sl rR4 d)],[(1,.box (cC4 e) 49)],2,.O r,[],[(1,.box (cC4 e) 49)]⟩:=by
 refine eFn func103 rfl (fun E F w=>?_)
 unfold z103_7 at h
 refine wO J 8 h fun f g h=>eCl (z175_6_ct N d e _ g) [] [(0,.sl 0),(1,.bp 1 0)] ?_
 exact oi h▸wr J 3 func103 []
theorem z105_ct (N:Nat) (c:T6) (d:(List T4)) (r:Bool) (h:z105 N c d=some r) :
 Fn Tryz.prog 105 ⟨3,[.a [.sl 0,.sl 1],.S 2],[(0,.sl rR1 c.Diffs),(1,.sl (rP (rI .i64) (rI .i64)) c.Equals),(2,.sl rR4 d)],[],3,.O r,[],[]⟩:=by
 refine eFn func105 rfl (fun E F w=>?_)
 unfold z105 at h
 refine wB J 13 h (fun h=>oi h▸wr J 11 func105 []) fun h=>?_
 refine wB J 6 h (fun h=>oi h▸wr J 5 func105 []) fun h=>wa J 10 (eCut (σ:=Unit) (fun st=>(zz23 c.Diffs c.Equals d [(1,.S 2),(2,.B 3 0)])) (fun st=>z105_k5 N c d=some r) ?_ (fun j1=>?_))
 ·intro _ h
  unfold z105_k5 at h
  refine wa J 8 (eCut (σ:=Unit) (fun st=>⟨[],[],[(0,.sl rR1 c.Diffs),(1,.sl (rP (rI .i64) (rI .i64)) c.Equals),(2,.sl rR4 d)],4⟩) (fun st=>z105_k1=some r) ?_ (fun j3=>?_))
  ·intro _ h
   unfold z105_k1 at h
   exact oi h▸wr J 4 func105 []
  refine wa J 1 (eLoop (σ:=Int) (fun st=>⟨[(1,.S 2),(56,.S 1),(57,.I (c.Equals.length:Int)),(58,.I st)],[],[(0,.sl rR1 c.Diffs),(1,.sl (rP (rI .i64) (rI .i64)) c.Equals),(2,.sl rR4 d)],4⟩) (fun n st=>z105_l2 N c d n st) (r:=r) (fun _=>rfl) ?_ (fun ih=>?_))
  ·intro n13 ih14
   intro e h
   unfold z105_l2 at h
   refine wB' J 5 h (fun h=>wa J 2 (eSub [] (j3 () h))) fun h=>?_
   refine wO J 6 h fun f g h=>eIx J (oP (oI .i64) (oI .i64)) g (wa J 9 (eCut (σ:=Unit) (fun st=>⟨[(1,.S 2),(56,.S 1),(57,.I (c.Equals.length:Int)),(58,.I e)],[],[(0,.sl rR1 c.Diffs),(1,.sl (rP (rI .i64) (rI .i64)) c.Equals),(2,.sl rR4 d)],6⟩) (fun st=>z105_k3 e (z105_l2 N c d n13)=some r) ?_ (fun j21=>?_)))
   ·intro _ h
    unfold z105_k3 at h
    exact wa J 5 (eSub [] (ih14 (w64 (e+1)) h))
   refine wa J 1 (eLoop (σ:=Int) (fun st=>⟨[(1,.S 2),(56,.S 1),(57,.I (c.Equals.length:Int)),(58,.I e),(62,.a [.I f.1,.I f.2]),(63,.I st)],[],[(0,.sl rR1 c.Diffs),(1,.sl (rP (rI .i64) (rI .i64)) c.Equals),(2,.sl rR4 d)],6⟩) (fun n st=>z105_l4 d e (z105_l2 N c d n13) f n st) (r:=r) (fun _=>rfl) ?_ (fun ih=>?_))
   ·intro n15 ih23
    intro j h
    unfold z105_l4 at h
    refine wB' J 5 h (fun h=>wa J 2 (eSub [] (j21 () h))) fun h=>?_
    refine wO J 6 h fun k l h=>eAx (SC.i .i64) ([f.1,f.2]:List Int) l ?_
    refine wB J 7 h (fun h=>oi h▸wr J 20 func105 []) fun h=>?_
    refine wB J 6 h (fun h=>oi h▸wr J 14 func105 []) fun h=>?_
    refine wO J 2 h fun m o h=>eIx J oO4 o ?_
    exact wB J 6 h (fun h=>oi h▸wr J 5 func105 []) fun h=>wa J 7 (eSub [] (ih23 (w64 (j+1)) h))
   exact eSub [] (ih N 0 h)
  exact eSub [] (ih N 0 h)
 refine wa J 1 (eLoop (σ:=Int) (fun st=>(zz23 c.Diffs c.Equals d [(1,.S 2),(2,.B 3 0),(22,.S 0),(23,.I (c.Diffs.length:Int)),(24,.I st)])) (fun n st=>z105_l6 N c d n st) (r:=r) (fun _=>rfl) ?_ (fun ih=>?_))
 ·intro n16 ih24
  intro p h
  unfold z105_l6 at h
  refine wB' J 5 h (fun h=>wa J 2 (eSub [] (j1 () h))) fun h=>?_
  refine wO J 6 h fun q s h=>eIx J oO1 s ?_
  refine wB J 13 h (fun h=>oi h▸wr J 25 func105 []) fun h=>?_
  refine wB J 10 h (fun h=>oi h▸wr J 15 func105 []) fun h=>?_
  refine wB J 5 h (fun h=>oi h▸wr J 10 func105 []) fun h=>?_
  exact wB J 5 h (fun h=>oi h▸wr J 5 func105 []) fun h=>wa J 7 (eSub [] (ih24 (w64 (p+1)) h))
 exact eSub [] (ih N 0 h)
theorem z46_ct (N:Nat) (c:(List T0)) (r:Bool) (h:z46 N c=some r) :
 Fn Tryz.prog 46 ⟨1,[.S 0],[(0,.sl rR0 c)],[],1,.O r,[],[]⟩:=by
 refine eFn func46 rfl (fun E F w=>?_)
 unfold z46 at h
 refine wB J 11 h (fun h=>oi h▸wr J 5 func46 []) fun h=>?_
 refine wO J 5 h fun d e h=>eCl (z98_ct N c _ e) [] [(0,.sl 0)] ?_
 refine wB J 9 h (fun h=>oi h▸wr J 5 func46 []) fun h=>wa J 13 (eCut (σ:=Unit) (fun st=>⟨[],[],[(0,.sl rR0 c)],2⟩) (fun st=>z46_k1=some r) ?_ (fun j1=>?_))
 ·intro _ h
  unfold z46_k1 at h
  exact oi h▸wr J 4 func46 []
 refine wa J 1 (eLoop (σ:=Int × Int) (fun st=>(zz19 d c [(0,.S 0),(3,.S 1),(4,.I st.1),(17,.S 0),(18,.I (c.length:Int)),(19,.I st.2)])) (fun n st=>z46_l2 N c d n st.1 st.2) (r:=r) (fun _=>rfl) ?_ (fun ih=>?_))
 ·intro n12 ih12
  rintro ⟨f,g⟩ h
  unfold z46_l2 at h
  refine wB' J 5 h (fun h=>wa J 2 (eSub [] (j1 () h))) fun h=>?_
  refine wO J 7 h fun i j h=>eIx J oO0 j ?_
  refine wO J 10 h fun k l h=>eCl (z99_ct N i.Name _ l) [] [] ?_
  refine wB J 2 h (fun h=>oi h▸wr J 24 func46 []) fun h=>?_
  refine wB J 6 h (fun h=>oi h▸wr J 18 func46 []) fun h=>?_
  refine wB J 6 h (fun h=>oi h▸wr J 12 func46 []) fun h=>?_
  refine wO J 2 h fun m o h=>eIs J rR0 o ?_
  refine wO J 1 h fun p q h=>eCl (z100_4_ct N m i _ q) [] [(0,.sl 7),(1,.bp 6 0),(2,.sl 3),(3,.sl 4),(4,.sl 5)] ?_
  refine wB J 2 h (fun h=>oi h▸wr J 5 func46 []) fun h=>wa J 19 (eCut (σ:=Unit) (fun st=>(zz24 d i c [(0,.S 0),(3,.S 1),(4,.I (w64 (f+(i.Fields.length:Int)))),(6,.B 6 0),(17,.S 0),(18,.I (c.length:Int)),(19,.I g)])) (fun st=>z46_k3 N d f g (z46_l2 N c d n12) i=some r) ?_ (fun j19=>?_))
  ·intro _ h
   unfold z46_k3 at h
   refine wO J 5 h fun s t h=>eCb (z105_ct N i.Guard d _ t) [] [(0,.sl 4),(1,.sl 5),(2,.sl 1)] [1] (.inr ⟨rfl,trivial⟩) ?_
   exact wB J 2 h (fun h=>oi h▸wr J 5 func46 []) fun h=>wa J 7 (eSub [] (ih12 ((w64 (f+(i.Fields.length:Int))),(w64 (g+1))) h))
  refine wa J 1 (eLoop (σ:=Int) (fun st=>(zz24 d i c [(0,.S 0),(3,.S 1),(4,.I (w64 (f+(i.Fields.length:Int)))),(6,.B 6 0),(17,.S 0),(18,.I (c.length:Int)),(19,.I g),(53,.S 3),(54,.I (i.Fields.length:Int)),(55,.I st)])) (fun n st=>z46_l4 N d f g (z46_l2 N c d n12) i n st) (r:=r) (fun _=>rfl) ?_ (fun ih=>?_))
  ·intro n14 ih21
   intro u h
   unfold z46_l4 at h
   refine wB' J 5 h (fun h=>wa J 2 (eSub [] (j19 () h))) fun h=>?_
   refine wO J 7 h fun v x h=>eIx J oO4 x ?_
   refine wO J 9 h fun y z h=>eCl (z67_ct N v.Name _ z) [] [] ?_
   refine wB J 2 h (fun h=>oi h▸wr J 19 func46 []) fun h=>?_
   refine wO J 2 h fun A C h=>eCl (z102_ct N v.Sort' _ C) [] [] ?_
   refine wB J 3 h (fun h=>oi h▸wr J 13 func46 []) fun h=>?_
   refine wO J 3 h fun D G h=>eIs J rR4 G ?_
   refine wO J 1 h fun H R h=>eCl (z103_7_ct N D v _ R) [] [(0,.sl 10),(1,.bp 9 0)] ?_
   exact wB J 2 h (fun h=>oi h▸wr J 5 func46 []) fun h=>wa J 7 (eSub [] (ih21 (w64 (u+1)) h))
  exact eSub [] (ih N 0 h)
 exact eSub [] (ih N (0,0) h)
theorem z47_ct (N:Nat) (c:T0) (r:(List T1)) (h:z47 N c=some r) :
 Fn Tryz.prog 47 ⟨3,[.a (cC0 0 1 2 c)],(vV0 0 1 2 c []),[],4,.S 3,[],[(3,.own rR1 r true)]⟩:=by
 refine eFn func47 rfl (fun E F w=>?_)
 unfold z47 at h
 refine wa J 17 (eCut (σ:=(List T1)) (fun st=>⟨[(1,.B 3 0),(3,.S 4)],[(3,.box (cC0 0 1 2 c) 31),(4,.own rR1 st true)],(vV0 0 1 2 c []),5⟩) (fun st=>z47_k3 N c st=some r) ?_ (fun j1=>?_))
 ·intro d h
  unfold z47_k3 at h
  refine wO J 6 h fun e f h=>eAp J rR1 f (wa J 11 (eCut (σ:=(List T1)) (fun st=>⟨[(3,.S 6)],[(6,.own rR1 st true)],(vV0 0 1 2 c []),7⟩) (fun st=>z47_k1 st=some r) ?_ (fun j3=>?_)))
  ·intro g h
   unfold z47_k1 at h
   exact oi h▸wr J 5 func47 [(3,.sl 6)]
  refine wa J 1 (eLoop (σ:=(List T1) × Int) (fun st=>⟨[(3,.S 6),(44,.S 2),(45,.I (c.Guard.Equals.length:Int)),(46,.I st.2)],[(6,.own rR1 st.1 true)],(vV0 0 1 2 c []),7⟩) (fun n st=>z47_l2 c n st.1 st.2) (r:=r) (fun _=>rfl) ?_ (fun ih=>?_))
  ·intro n3 ih5
   rintro ⟨i,j⟩ h
   unfold z47_l2 at h
   refine wB' J 5 h (fun h=>wa J 2 (eSub [] (j3 i h))) fun h=>?_
   refine wO J 6 h fun k l h=>eIx J (oP (oI .i64) (oI .i64)) l (wa J 6 (eAb 0 rfl (wa J 1 (eAb 1 rfl (wa J 2 (eAb 1 rfl (wa J 1 (eAb 0 rfl (wa J 2 (eBs J [] oO1 ([(⟨k.1,k.2,0⟩:T1),(⟨k.2,k.1,0⟩:T1)]:List T1) ?_))))))))))
   obtain ⟨m,o,h⟩:=ob h
   exact eAp J rR1 o (wa J 7 (eSub [(6,.sl 10)] (ih5 (m,(w64 (j+1))) h)))
  exact eSub [(6,.sl 5)] (ih N (e,0) h)
 refine wa J 1 (eLoop (σ:=(List T1) × Int) (fun st=>⟨[(1,.B 3 0),(3,.S 4),(9,.S 0),(10,.I (c.Fields.length:Int)),(11,.I st.2)],[(3,.box (cC0 0 1 2 c) 31),(4,.own rR1 st.1 true)],(vV0 0 1 2 c []),5⟩) (fun n st=>z47_l4 N c n st.1 st.2) (r:=r) (fun _=>rfl) ?_ (fun ih=>?_))
 ·intro n4 ih6
  rintro ⟨p,q⟩ h
  unfold z47_l4 at h
  refine wB' J 5 h (fun h=>wa J 2 (eSub [] (j1 p h))) fun h=>?_
  refine wO J 7 h fun s t h=>eIx J oO4 t (wa J 24 (eBs J [] oO1 ([(⟨(w64 (c.First+q)),(-1),s.Sort'.Hi⟩:T1),(⟨(-1),(w64 (c.First+q)),(w64 (0-s.Sort'.Lo))⟩:T1)]:List T1) ?_))
  obtain ⟨u,v,h⟩:=ob h
  exact eAp J rR1 v (wa J 7 (eSub [(4,.sl 8)] (ih6 (u,(w64 (q+1))) h)))
 exact eSub [(4,.nil)] (ih N (([]:List T1),0) h)
theorem z22_ct (N:Nat) (c:(List T0)) (d:Int) (r:(List T1) × Int) (h:z22 N c d=some r) :
 Fn Tryz.prog 22 ⟨1,[.S 0,.I d],[(0,.sl rR0 c)],[],2,.t [.inl (.sl 1),.inl (.I r.2)],[],[(1,.own rR1 r.1 true)]⟩:=by
 refine eFn func22 rfl (fun E F w=>?_)
 unfold z22 at h
 refine wB J 11 h (fun h=>oi h▸wr J 17 func22 [(1,.nil)]) fun h=>?_
 refine wB J 6 h (fun h=>oi h▸wr J 11 func22 [(1,.nil)]) fun h=>?_
 refine wO J 1 h fun e f h=>eCl (z46_ct N c _ f) [] [(0,.sl 0)] ?_
 refine wB J 3 h (fun h=>oi h▸wr J 6 func22 [(1,.nil)]) fun h=>?_
 refine wO J 6 h fun g i h=>eIx J oO0 i ?_
 refine wO J 1 h fun j k h=>eCl (z47_ct N g _ k) [] [(0,.sl 2),(1,.sl 3),(2,.sl 4)] ?_
 exact oi h▸wr J 3 func22 [(1,.sl 5)]
theorem z166_ct (N:Nat) (c:(List T0)) (r:Bool) (h:z166 N c=some r) :
 Fn Tryz.prog 166 ⟨1,[.S 0],[(0,.sl rR0 c)],[],1,.O r,[],[]⟩:=by
 refine eFn func166 rfl (fun E F w=>?_)
 unfold z166 at h
 refine wB J 11 h (fun h=>oi h▸wr J 5 func166 []) fun h=>?_
 refine wO J 5 h fun d e h=>eCl (z22_ct N c 0 _ e) [] [(0,.sl 0)] ?_
 exact oi h▸wr J 12 func166 []
theorem z167_ct (N:Nat) (c:T5) (r:Bool) (h:z167 N c=some r) :
 Fn Tryz.prog 167 ⟨4,[.a (cC5 0 1 2 3 c)],(vV5 0 1 2 3 c []),[],4,.O r,[],[]⟩:=by
 refine eFn func167 rfl (fun E F w=>?_)
 unfold z167 at h
 refine wa J 13 (eCut (σ:=Unit) (fun st=>⟨[],[],(vV5 0 1 2 3 c []),5⟩) (fun st=>z167_k1=some r) ?_ (fun j1=>?_))
 ·intro _ h
  unfold z167_k1 at h
  exact oi h▸wr J 4 func167 []
 refine wa J 1 (eLoop (σ:=Int) (fun st=>(zz12 c [(1,.B 4 0),(8,.S 2),(9,.I (c.Edges.length:Int)),(10,.I st)])) (fun n st=>z167_l2 N c n st) (r:=r) (fun _=>rfl) ?_ (fun ih=>?_))
 ·intro n12 ih33
  intro d h
  unfold z167_l2 at h
  refine wB' J 5 h (fun h=>wa J 2 (eSub [] (j1 () h))) fun h=>?_
  refine wO J 7 h fun e f h=>eIx J oO2 f ?_
  refine wa J 14 (eCut (σ:=Bool) (fun st=>⟨[(1,.B 4 0),(3,.I d),(4,.B 6 0),(8,.S 2),(9,.I (c.Edges.length:Int)),(10,.I d),(30,.O st)],[(4,.box (cC5 0 1 2 3 c) 58),(6,.box (cC2 e) 54)],(vV5 0 1 2 3 c []),7⟩) (fun st=>z167_k6 N c d (z167_l2 N c n12) e st=some r) ?_ (fun j54=>?_))
  ·intro g h
   unfold z167_k6 at h
   refine eB h (fun h=>oi h▸wr J 5 func167 []) fun h=>wa J 9 (eCut (σ:=Unit) (fun st=>⟨[(1,.B 4 0),(8,.S 2),(9,.I (c.Edges.length:Int)),(10,.I d)],[(4,.box (cC5 0 1 2 3 c) 58)],(vV5 0 1 2 3 c []),7⟩) (fun st=>z167_k3 d (z167_l2 N c n12)=some r) ?_ (fun j55=>?_))
   ·intro _ h
    unfold z167_k3 at h
    exact wa J 5 (eSub [] (ih33 (w64 (d+1)) h))
   refine wa J 1 (eLoop (σ:=Int) (fun st=>⟨[(1,.B 4 0),(3,.I d),(4,.B 6 0),(8,.S 2),(9,.I (c.Edges.length:Int)),(10,.I d),(32,.S 2),(33,.I (c.Edges.length:Int)),(34,.I st)],[(4,.box (cC5 0 1 2 3 c) 58),(6,.box (cC2 e) 54)],(vV5 0 1 2 3 c []),7⟩) (fun n st=>z167_l4 c d (z167_l2 N c n12) e n st) (r:=r) (fun _=>rfl) ?_ (fun ih=>?_))
   ·intro n14 ih60
    intro i h
    unfold z167_l4 at h
    refine wB' J 5 h (fun h=>wa J 2 (eSub [] (j55 () h))) fun h=>?_
    refine wO J 7 h fun j k h=>eIx J oO2 k ?_
    refine wa J 12 (eCut (σ:=Bool) (fun st=>⟨[(1,.B 4 0),(3,.I d),(4,.B 6 0),(6,.B 8 0),(8,.S 2),(9,.I (c.Edges.length:Int)),(10,.I d),(32,.S 2),(33,.I (c.Edges.length:Int)),(34,.I i),(68,.O st)],[(4,.box (cC5 0 1 2 3 c) 58),(6,.box (cC2 e) 54),(8,.box (cC2 j) 54)],(vV5 0 1 2 3 c []),9⟩) (fun st=>z167_k5 e i (z167_l4 c d (z167_l2 N c n12) e n14) j st=some r) ?_ (fun j63=>?_))
    ·intro l h
     unfold z167_k5 at h
     refine eB h (fun h=>oi h▸wr J 5 func167 []) fun h=>?_
     refine wB' J 7 h (fun h=>wa J 32 (eSub [] (ih60 (w64 (i+1)) h))) fun h=>?_
     refine wB' J 7 h (fun h=>wa J 25 (eSub [] (ih60 (w64 (i+1)) h))) fun h=>?_
     refine wB J 8 h (fun h=>oi h▸wr J 15 func167 []) fun h=>?_
     exact wB J 10 h (fun h=>oi h▸wr J 5 func167 []) fun h=>wa J 7 (eSub [] (ih60 (w64 (i+1)) h))
    refine eB' h (fun h=>wa J 27 (eSub [] (j63 false h))) fun h=>?_
    refine wB' J 7 h (fun h=>wa J 20 (eSub [] (j63 false h))) fun h=>wa J 4 (eEq ?_)
    refine wB J 1 h (fun h=>wa J 14 (eSub [] (j63 true h))) fun h=>?_
    exact wB J 9 h (fun h=>wa J 5 (eSub [] (j63 true h))) fun h=>wa J 5 (eSub [] (j63 e.Again h))
   exact eSub [] (ih N 0 h)
  refine eB h (fun h=>wa J 11 (eSub [] (j54 true h))) fun h=>?_
  exact wB J 3 h (fun h=>wa J 8 (eSub [] (j54 (e.From==c.Start) h))) fun h=>wa J 8 (eSub [] (j54 false h))
 exact eSub [] (ih N 0 h)
theorem z168_ct (N:Nat) (c:T5) (r:Bool) (h:z168 N c=some r) :
 Fn Tryz.prog 168 ⟨4,[.a (cC5 0 1 2 3 c)],(vV5 0 1 2 3 c []),[],4,.O r,[],[]⟩:=by
 refine eFn func168 rfl (fun E F w=>?_)
 unfold z168 at h
 refine wa J 17 (eCut (σ:=Unit) (fun st=>⟨[],[],(vV5 0 1 2 3 c []),5⟩) (fun st=>z168_k1=some r) ?_ (fun j1=>?_))
 ·intro _ h
  unfold z168_k1 at h
  exact oi h▸wr J 4 func168 []
 refine wa J 1 (eLoop (σ:=Int × Int) (fun st=>(zz12 c [(1,.B 4 0),(3,.I st.1),(7,.S 3),(8,.I (c.Timeouts.length:Int)),(9,.I st.2)])) (fun n st=>z168_l2 c n st.1 st.2) (r:=r) (fun _=>rfl) ?_ (fun ih=>?_))
 ·intro n2 ih3
  rintro ⟨d,e⟩ h
  unfold z168_l2 at h
  refine wB' J 5 h (fun h=>wa J 2 (eSub [] (j1 () h))) fun h=>?_
  refine wO J 6 h fun f g h=>eIx J oO11 g ?_
  refine wB J 12 h (fun h=>wa J 43 (eEnd (oi h▸wr J 5 func168 []))) fun h=>?_
  refine wB J 5 h (fun h=>wa J 38 (eEnd (oi h▸wr J 5 func168 []))) fun h=>?_
  refine wB J 5 h (fun h=>wa J 33 (eEnd (oi h▸wr J 5 func168 []))) fun h=>?_
  refine wB J 5 h (fun h=>wa J 28 (eEnd (oi h▸wr J 5 func168 []))) fun h=>?_
  refine wB J 8 h (fun h=>wa J 20 (eEnd (oi h▸wr J 5 func168 []))) fun h=>?_
  refine wO J 4 h fun i j h=>eIx J oO2 j ?_
  refine wB J 7 h (fun h=>wa J 8 (eEnd (oi h▸wr J 5 func168 []))) fun h=>?_
  refine wO J 4 h fun k l h=>eIx J oO2 l (wa J 3 (eEnd ?_))
  exact eB h (fun h=>oi h▸wr J 5 func168 []) fun h=>wa J 12 (eSub [] (ih3 (f.State,(w64 (e+1))) h))
 exact eSub [] (ih N ((-1),0) h)
theorem z213_ct (N:Nat) (d:Int) (e:Int) (r:Int × Int) (h:z213 N d e=some r) :
 Fn Tryz.prog 213 ⟨0,[.c (.i .u64 d),.c (.i .u64 e)],[],[],0,.t [.inl (.i .u64 r.1),.inl (.i .u64 r.2)],[],[]⟩:=by
 refine eFn func213 rfl (fun E F w=>?_)
 unfold z213 at h
 refine wO J 8 h fun f g h=>eBi g ?_
 refine wO J 5 h fun j k h=>eBi k ?_
 refine wO J 5 h fun l m h=>eBi m ?_
 refine wO J 5 h fun o p h=>eBi p ?_
 refine wO J 15 h fun q s h=>eBi s ?_
 refine wO J 6 h fun u v h=>eBi v ?_
 refine wO J 5 h fun x y h=>eBi y ?_
 refine wO J 19 h fun z A h=>eBi A ?_
 exact oi h▸wr J 10 func213 []
theorem z162_ct (N:Nat) (d:Int) (e:Int) (r:Int × Int) (h:z162 N d e=some r) :
 Fn Tryz.prog 162 ⟨0,[.c (.i .u64 d),.c (.i .u64 e)],[],[],0,.t [.inl (.i .u64 r.1),.inl (.i .u64 r.2)],[],[]⟩:=by
 refine eFn func162 rfl (fun E F w=>?_)
 unfold z162 at h
 refine wO J 12 h fun f g h=>eCl (z213_ct N d e _ g) [] [] ?_
 exact oi h▸wr J 13 func162 []
theorem z215_ct (N:Nat) (d:(List Int)) (e:Int) (r:(List Int)) (h:z215 N d e=some r) :
 Fn Tryz.prog 215 ⟨1,[.S 0,.I e],[(0,.sl (rI .i64) d)],[],2,.S 1,[],[(1,.own (rI .i64) r true)]⟩:=by
 refine eFn func215 rfl (fun E F w=>?_)
 unfold z215 at h
 refine wB J 10 h (fun h=>?_) fun h=>?_
 ·cases h
 refine wO J 9 h fun f g h=>eCl (z162_ct N (wk .u64 ((d.length:Int))) (wk .u64 (e)) _ g) [] [] ?_
 refine wa J 12 (eCut (σ:=Bool) (fun st=>(zz9 d [(0,.S 0),(6,.c (.i .u64 f.2)),(26,.O st)])) (fun st=>z215_k3 N d f st=some r) ?_ (fun j2=>?_))
 ·intro j h
  unfold z215_k3 at h
  refine eB h (fun h=>?_) fun h=>?_
  ·cases h
  refine wO J 6 h fun k l h=>eMk J (oI .i64) l ?_
  refine wO J 6 h fun m o h=>eCp J (rI .i64) o (wa J 3 (eCut (σ:=(List Int)) (fun st=>⟨[(7,.S 1)],[(1,.own (rI .i64) st true)],[(0,.sl (rI .i64) d)],2⟩) (fun st=>z215_k1 st=some r) ?_ (fun j4=>?_)))
  ·intro p h
   unfold z215_k1 at h
   exact oi h▸wr J 5 func215 [(1,.sl 1)]
  refine wa J 1 (eLoop (σ:=(List Int) × Int) (fun st=>⟨[(7,.S 1),(8,.I st.2)],[(1,.own (rI .i64) st.1 true)],[(0,.sl (rI .i64) d)],2⟩) (fun n st=>z215_l2 n st.1 st.2) (r:=r) (fun _=>rfl) ?_ (fun ih=>?_))
  ·intro n2 ih6
   rintro ⟨q,s⟩ h
   unfold z215_l2 at h
   refine wB' J 8 h (fun h=>wa J 2 (eSub [] (j4 q h))) fun h=>?_
   refine wO J 7 h fun t u h=>eVw J (rI .i64) u ?_
   refine wO J 2 h fun v x h=>eVw J (rI .i64) x ?_
   obtain ⟨y,z,h⟩:=ob h
   exact eDw J (rI .i64) x z (wa J 2 (eEnd (wa J 1 (eSub [] (ih6 (y.1,(w64 (s+y.2))) h)))))
  exact eSub [] (ih N (m.1,m.2) h)
 exact eB h (fun h=>wa J 4 (eSub [] (j2 true h))) fun h=>wa J 4 (eSub [] (j2 (decide (f.2 > 9223372036854775807)) h))
theorem z170_ct (N:Nat) (c:T5) (d:Int) (e:Bool) (r:(List Int)) (h:z170 N c d e=some r) :
 Fn Tryz.prog 170 ⟨4,[.a (cC5 0 1 2 3 c),.I d,.O e],(vV5 0 1 2 3 c []),[],5,.S 4,[],[(4,.own (rI .i64) r true)]⟩:=by
 refine eFn func170 rfl (fun E F w=>?_)
 unfold z170 at h
 refine wa J 7 (eBs J [] (oI .i64) ([(-1)]:List Int) ?_)
 refine wO J 2 h fun f g h=>eCb (z215_ct N ([(-1)]:List Int) c.States _ g) [] [(0,.sl 5)] [5] (.inr ⟨rfl,⟨(rI_flat _),trivial⟩⟩) ?_
 refine wO J 6 h fun i j h=>eIo J (rI .i64) j (eSt J [] (oI .i64) 0 j (wa J 5 (eBs J [] (oI .i64) ([d]:List Int) (wa J 2 (eCut (σ:=(List Int)) (fun st=>⟨[(7,.S 6)],[(6,.own (rI .i64) st true)],(vV5 0 1 2 3 c []),9⟩) (fun st=>z170_k1 st=some r) ?_ (fun j1=>?_))))))
 ·intro k h
  unfold z170_k1 at h
  exact oi h▸wr J 5 func170 [(4,.sl 6)]
 refine wa J 1 (eLoop (σ:=(List Int) × (List Int)) (fun st=>⟨[(2,.O e),(3,.B 4 0),(7,.S 6),(8,.S 9)],[(4,.box (cC5 0 1 2 3 c) 58),(6,.own (rI .i64) st.1 true),(9,.own (rI .i64) st.2 true)],(vV5 0 1 2 3 c []),10⟩) (fun n st=>z170_l2 N c e n st.1 st.2) (r:=r) (fun _=>rfl) ?_ (fun ih=>?_))
 ·intro n12 ih30
  rintro ⟨l,m⟩ h
  unfold z170_l2 at h
  refine wB' J 7 h (fun h=>wa J 2 (eSub [] (j1 l h))) fun h=>wa J 11 (eCut (σ:=(List Int) × (List Int)) (fun st=>(zz25 c st.1 st.2 [(2,.O e),(3,.B 4 0),(7,.S 6),(8,.S 10)])) (fun st=>z170_k3 (z170_l2 N c e n12) st.1 st.2=some r) ?_ (fun j49=>?_))
  ·rintro ⟨o,p⟩ h
   unfold z170_k3 at h
   exact wO J 3 h fun q s h=>eVw J (rI .i64) s (wa J 2 (eSl (rI .i64) 11 s (eSub [(9,.sl 11)] (ih30 (o,q) h))))
  refine wa J 1 (eLoop (σ:=(List Int) × (List Int) × Int) (fun st=>(zz25 c st.1 st.2.1 [(2,.O e),(3,.B 4 0),(7,.S 6),(8,.S 10),(28,.S 2),(29,.I (c.Edges.length:Int)),(30,.I st.2.2)])) (fun n st=>z170_l4 c e (z170_l2 N c e n12) n st.1 st.2.1 st.2.2) (r:=r) (fun _=>rfl) ?_ (fun ih=>?_))
  ·intro n14 ih54
   rintro ⟨t,u,v⟩ h
   unfold z170_l4 at h
   refine wB' J 5 h (fun h=>wa J 2 (eSub [] (j49 (t,u) h))) fun h=>?_
   refine wO J 6 h fun x y h=>eIx J oO2 y (wa J 12 (eEnd (wa J 5 (eCut (σ:=Int × Int) (fun st=>⟨[(2,.O e),(3,.B 4 0),(7,.S 6),(8,.S 10),(11,.I st.1),(12,.I st.2),(28,.S 2),(29,.I (c.Edges.length:Int)),(30,.I v)],[(4,.box (cC5 0 1 2 3 c) 58),(6,.own (rI .i64) t true),(10,.own (rI .i64) u true)],(vV5 0 1 2 3 c []),13⟩) (fun st=>z170_k5 t u v (z170_l4 c e (z170_l2 N c e n12) n14) st.1 st.2=some r) ?_ (fun j57=>?_)))))
   ·rintro ⟨z,A⟩ h
    unfold z170_k5 at h
    refine wO J 4 h fun C D h=>eIo J (rI .i64) D (eLd J (oI .i64) D ?_)
    refine wB' J 2 h (fun h=>wa J 14 (eSub [] (ih54 (t,u,(w64 (v+1))) h))) fun h=>?_
    refine wO J 2 h fun G H h=>eIo J (rI .i64) H (eLd J (oI .i64) H ?_)
    refine wB' J 3 h (fun h=>wa J 7 (eSub [] (ih54 (t,u,(w64 (v+1))) h))) fun h=>?_
    refine wO J 7 h fun R T h=>eIo J (rI .i64) T (eLd J (oI .i64) T ?_)
    refine wO J 1 h fun U X h=>eIo J (rI .i64) X (eSt J [] (oI .i64) (w64 (R+1)) X (wa J 4 (eBs J [] (oI .i64) ([A]:List Int) ?_)))
    obtain ⟨Y,Z,h⟩:=ob h
    exact eAp J (rI .i64) Z (wa J 7 (eSub [(10,.sl 18)] (ih54 ((setL' t A (w64 (R+1))),Y,(w64 (v+1))) h)))
   exact eB h (fun h=>wa J 7 (eSub [] (j57 (x.To,x.From) h))) fun h=>wa J 2 (eSub [] (j57 (x.From,x.To) h))
  exact eSub [(10,.sl 9)] (ih N (l,m,0) h)
 exact eSub [(9,.sl 8)] (ih N ((setL' f d 0),([d]:List Int)) h)
theorem z214_ct (N:Nat) (c:(List Int)) (d:Int) (r:Int) (h:z214 N c d=some r) :
 Fn Tryz.prog 214 ⟨1,[.S 0,.I d],[(0,.sl (rI .i64) c)],[],1,.I r,[],[]⟩:=by
 refine eFn func214 rfl (fun E F w=>?_)
 unfold z214 at h
 refine wa J 11 (eCut (σ:=Unit) (fun st=>(zz9 c [])) (fun st=>z214_k1=some r) ?_ (fun j1=>?_))
 ·intro _ h
  unfold z214_k1 at h
  exact oi h▸wr J 4 func214 []
 refine wa J 1 (eLoop (σ:=Int) (fun st=>(zz9 c [(0,.S 0),(1,.I d),(7,.I (c.length:Int)),(8,.I st)])) (fun n st=>z214_l2 c d n st) (r:=r) (fun _=>rfl) ?_ (fun ih=>?_))
 ·intro n2 ih3
  intro e h
  unfold z214_l2 at h
  refine wB' J 5 h (fun h=>wa J 2 (eSub [] (j1 () h))) fun h=>?_
  refine wO J 14 h fun f g h=>eIx J (oI .i64) g ?_
  exact wB J 3 h (fun h=>oi h▸wr J 6 func214 []) fun h=>wa J 7 (eSub [] (ih3 (w64 (e+1)) h))
 exact eSub [] (ih N 0 h)
theorem z169_ct (N:Nat) (c:(List Int)) (d:Int) (r:Bool) (h:z169 N c d=some r) :
 Fn Tryz.prog 169 ⟨1,[.S 0,.I d],[(0,.sl (rI .i64) c)],[],1,.O r,[],[]⟩:=by
 refine eFn func169 rfl (fun E F w=>?_)
 unfold z169 at h
 refine wO J 8 h fun e f h=>eCl (z214_ct N c d _ f) [] [(0,.sl 0)] ?_
 exact oi h▸wr J 3 func169 []
theorem z92_ct (N:Nat) (c:T5) (r:Bool) (h:z92 N c=some r) :
 Fn Tryz.prog 92 ⟨4,[.a (cC5 0 1 2 3 c)],(vV5 0 1 2 3 c []),[],4,.O r,[],[]⟩:=by
 refine eFn func92 rfl (fun E F w=>?_)
 unfold z92 at h
 refine wO J 8 h fun d e h=>eCl (z164_ct N c _ e) [] [(0,.sl 0),(1,.sl 1),(2,.sl 2),(3,.sl 3)] ?_
 refine wB' J 1 h (fun h=>oi h▸wr J 34 func92 []) fun h=>?_
 refine wO J 1 h fun f g h=>eCl (z165_ct N c _ g) [] [(0,.sl 0),(1,.sl 1),(2,.sl 2),(3,.sl 3)] ?_
 refine wB' J 2 h (fun h=>oi h▸wr J 30 func92 []) fun h=>?_
 refine wO J 2 h fun i j h=>eCl (z166_ct N c.Decls _ j) [] [(0,.sl 1)] ?_
 refine wB' J 2 h (fun h=>oi h▸wr J 25 func92 []) fun h=>?_
 refine wO J 1 h fun k l h=>eCl (z167_ct N c _ l) [] [(0,.sl 0),(1,.sl 1),(2,.sl 2),(3,.sl 3)] ?_
 refine wB' J 2 h (fun h=>oi h▸wr J 21 func92 []) fun h=>?_
 refine wO J 1 h fun m o h=>eCl (z168_ct N c _ o) [] [(0,.sl 0),(1,.sl 1),(2,.sl 2),(3,.sl 3)] ?_
 refine wB' J 2 h (fun h=>oi h▸wr J 17 func92 []) fun h=>?_
 refine wO J 3 h fun p q h=>eCl (z170_ct N c c.Start false _ q) [] [(0,.sl 0),(1,.sl 1),(2,.sl 2),(3,.sl 3)] ?_
 obtain ⟨s,t,h⟩:=ob h
 refine eCb (z169_ct N p (-1) _ t) [] [(0,.sl 5)] [5] (.inr ⟨rfl,trivial⟩) ?_
 refine wB' J 3 h (fun h=>oi h▸wr J 9 func92 []) fun h=>?_
 refine wO J 3 h fun u v h=>eCl (z170_ct N c c.End true _ v) [] [(0,.sl 0),(1,.sl 1),(2,.sl 2),(3,.sl 3)] ?_
 obtain ⟨x,y,h⟩:=ob h
 refine eCb (z169_ct N u (-1) _ y) [] [(0,.sl 6)] [6] (.inr ⟨rfl,trivial⟩) ?_
 exact oi h▸wr J 4 func92 []
theorem z202_ct (N:Nat) (c:T8) (d:Int) (r:Bool) (h:z202 N c d=some r) :
 Fn Tryz.prog 202 ⟨3,[.a (cC8 0 1 2 c),.I d],(vV8 0 1 2 c []),[],3,.O r,[],[]⟩:=by
 refine eFn func202 rfl (fun E F w=>?_)
 unfold z202 at h
 exact wB J 10 h (fun h=>oi h▸wr J 7 func202 []) fun h=>oi h▸wr J 7 func202 []
theorem z149_ct (N:Nat) (c:T8) (r:Bool) (h:z149 N c=some r) :
 Fn Tryz.prog 149 ⟨3,[.a (cC8 0 1 2 c)],(vV8 0 1 2 c []),[],3,.O r,[],[]⟩:=by
 refine eFn func149 rfl (fun E F w=>?_)
 unfold z149 at h
 refine wB J 12 h (fun h=>oi h▸wr J 41 func149 []) fun h=>?_
 refine wB J 5 h (fun h=>oi h▸wr J 36 func149 []) fun h=>?_
 refine wB J 5 h (fun h=>oi h▸wr J 31 func149 []) fun h=>?_
 refine wB J 5 h (fun h=>oi h▸wr J 26 func149 []) fun h=>?_
 refine wO J 3 h fun d e h=>eCl (z202_ct N c c.Start _ e) [] [(0,.sl 0),(1,.sl 1),(2,.sl 2)] ?_
 refine wB J 3 h (fun h=>oi h▸wr J 19 func149 []) fun h=>?_
 refine wB J 8 h (fun h=>oi h▸wr J 11 func149 []) fun h=>?_
 refine wB J 6 h (fun h=>oi h▸wr J 5 func149 []) fun h=>wa J 10 (eCut (σ:=Unit) (fun st=>⟨[],[],(vV8 0 1 2 c []),4⟩) (fun st=>z149_k1=some r) ?_ (fun j1=>?_))
 ·intro _ h
  unfold z149_k1 at h
  exact oi h▸wr J 4 func149 []
 refine wa J 1 (eLoop (σ:=Int) (fun st=>⟨[(1,.B 3 0),(45,.S 1),(46,.I (c.Moves.length:Int)),(47,.I st)],[(3,.box (cC8 0 1 2 c) 64)],(vV8 0 1 2 c []),4⟩) (fun n st=>z149_l2 N c n st) (r:=r) (fun _=>rfl) ?_ (fun ih=>?_))
 ·intro n2 ih3
  intro f h
  unfold z149_l2 at h
  refine wB' J 5 h (fun h=>wa J 2 (eSub [] (j1 () h))) fun h=>?_
  refine wO J 6 h fun g i h=>eIx J oO9 i ?_
  refine wO J 9 h fun j k h=>eCl (z202_ct N c g.From _ k) [] [(0,.sl 0),(1,.sl 1),(2,.sl 2)] ?_
  refine wB J 2 h (fun h=>oi h▸wr J 39 func149 []) fun h=>?_
  refine wO J 3 h fun l m h=>eCl (z202_ct N c g.To _ m) [] [(0,.sl 0),(1,.sl 1),(2,.sl 2)] ?_
  refine wB J 3 h (fun h=>oi h▸wr J 32 func149 []) fun h=>?_
  refine wB J 5 h (fun h=>oi h▸wr J 27 func149 []) fun h=>?_
  refine wB J 5 h (fun h=>oi h▸wr J 22 func149 []) fun h=>?_
  refine wB J 7 h (fun h=>oi h▸wr J 15 func149 []) fun h=>?_
  refine wB J 5 h (fun h=>oi h▸wr J 10 func149 []) fun h=>?_
  exact wB J 5 h (fun h=>oi h▸wr J 5 func149 []) fun h=>wa J 7 (eSub [] (ih3 (w64 (f+1)) h))
 exact eSub [] (ih N 0 h)
section
variable [LxP]
theorem z205_ct (N:Nat) (c:T9) (r:T16) (h:z205 N c=some r) :
 Fn Tryz.prog 205 ⟨0,[.a (cC9 c)],[],[],0,.a (cC16 r),[],[]⟩:=by
 refine eFn func205 rfl (fun E F w=>?_)
 unfold z205 at h
 exact oi h▸wr J 16 func205 []
end
section
variable [LxP]
theorem z244_ct (N:Nat) (c:Int) (r:Bool) (h:z244 N c=some r) :
 Fn Tryz.prog 244 ⟨0,[.I c],[],[],0,.O r,[],[]⟩:=by
 refine eFn func244 rfl (fun E F w=>?_)
 unfold z244 at h
 exact oi h▸wr J 11 func244 []
end
section
variable [LxP]
theorem z228_ct (N:Nat) (c:Int) (d:Int) (r:Int) (h:z228 N c d=some r) :
 Fn Tryz.prog 228 ⟨0,[.I c,.I d],[],[],0,.I r,[],[]⟩:=by
 refine eFn func228 rfl (fun E F w=>?_)
 unfold z228 at h
 refine wO J 7 h fun e f h=>eCl (z244_ct N c _ f) [] [] ?_
 refine wO J 5 h fun g i h=>eCl (z244_ct N d _ i) [] [] ?_
 refine wB J 7 h (fun h=>?_) fun h=>?_
 ·exact wB J 6 h (fun h=>oi h▸wr J 5 func228 []) fun h=>oi h▸wr J 6 func228 []
 refine wB J 7 h (fun h=>oi h▸wr J 5 func228 []) fun h=>?_
 refine wB J 9 h (fun h=>oi h▸wr J 5 func228 []) fun h=>?_
 exact wB J 9 h (fun h=>oi h▸wr J 5 func228 []) fun h=>oi h▸wr J 6 func228 []
end
section
variable [LxP]
theorem z227_ct (N:Nat) (c:(List Int)) (r:Int) (h:z227 N c=some r) :
 Fn Tryz.prog 227 ⟨1,[.S 0],[(0,.sl (rI .i64) c)],[],1,.I r,[],[]⟩:=by
 refine eFn func227 rfl (fun E F w=>?_)
 unfold z227 at h
 refine wa J 15 (eCut (σ:=Unit) (fun st=>(zz9 c [(3,.I 0)])) (fun st=>z227_k1=some r) ?_ (fun j1=>?_))
 ·intro _ h
  unfold z227_k1 at h
  exact oi h▸wr J 5 func227 []
 refine wa J 1 (eLoop (σ:=Int) (fun st=>(zz9 c [(3,.I 0),(6,.S 0),(7,.I (c.length:Int)),(8,.I st)])) (fun n st=>z227_l2 c n st) (r:=r) (fun _=>rfl) ?_ (fun ih=>?_))
 ·intro n2 ih3
  intro d h
  unfold z227_l2 at h
  refine wB' J 5 h (fun h=>wa J 2 (eSub [] (j1 () h))) fun h=>?_
  refine wO J 6 h fun e f h=>eIx J (oI .i64) f ?_
  exact wB J 9 h (fun h=>oi h▸wr J 6 func227 []) fun h=>wa J 7 (eSub [] (ih3 (w64 (d+1)) h))
 exact eSub [] (ih N 0 h)
end
section
variable [LxP]
theorem z206_ct (N:Nat) (c:T16) (d:T16) (r:Int) (h:z206 N c d=some r) :
 Fn Tryz.prog 206 ⟨0,[.a (cC16 c),.a (cC16 d)],[],[],0,.I r,[],[]⟩:=by
 refine eFn func206 rfl (fun E F w=>?_)
 unfold z206 at h
 refine wB J 15 h (fun h=>?_) fun h=>?_
 ·exact wB J 7 h (fun h=>oi h▸wr J 5 func206 []) fun h=>oi h▸wr J 6 func206 []
 refine wO J 8 h fun e f h=>eCl (z228_ct N c.peer' d.peer' _ f) [] [] ?_
 refine wO J 4 h fun g i h=>eCl (z228_ct N c.label' d.label' _ i) [] [] (eBs J [] (oI .i64) ([e,g]:List Int) ?_)
 obtain ⟨j,k,h⟩:=ob h
 refine eCb (z227_ct N ([e,g]:List Int) _ k) [] [(0,.sl 2)] [2] (.inr ⟨rfl,trivial⟩) (wa J 1 (eEnd ?_))
 cases h
 exact eRet J func206 []
end
section
variable [LxP]
theorem z204_8_ct (N:Nat) (c:Int) (d:Int) (e:T8) (r:Int) (h:z204_8 N c d e=some r) :
 Fn Tryz.prog 204 ⟨4,[.I c,.I d,.B 0 0],(vV8 1 2 3 e []),[(0,.box (cC8 1 2 3 e) 64)],4,.I r,[],[(0,.box (cC8 1 2 3 e) 64)]⟩:=by
 refine eFn func204 rfl (fun E F w=>?_)
 unfold z204_8 at h
 refine wO J 9 h fun f g h=>eIx J oO9 g ?_
 refine wO J 1 h fun i j h=>eCl (z205_ct N f _ j) [] [] ?_
 refine wO J 3 h fun k l h=>eIx J oO9 l ?_
 refine wO J 1 h fun m o h=>eCl (z205_ct N k _ o) [] [] ?_
 obtain ⟨p,q,h⟩:=ob h
 refine eCl (z206_ct N i m _ q) [] [] (wa J 1 (eEnd ?_))
 cases h
 exact eRet J func204 []
end
theorem z150_ct (N:Nat) (c:T8) (r:T17) (h:z150 N c=some r) :
 Fn Tryz.prog 150 ⟨3,[.a (cC8 0 1 2 c)],(vV8 0 1 2 c []),[],8,.B 3 0,(vV17 4 5 6 7 r []),[(3,.box (cC17 4 5 6 7 r) 166)]⟩:=by
 refine eFn func150 rfl (fun E F w=>?_)
 unfold z150 at h
 obtain ⟨us,hus,h⟩:=ob h
 obtain ⟨K,h⟩|⟨K,h⟩:=oc h
 ·cases h
 have hne:us≠[]:=by intro e;rw [e] at K;cases K
 refine wm J (eMk J oNil hus (wm J (eEnd (eGt (rI .i64) 4 hne (fun q=>?_)))))
 refine wm J (eLoop (σ:=List Value × List (List Int) × Int) (fun st=>(zz26 c c.Role c.States c.Start (tabR (rI .i64) w.heap.size q.1 q.2 st.1 st.2.1 none) (hdrV q.1 q.2 us.length) [(1,.B 3 0),(3,.B 5 0),(15,.S 1),(16,.I (c.Moves.length:Int)),(17,.I st.2.2)]))
  (fun n st=>bif Nat.beq st.2.1.length us.length then z150_l1 N c n st.2.1 st.2.2 else none) (r:=r) (fun st=>by cases Nat.beq st.2.1.length us.length<;>rfl) ?_ (fun ih=>?_))
 ·intro n1 ih1
  rintro ⟨vs,xss,i⟩ h
  obtain ⟨hl,h⟩:=og h
  replace hl:Nat.beq xss.length us.length=true:=hl
  have hl':=Nat.eq_of_beq_eq_true hl
  replace h:z150_l1 N c (n1+1) xss i=some r:=h
  unfold z150_l1 at h
  obtain ⟨K,h⟩|⟨K,h⟩:=oc' h
  ·refine wH J 5 K (wm J (eTn (b:=q.1) (p0:=q.2) (len:=us.length) J (wm J (eLoop (σ:=List (List Int) × Int) (fun st=>(zz26 c c.Role c.States c.Start (tabR (rI .i64) w.heap.size q.1 q.2 vs st.1 none) (hdrV q.1 q.2 us.length) [(1,.B 3 0),(3,.B 5 0),(44,.S 4),(45,.I (us.length:Int)),(46,.I st.2)]))
    (fun n st=>bif Nat.beq st.1.length us.length then z150_l2 N c n st.1 st.2 else none) (r:=r) (fun st=>by cases Nat.beq st.1.length us.length<;>rfl) ?_ (fun ih=>?_)))))
   ·intro n2 ih2
    rintro ⟨yss,j⟩ h
    obtain ⟨hl,h⟩:=og h
    replace hl:Nat.beq yss.length us.length=true:=hl
    have hl':=Nat.eq_of_beq_eq_true hl
    replace h:z150_l2 N c (n2+1) yss j=some r:=h
    unfold z150_l2 at h
    rw [hl'] at h
    obtain ⟨K,h⟩|⟨K,h⟩:=oc' h
    ·cases h
     exact wH J 5 K (eGf (R:=rI .i64) (b:=q.1) (p0:=q.2) (vs:=vs) 4 hl' (wm J (eRet J func150 [(3,.bp 5 0),(4,.sl 0),(5,.sl 1),(6,.sl 2),(7,.sl 4)])))
    obtain ⟨xs,hxs,h⟩:=ob h
    obtain ⟨hk,h⟩:=og h
    unfold machine_sorted_ok at hk
    rw [Bool.and_eq_true,Bool.and_eq_true,decide_eq_true_eq] at hk
    obtain ⟨k1,k2,k3⟩:=hk
    obtain ⟨j1,j2,j3⟩:=idx_ok hxs
    have hn:(decide (0≤j) && decide (j < (us.length:Int)))=true:=by rw [hl'] at j2;simp [j1,j2]
    refine wH J 5 K (eGk (R:=rI .i64) (b:=q.1) (p0:=q.2) (vs:=vs) 4 j3 (wm J (eTx (b:=q.1) (p0:=q.2) (len:=us.length) J hn (eTl (R:=rI .i64) (n1:=w.heap.size) (b:=q.1) (p0:=q.2) (vs:=vs) (xss:=yss) (h:=some j.toNat) 4 6 j.toNat J (wm J (eSr (q:=6) slLays k3 (swo_of k2) (cf:=machine_sorted_cf N c) ⟨Tryz.f204,func204,rfl,rfl⟩ (fun a b ha hb=>@z204_8_ct LxF N a b c (machine_sorted_cf N c a b) ?_) [(0,.bp 3 0),(1,.sl 0),(2,.sl 1),(3,.sl 2)] (eGp (R:=rI .i64) (b:=q.1) (p0:=q.2) (vs:=vs) (xss:=yss) (j:=j.toNat) (xs:=sortP (machine_sorted_cf N c) xs) 4 6 (wm J (eSub [] (ih2 (yss.set j.toNat (sortP (machine_sorted_cf N c) xs),(w64 (j+1))) ?_))))))))))
    ·have:=List.all_eq_true.1 (List.all_eq_true.1 k1 a ha) b hb
     obtain ⟨z,hz⟩:=Option.isSome_iff_exists.1 this
     unfold machine_sorted_cf
     rw [hz];rfl
    ·show (bif Nat.beq (yss.set j.toNat _).length us.length then _ else none)=some r
     rw [List.length_set,hl]
     exact h
   ·refine eSub [] (ih N (xss,0) ?_)
    show (bif Nat.beq xss.length us.length then _ else none)=some r
    rw [hl];exact h
  refine wH J 5 K ?_
  obtain ⟨x,hx,h⟩:=ob h
  obtain ⟨xs,hxs,h⟩:=ob h
  obtain ⟨ys,hys,h⟩:=ob h
  obtain ⟨j1,j2,j3⟩:=idx_ok hxs
  have hn:(decide (0≤x.From) && decide (x.From < (us.length:Int)))=true:=by rw [hl'] at j2;simp [j1,j2]
  have hj:Nat.blt x.From.toNat xss.length=true:=Nat.ble_eq_true_of_le (by omega)
  refine wm J (eIx J oO9 hx (eGk (R:=rI .i64) (b:=q.1) (p0:=q.2) (vs:=vs) 4 j3 (wm J (eTx (b:=q.1) (p0:=q.2) (len:=us.length) J hn (eTl (R:=rI .i64) (n1:=w.heap.size) (b:=q.1) (p0:=q.2) (vs:=vs) (xss:=xss) (h:=some x.From.toNat) 4 7 x.From.toNat J (wm J (eBs J [] (oI .i64) ([i]:List Int) (eAp J (rI .i64) hys (eTx (b:=q.1) (p0:=q.2) (len:=us.length) J hn (eTt (eTs (R:=rI .i64) (b:=q.1) (p0:=q.2) (vs:=vs) (xss:=xss) (xs:=ys) 4 10 x.From.toNat J hj (fun v=>wm J (eSub [] (ih1 (vs.set x.From.toNat v,xss.set x.From.toNat ys,(w64 (i+1))) ?_))))))))))))))
  show (bif Nat.beq (xss.set x.From.toNat ys).length us.length then _ else none)=some r
  rw [List.length_set,hl]
  exact h
 refine eSub [] (ih N (List.replicate us.length (.slice none 0 0),List.replicate us.length [],0) ?_)
 show (bif Nat.beq (List.replicate us.length []).length us.length then _ else none)=some r
 rw [List.length_replicate,Nat.beq_refl]
 exact h
theorem z151_ct (N:Nat) (c:T17) (r:Bool) (h:z151 N c=some r) :
 Fn Tryz.prog 151 ⟨5,[.B 0 0],(vV17 1 2 3 4 c []),[(0,.box (cC17 1 2 3 4 c) 166)],5,.O r,[],[(0,.box (cC17 1 2 3 4 c) 166)]⟩:=by
 refine eFn func151 rfl (fun E F w=>?_)
 unfold z151 at h
 refine wa J 14 (eCut (σ:=Unit) (fun st=>(zz4 c [])) (fun st=>z151_k1=some r) ?_ (fun j1=>?_))
 ·intro _ h
  unfold z151_k1 at h
  exact oi h▸wr J 4 func151 []
 refine wa J 1 (eLoop (σ:=Int) (fun st=>(zz4 c [(0,.B 0 0),(11,.S 4),(12,.I (c.out'.length:Int)),(13,.I st)])) (fun n st=>z151_l2 N c n st) (r:=r) (fun _=>rfl) ?_ (fun ih=>?_))
 ·intro n12 ih12
  intro d h
  unfold z151_l2 at h
  refine wB' J 5 h (fun h=>wa J 2 (eSub [] (j1 () h))) fun h=>?_
  refine wO J 6 h fun e f h=>eIx J (oSl (rI .i64)) f (wa J 7 (eCut (σ:=Unit) (fun st=>⟨[(0,.B 0 0),(11,.S 4),(12,.I (c.out'.length:Int)),(13,.I d)],[(0,.box (cC17 1 2 3 4 c) 166)],(vV17 1 2 3 4 c []),7⟩) (fun st=>z151_k3 d (z151_l2 N c n12)=some r) ?_ (fun j19=>?_)))
  ·intro _ h
   unfold z151_k3 at h
   exact wa J 5 (eSub [] (ih12 (w64 (d+1)) h))
  refine wa J 1 (eLoop (σ:=Int) (fun st=>⟨[(0,.B 0 0),(4,.S 6),(5,.I st),(11,.S 4),(12,.I (c.out'.length:Int)),(13,.I d)],[(0,.box (cC17 1 2 3 4 c) 166)],(vV17 1 2 3 4 c [(6,.sl (rI .i64) e)]),7⟩) (fun n st=>z151_l4 N c d (z151_l2 N c n12) e n st) (r:=r) (fun _=>rfl) ?_ (fun ih=>?_))
  ·intro n14 ih21
   intro g h
   unfold z151_l4 at h
   refine wB' J 8 h (fun h=>wa J 2 (eSub [] (j19 () h))) fun h=>?_
   refine wO J 14 h fun i j h=>eIx J (oI .i64) j ?_
   refine wO J 1 h fun k l h=>eIx J oO9 l ?_
   refine wO J 8 h fun m o h=>eIx J (oI .i64) o ?_
   refine wO J 1 h fun p q h=>eIx J oO9 q (wa J 5 (eEnd ?_))
   refine wO J 3 h fun s t h=>eCl (z205_ct N k _ t) [] [] ?_
   refine wO J 1 h fun u v h=>eCl (z205_ct N p _ v) [] [] (eEq ?_)
   refine wB J 1 h (fun h=>wa J 6 (eEnd (oi h▸wr J 5 func151 []))) fun h=>wa J 6 (eEnd ?_)
   exact eB h (fun h=>oi h▸wr J 5 func151 []) fun h=>wa J 8 (eSub [] (ih21 (w64 (g+1)) h))
  exact eSub [] (ih N 1 h)
 exact eSub [] (ih N 0 h)
theorem z152_ct (N:Nat) (c:T17) (r:Bool) (h:z152 N c=some r) :
 Fn Tryz.prog 152 ⟨5,[.B 0 0],(vV17 1 2 3 4 c []),[(0,.box (cC17 1 2 3 4 c) 166)],5,.O r,[],[(0,.box (cC17 1 2 3 4 c) 166)]⟩:=by
 refine eFn func152 rfl (fun E F w=>?_)
 unfold z152 at h
 refine wO J 11 h fun d e h=>eMk J oB e ?_
 refine wO J 10 h fun f g h=>eIo J rB g (eSt J [] oB true g (wa J 8 (eBs J [] (oI .i64) ([c.Machine.Start]:List Int) (wa J 7 (eCut (σ:=(List Int)) (fun st=>⟨[(0,.B 0 0),(4,.S 8)],[(0,.box (cC17 1 2 3 4 c) 166),(8,.own (rI .i64) st true)],(vV17 1 2 3 4 c []),9⟩) (fun st=>z152_k1 c st=some r) ?_ (fun j1=>?_))))))
 ·intro i h
  unfold z152_k1 at h
  exact oi h▸wr J 12 func152 []
 refine wa J 1 (eLoop (σ:=(List Bool) × (List Int) × Int) (fun st=>⟨[(0,.B 0 0),(3,.S 5),(4,.S 8),(5,.I st.2.2)],[(0,.box (cC17 1 2 3 4 c) 166),(5,.own rB st.1 true),(8,.own (rI .i64) st.2.1 true)],(vV17 1 2 3 4 c []),9⟩) (fun n st=>z152_l2 N c n st.1 st.2.1 st.2.2) (r:=r) (fun _=>rfl) ?_ (fun ih=>?_))
 ·intro n12 ih12
  rintro ⟨j,k,l⟩ h
  unfold z152_l2 at h
  refine wB' J 8 h (fun h=>wa J 2 (eSub [] (j1 k h))) fun h=>?_
  refine wO J 12 h fun m o h=>eIo J (rI .i64) o (eLd J (oI .i64) o ?_)
  obtain ⟨p,q,h⟩:=ob h
  refine eIx J (oSl (rI .i64)) q (wa J 3 (eEnd (eCut (σ:=(List Bool) × (List Int)) (fun st=>⟨[(0,.B 0 0),(3,.S 5),(4,.S 12),(5,.I l)],[(0,.box (cC17 1 2 3 4 c) 166),(5,.own rB st.1 true),(12,.own (rI .i64) st.2 true)],(vV17 1 2 3 4 c []),13⟩) (fun st=>z152_k3 l (z152_l2 N c n12) st.1 st.2=some r) ?_ (fun j19=>?_))))
  ·rintro ⟨s,t⟩ h
   unfold z152_k3 at h
   exact wa J 6 (eSub [(8,.sl 12)] (ih12 (s,t,(w64 (l+1))) h))
  refine wa J 1 (eLoop (σ:=(List Bool) × (List Int) × Int) (fun st=>⟨[(0,.B 0 0),(3,.S 5),(4,.S 12),(5,.I l),(43,.S 11),(44,.I (p.length:Int)),(45,.I st.2.2)],[(0,.box (cC17 1 2 3 4 c) 166),(5,.own rB st.1 true),(12,.own (rI .i64) st.2.1 true)],(vV17 1 2 3 4 c [(11,.sl (rI .i64) p)]),13⟩) (fun n st=>z152_l4 c l (z152_l2 N c n12) p n st.1 st.2.1 st.2.2) (r:=r) (fun _=>rfl) ?_ (fun ih=>?_))
  ·intro n14 ih21
   rintro ⟨u,v,x⟩ h
   unfold z152_l4 at h
   refine wB' J 5 h (fun h=>wa J 2 (eSub [] (j19 (u,v) h))) fun h=>?_
   refine wO J 6 h fun y z h=>eIx J (oI .i64) z ?_
   refine wO J 11 h fun A C h=>eIx J oO9 C ?_
   refine wO J 8 h fun D G h=>eIo J rB G (eLd J oB G ?_)
   refine wB' J 2 h (fun h=>wa J 7 (eSub [] (ih21 (u,v,(w64 (x+1))) h))) fun h=>?_
   refine wO J 5 h fun H R h=>eIo J rB R (eSt J [] oB true R (wa J 4 (eBs J [] (oI .i64) ([A.To]:List Int) ?_)))
   obtain ⟨T,U,h⟩:=ob h
   exact eAp J (rI .i64) U (wa J 7 (eSub [(12,.sl 18)] (ih21 ((setL' u A.To true),T,(w64 (x+1))) h)))
  exact eSub [(12,.sl 8)] (ih N (j,k,0) h)
 exact eSub [(8,.sl 7)] (ih N ((setL' d c.Machine.Start true),([c.Machine.Start]:List Int),0) h)
theorem z153_ct (N:Nat) (c:T17) (r:Bool) (h:z153 N c=some r) :
 Fn Tryz.prog 153 ⟨5,[.B 0 0],(vV17 1 2 3 4 c []),[(0,.box (cC17 1 2 3 4 c) 166)],5,.O r,[],[(0,.box (cC17 1 2 3 4 c) 166)]⟩:=by
 refine eFn func153 rfl (fun E F w=>?_)
 unfold z153 at h
 refine wa J 15 (eCut (σ:=Unit) (fun st=>(zz4 c [])) (fun st=>z153_k1=some r) ?_ (fun j1=>?_))
 ·intro _ h
  unfold z153_k1 at h
  exact oi h▸wr J 4 func153 []
 refine wa J 1 (eLoop (σ:=Int) (fun st=>(zz4 c [(0,.B 0 0),(11,.S 2),(12,.I (c.Machine.Moves.length:Int)),(13,.I st)])) (fun n st=>z153_l2 N c n st) (r:=r) (fun _=>rfl) ?_ (fun ih=>?_))
 ·intro n12 ih12
  intro d h
  unfold z153_l2 at h
  refine wB' J 5 h (fun h=>wa J 2 (eSub [] (j1 () h))) fun h=>?_
  refine wO J 6 h fun e f h=>eIx J oO9 f ?_
  refine wB J 11 h (fun h=>wa J 6 (eSub [] (ih12 (w64 (d+1)) h))) fun h=>?_
  refine wB J 9 h (fun h=>wa J 32 (eEnd (oi h▸wr J 5 func153 []))) fun h=>?_
  refine wO J 6 h fun g i h=>eIx J (oSl (rI .i64)) i ?_
  refine wB J 5 h (fun h=>wa J 20 (eEnd (oi h▸wr J 5 func153 []))) fun h=>?_
  refine wB J 10 h (fun h=>wa J 10 (eEnd (oi h▸wr J 5 func153 []))) fun h=>?_
  refine wO J 7 h fun j k h=>eIx J oB k (wa J 2 (eEnd ?_))
  refine eB h (fun h=>oi h▸wr J 5 func153 []) fun h=>wa J 12 (eCut (σ:=Unit) (fun st=>⟨[(0,.B 0 0),(11,.S 2),(12,.I (c.Machine.Moves.length:Int)),(13,.I d)],[(0,.box (cC17 1 2 3 4 c) 166)],(vV17 1 2 3 4 c []),10⟩) (fun st=>z153_k3 d (z153_l2 N c n12)=some r) ?_ (fun j19=>?_))
  ·intro _ h
   unfold z153_k3 at h
   exact wa J 5 (eSub [] (ih12 (w64 (d+1)) h))
  refine wa J 1 (eLoop (σ:=Int) (fun st=>⟨[(0,.B 0 0),(4,.B 6 0),(11,.S 2),(12,.I (c.Machine.Moves.length:Int)),(13,.I d),(60,.S 2),(61,.I (c.Machine.Moves.length:Int)),(62,.I st)],[(0,.box (cC17 1 2 3 4 c) 166),(6,.box (cC9 e) 61)],(vV17 1 2 3 4 c []),10⟩) (fun n st=>z153_l4 c d (z153_l2 N c n12) e n st) (r:=r) (fun _=>rfl) ?_ (fun ih=>?_))
  ·intro n14 ih21
   intro l h
   unfold z153_l4 at h
   refine wB' J 5 h (fun h=>wa J 2 (eSub [] (j19 () h))) fun h=>?_
   refine wO J 6 h fun m o h=>eIx J oO9 o ?_
   refine wB' J 12 h (fun h=>wa J 19 (eSub [] (ih21 (w64 (l+1)) h))) fun h=>?_
   refine wB J 4 h (fun h=>oi h▸wr J 13 func153 []) fun h=>?_
   exact wB J 8 h (fun h=>oi h▸wr J 5 func153 []) fun h=>wa J 7 (eSub [] (ih21 (w64 (l+1)) h))
  exact eSub [] (ih N 0 h)
 exact eSub [] (ih N 0 h)
theorem z154_ct (N:Nat) (c:T17) (r:Bool) (h:z154 N c=some r) :
 Fn Tryz.prog 154 ⟨5,[.B 0 0],(vV17 1 2 3 4 c []),[(0,.box (cC17 1 2 3 4 c) 166)],5,.O r,[],[(0,.box (cC17 1 2 3 4 c) 166)]⟩:=by
 refine eFn func154 rfl (fun E F w=>?_)
 unfold z154 at h
 refine wa J 15 (eCut (σ:=Unit) (fun st=>(zz4 c [])) (fun st=>z154_k1=some r) ?_ (fun j1=>?_))
 ·intro _ h
  unfold z154_k1 at h
  exact oi h▸wr J 4 func154 []
 refine wa J 1 (eLoop (σ:=Int) (fun st=>(zz4 c [(0,.B 0 0),(10,.S 3),(11,.I (c.Machine.Timeouts.length:Int)),(12,.I st)])) (fun n st=>z154_l2 c n st) (r:=r) (fun _=>rfl) ?_ (fun ih=>?_))
 ·intro n2 ih6
  intro d h
  unfold z154_l2 at h
  refine wB' J 5 h (fun h=>wa J 2 (eSub [] (j1 () h))) fun h=>?_
  refine wO J 7 h fun e f h=>eIx J oO11 f ?_
  refine wa J 11 (eCut (σ:=Bool) (fun st=>⟨[(0,.B 0 0),(4,.B 6 0),(10,.S 3),(11,.I (c.Machine.Timeouts.length:Int)),(12,.I d),(59,.O st)],[(0,.box (cC17 1 2 3 4 c) 166),(6,.box (cC11 e) 147)],(vV17 1 2 3 4 c []),7⟩) (fun st=>z154_k3 c d (z154_l2 c n2) e st=some r) ?_ (fun j9=>?_))
  ·intro g h
   unfold z154_k3 at h
   refine eB h (fun h=>oi h▸wr J 5 func154 []) fun h=>?_
   refine wO J 11 h fun i j h=>eIx J oO9 j (wa J 3 (eEnd ?_))
   refine wB J 8 h (fun h=>oi h▸wr J 14 func154 []) fun h=>?_
   refine wB J 5 h (fun h=>oi h▸wr J 9 func154 []) fun h=>?_
   exact wB J 4 h (fun h=>oi h▸wr J 5 func154 []) fun h=>wa J 7 (eSub [] (ih6 (w64 (d+1)) h))
  refine eB' h (fun h=>?_) fun h=>?_
  ·refine wB J 20 h (fun h=>wa J 20 (eEnd (eSub [] (j9 true h)))) fun h=>?_
   refine wB J 5 h (fun h=>wa J 15 (eEnd (eSub [] (j9 true h)))) fun h=>?_
   exact wB J 5 h (fun h=>wa J 10 (eEnd (eSub [] (j9 true h)))) fun h=>wa J 10 (eEnd (eSub [] (j9 (decide (e.Else≥(c.Machine.Moves.length:Int))) h)))
  refine wO J 7 h fun k l h=>eIx J oO11 l ?_
  refine wB J 7 h (fun h=>wa J 25 (eEnd (eSub [] (j9 true h)))) fun h=>?_
  refine wB J 5 h (fun h=>wa J 20 (eEnd (eSub [] (j9 true h)))) fun h=>?_
  refine wB J 5 h (fun h=>wa J 15 (eEnd (eSub [] (j9 true h)))) fun h=>?_
  exact wB J 5 h (fun h=>wa J 10 (eEnd (eSub [] (j9 true h)))) fun h=>wa J 10 (eEnd (eSub [] (j9 (decide (e.Else≥(c.Machine.Moves.length:Int))) h)))
 exact eSub [] (ih N 0 h)
theorem z80_ct (N:Nat) (c:T8) (r:(Option T17) × Bool) (h:z80 N c=some r) :
 Fn Tryz.prog 80 ⟨3,[.a (cC8 0 1 2 c)],(vV8 0 1 2 c []),[],8,(optC r.1 (.t [.inl (.v (.pointer none)),.inl (.b r.2)]) fun q=>.t [.inl (.bp 3 0),.inl (.b r.2)]),(optC r.1 [] fun q=>(vV17 4 5 6 7 q [])),(optC r.1 [] fun q=>[(3,.box (cC17 4 5 6 7 q) 166)])⟩:=by
 refine eFn func80 rfl (fun E F w=>?_)
 unfold z80 at h
 refine wO J 10 h fun d e h=>eCl (z149_ct N c _ e) [] [(0,.sl 0),(1,.sl 1),(2,.sl 2)] ?_
 refine wB J 2 h (fun h=>oi h▸wr J 6 func80 []) fun h=>?_
 refine wO J 5 h fun f g h=>eCl (z150_ct N c _ g) [] [(0,.sl 0),(1,.sl 1),(2,.sl 2)] ?_
 refine wO J 6 h fun i j h=>eCl (z151_ct N f _ j) [] [(0,.bp 4 0),(1,.sl 5),(2,.sl 6),(3,.sl 7),(4,.sl 8)] ?_
 refine wB' J 1 h (fun h=>oi h▸wr J 14 func80 [(3,.bp 4 0),(4,.sl 5),(5,.sl 6),(6,.sl 7),(7,.sl 8)]) fun h=>?_
 refine wO J 1 h fun k l h=>eCl (z152_ct N f _ l) [] [(0,.bp 4 0),(1,.sl 5),(2,.sl 6),(3,.sl 7),(4,.sl 8)] ?_
 refine wB' J 2 h (fun h=>oi h▸wr J 10 func80 [(3,.bp 4 0),(4,.sl 5),(5,.sl 6),(6,.sl 7),(7,.sl 8)]) fun h=>?_
 refine wO J 1 h fun m o h=>eCl (z153_ct N f _ o) [] [(0,.bp 4 0),(1,.sl 5),(2,.sl 6),(3,.sl 7),(4,.sl 8)] ?_
 refine wB' J 2 h (fun h=>oi h▸wr J 6 func80 [(3,.bp 4 0),(4,.sl 5),(5,.sl 6),(6,.sl 7),(7,.sl 8)]) fun h=>?_
 refine wO J 1 h fun p s h=>eCl (z154_ct N f _ s) [] [(0,.bp 4 0),(1,.sl 5),(2,.sl 6),(3,.sl 7),(4,.sl 8)] ?_
 exact oi h▸wr J 4 func80 [(3,.bp 4 0),(4,.sl 5),(5,.sl 6),(6,.sl 7),(7,.sl 8)]
theorem machine_open_ctn (N:Nat) (c:T8) (r:(Option T17) × Bool) (h:z80 N c=some r) (ho:r.1=none):Fn Tryz.prog 80 ⟨3,[.a (cC8 0 1 2 c)],(vV8 0 1 2 c []),[],8,.t [.inl (.v (.pointer none)),.inl (.b r.2)],[],[]⟩:=by
 have hf:=z80_ct N c r h
 rw [ho] at hf
 exact hf
theorem machine_open_cts (N:Nat) (c:T8) (r:(Option T17) × Bool) (h:z80 N c=some r) (q:T17) (ho:r.1=some q):Fn Tryz.prog 80 ⟨3,[.a (cC8 0 1 2 c)],(vV8 0 1 2 c []),[],8,.t [.inl (.bp 3 0),.inl (.b r.2)],(vV17 4 5 6 7 q []),[(3,.box (cC17 4 5 6 7 q) 166)]⟩:=by
 have hf:=z80_ct N c r h
 rw [ho] at hf
 exact hf
theorem z93_ct (N:Nat) (c:T8) (r:Bool) (h:z93 N c=some r) :
 Fn Tryz.prog 93 ⟨3,[.a (cC8 0 1 2 c)],(vV8 0 1 2 c []),[],3,.O r,[],[]⟩:=by
 refine eFn func93 rfl (fun E F w=>?_)
 unfold z93 at h
 obtain ⟨d,e,h⟩:=ob h
 rcases oO h with ⟨ox1,h⟩ | ⟨q2,ox1,h⟩
 ·refine wa J 8 (eCl (machine_open_ctn N c _ e ox1) [] [(0,.sl 0),(1,.sl 1),(2,.sl 2)] ?_)
  exact oi h▸wr J 11 func93 []
 refine wa J 8 (eCl (machine_open_cts N c _ e q2 ox1) [] [(0,.sl 0),(1,.sl 1),(2,.sl 2)] ?_)
 exact oi h▸wr J 11 func93 []
theorem z91_9_ct (N:Nat) (c:T9) (d:T5) (r:Bool) (h:z91_9 N c d=some r) :
 Fn Tryz.prog 91 ⟨5,[.a (cC9 c),.B 0 0],(vV5 1 2 3 4 d []),[(0,.box (cC5 1 2 3 4 d) 58)],5,.O r,[],[(0,.box (cC5 1 2 3 4 d) 58)]⟩:=by
 refine eFn func91 rfl (fun E F w=>?_)
 unfold z91_9 at h
 exact wB J 14 h (fun h=>oi h▸wr J 9 func91 []) fun h=>oi h▸wr J 9 func91 []
theorem z136_10_ct (N:Nat) (d:(List T9)) (e:T5) (r:Int) (h:z136_10 N d e=some r) :
 Fn Tryz.prog 136 ⟨6,[.S 0,.c (.cl 91 [] [1])],((0,.sl rR9 d)::vV5 2 3 4 5 e []),[(1,.box (cC5 2 3 4 5 e) 58)],6,.I r,[],[(1,.box (cC5 2 3 4 5 e) 58)]⟩:=by
 refine eFn func136 rfl (fun E F w=>?_)
 unfold z136_10 at h
 refine wa J 11 (eCut (σ:=Unit) (fun st=>⟨[],[(1,.box (cC5 2 3 4 5 e) 58)],((0,.sl rR9 d)::vV5 2 3 4 5 e []),6⟩) (fun st=>z136_10_k1=some r) ?_ (fun j1=>?_))
 ·intro _ h
  unfold z136_10_k1 at h
  exact oi h▸wr J 4 func136 []
 refine wa J 1 (eLoop (σ:=Int) (fun st=>⟨[(0,.S 0),(1,.c (.cl 91 [] [1])),(7,.I (d.length:Int)),(8,.I st)],[(1,.box (cC5 2 3 4 5 e) 58)],((0,.sl rR9 d)::vV5 2 3 4 5 e []),6⟩) (fun n st=>z136_10_l2 N d e n st) (r:=r) (fun _=>rfl) ?_ (fun ih=>?_))
 ·intro n2 ih3
  intro f h
  unfold z136_10_l2 at h
  refine wB' J 5 h (fun h=>wa J 2 (eSub [] (j1 () h))) fun h=>?_
  refine wO J 14 h fun g i h=>eIx J oO9 i ?_
  refine wO J 1 h fun j k h=>eCl (z91_9_ct N g e _ k) [] [(0,.bp 1 0),(1,.sl 2),(2,.sl 3),(3,.sl 4),(4,.sl 5)] ?_
  exact wB J 1 h (fun h=>oi h▸wr J 6 func136 []) fun h=>wa J 7 (eSub [] (ih3 (w64 (f+1)) h))
 exact eSub [] (ih N 0 h)
theorem z94_11_ct (N:Nat) (d:(List T9)) (e:T5) (r:Bool) (h:z94_11 N d e=some r) :
 Fn Tryz.prog 94 ⟨6,[.S 0,.c (.cl 91 [] [1])],((0,.sl rR9 d)::vV5 2 3 4 5 e []),[(1,.box (cC5 2 3 4 5 e) 58)],6,.O r,[],[(1,.box (cC5 2 3 4 5 e) 58)]⟩:=by
 refine eFn func94 rfl (fun E F w=>?_)
 unfold z94_11 at h
 refine wO J 8 h fun f g h=>eCl (z136_10_ct N d e _ g) [] [(0,.sl 0),(1,.bp 1 0),(2,.sl 2),(3,.sl 3),(4,.sl 4),(5,.sl 5)] ?_
 exact oi h▸wr J 3 func94 []
theorem z39_ct (N:Nat) (c:T5) (d:T8) (r:Bool) (h:z39 N c d=some r) :
 Fn Tryz.prog 39 ⟨7,[.a (cC5 0 1 2 3 c),.a (cC8 4 5 6 d)],((0,.sl rS c.Roles)::(1,.sl rR0 c.Decls)::(2,.sl rR2 c.Edges)::(3,.sl rR11 c.Timeouts)::vV8 4 5 6 d []),[],7,.O r,[],[]⟩:=by
 refine eFn func39 rfl (fun E F w=>?_)
 unfold z39 at h
 refine wO J 14 h fun e f h=>eCl (z92_ct N c _ f) [] [(0,.sl 0),(1,.sl 1),(2,.sl 2),(3,.sl 3)] ?_
 refine wB' J 1 h (fun h=>oi h▸wr J 20 func39 []) fun h=>?_
 refine wO J 1 h fun g i h=>eCl (z93_ct N d _ i) [] [(0,.sl 4),(1,.sl 5),(2,.sl 6)] ?_
 refine wB' J 2 h (fun h=>oi h▸wr J 16 func39 []) fun h=>?_
 refine wB' J 8 h (fun h=>oi h▸wr J 8 func39 []) fun h=>?_
 refine wO J 3 h fun j k h=>eCl (z94_11_ct N d.Moves c _ k) [] [(0,.sl 5),(1,.bp 7 0),(2,.sl 0),(3,.sl 1),(4,.sl 2),(5,.sl 3)] ?_
 exact oi h▸wr J 4 func39 []
theorem z40_ct (N:Nat) (c:T5) (r:(List T4)) (h:z40 N c=some r) :
 Fn Tryz.prog 40 ⟨4,[.a (cC5 0 1 2 3 c)],(vV5 0 1 2 3 c []),[],5,.S 4,[],[(4,.own rR4 r true)]⟩:=by
 refine eFn func40 rfl (fun E F w=>?_)
 unfold z40 at h
 refine wa J 17 (eCut (σ:=(List T4)) (fun st=>⟨[(3,.S 5)],[(5,.own rR4 st true)],(vV5 0 1 2 3 c []),6⟩) (fun st=>z40_k1 st=some r) ?_ (fun j1=>?_))
 ·intro d h
  unfold z40_k1 at h
  exact oi h▸wr J 5 func40 [(4,.sl 5)]
 refine wa J 1 (eLoop (σ:=(List T4) × Int) (fun st=>⟨[(3,.S 5),(7,.S 1),(8,.I (c.Decls.length:Int)),(9,.I st.2)],[(5,.own rR4 st.1 true)],(vV5 0 1 2 3 c []),6⟩) (fun n st=>z40_l2 c n st.1 st.2) (r:=r) (fun _=>rfl) ?_ (fun ih=>?_))
 ·intro n2 ih3
  rintro ⟨e,f⟩ h
  unfold z40_l2 at h
  refine wB' J 5 h (fun h=>wa J 2 (eSub [] (j1 e h))) fun h=>?_
  refine wO J 6 h fun g i h=>eIx J oO0 i ?_
  exact wO J 8 h fun j k h=>eAp J rR4 k (wa J 7 (eSub [(5,.sl 11)] (ih3 (j,(w64 (f+1))) h)))
 exact eSub [(5,.nil)] (ih N (([]:List T4),0) h)
theorem z13_ct (N:Nat) (c:T5) (d:T8) (r:T18) (h:z13 N c d=some r) :
 Fn Tryz.prog 13 ⟨7,[.a (cC5 0 1 2 3 c),.a (cC8 4 5 6 d)],((0,.sl rS c.Roles)::(1,.sl rR0 c.Decls)::(2,.sl rR2 c.Edges)::(3,.sl rR11 c.Timeouts)::vV8 4 5 6 d []),[],9,.a (cC18 7 8 r),(vV18 7 8 r []),[]⟩:=by
 refine eFn func13 rfl (fun E F w=>?_)
 unfold z13 at h
 refine wO J 11 h fun e f h=>eCl (z39_ct N c d _ f) [] [(0,.sl 0),(1,.sl 1),(2,.sl 2),(3,.sl 3),(4,.sl 4),(5,.sl 5),(6,.sl 6)] ?_
 refine wB J 2 h (fun h=>oi h▸wr J 6 func13 [(7,.nil),(8,.nil)]) fun h=>?_
 refine wO J 7 h fun g i h=>eCl (z40_ct N c _ i) [] [(0,.sl 0),(1,.sl 1),(2,.sl 2),(3,.sl 3)] ?_
 refine wO J 1 h fun j k h=>eMk J oO12 k (wa J 2 (eEnd (eFr [11] ?_)))
 cases h
 exact eRet J func13 [(7,.sl 11),(8,.nil)]
theorem z146_ct (N:Nat) (c:T12) (r:Int) (h:z146 N c=some r) :
 Fn Tryz.prog 146 ⟨0,[.a (cC12 c)],[],[],0,.I r,[],[]⟩:=by
 refine eFn func146 rfl (fun E F w=>?_)
 unfold z146 at h
 refine wB J 17 h (fun h=>oi h▸wr J 7 func146 []) fun h=>?_
 exact wB J 6 h (fun h=>oi h▸wr J 8 func146 []) fun h=>oi h▸wr J 7 func146 []
theorem z147_ct (N:Nat) (c:T10) (r:Bool) (h:z147 N c=some r) :
 Fn Tryz.prog 147 ⟨0,[.a (cC10 c)],[],[],0,.O r,[],[]⟩:=by
 refine eFn func147 rfl (fun E F w=>?_)
 unfold z147 at h
 refine wa J 22 (eCut (σ:=Int × Int) (fun st=>⟨[(1,.B 0 0),(3,.I st.1),(4,.I st.2)],[(0,.box (cC10 c) 47)],[],1⟩) (fun st=>z147_k1 c st.1 st.2=some r) ?_ (fun j1=>?_))
 ·rintro ⟨d,e⟩ h
  unfold z147_k1 at h
  refine wB' J 8 h (fun h=>oi h▸wr J 14 func147 []) fun h=>?_
  exact wB J 7 h (fun h=>oi h▸wr J 7 func147 []) fun h=>oi h▸wr J 7 func147 []
 refine eB h (fun h=>wa J 5 (eSub [] (j1 ((-1000),1000) h))) fun h=>?_
 exact wB J 6 h (fun h=>wa J 5 (eSub [] (j1 (0,40) h))) fun h=>oi h▸wr J 5 func147 []
theorem z231_ct (N:Nat) (d:Int) (r:Bool) (h:z231 N d=some r) :
 Fn Tryz.prog 231 ⟨0,[.c (.i .i32 d)],[],[],0,.O r,[],[]⟩:=by
 refine eFn func231 rfl (fun E F w=>?_)
 unfold z231 at h
 exact wB J 9 h (fun h=>oi h▸wr J 5 func231 []) fun h=>oi h▸wr J 5 func231 []
theorem z255_12_ct (N:Nat) (d:ByteArray) (e:Bool) (r:Int) (h:z255_12 N d e=some r) :
 Fn Tryz.prog 255 ⟨0,[.c (.s d),.c (.cl 231 [] []),.O e],[],[],0,.I r,[],[]⟩:=by
 refine eFn func255 rfl (fun E F w=>?_)
 unfold z255_12 at h
 refine wa J 8 (eRn J (fun bk1=>wa J 1 (eCut (σ:=Nat) (fun st=>(zz3 (itR bk1 d st) [])) (fun st=>z255_12_k1 st=some r) ?_ (fun j1=>?_))))
 ·intro vi0_1 h
  unfold z255_12_k1 at h
  exact oi h▸wr J 4 func255 []
 refine wa J 1 (eLoop (σ:=Nat) (fun st=>(zz3 (itR bk1 d st) [(1,.c (.cl 231 [] [])),(2,.O e),(10,.c (.v (.pointer (some ⟨bk1,0,none⟩))))])) (fun n st=>z255_12_l2 N d e n st) (r:=r) (fun _=>rfl) ?_ (fun ih=>?_))
 ·intro n2 ih3
  intro vi0_3 h
  unfold z255_12_l2 at h
  obtain ⟨K,h⟩|⟨K,h⟩:=oc' h
  ·exact wa J 2 (eNf bk1 0 K (wa J 5 (eSub [] (j1 vi0_3 h))))
  refine wa J 2 (eNt bk1 0 K ?_)
  refine wO J 17 h fun f g h=>eCl (z231_ct N ((Utf8.decode d vi0_3).1:Int) _ g) [] [] ?_
  exact wB J 3 h (fun h=>oi h▸wr J 6 func255 []) fun h=>wa J 3 (eSub [] (ih3 (vi0_3+(Utf8.decode d vi0_3).2) h))
 exact eSub [] (ih N (0:Nat) h)
theorem z234_13_ct (N:Nat) (d:ByteArray) (r:Int) (h:z234_13 N d=some r) :
 Fn Tryz.prog 234 ⟨0,[.c (.s d),.c (.cl 231 [] [])],[],[],0,.I r,[],[]⟩:=by
 refine eFn func234 rfl (fun E F w=>?_)
 unfold z234_13 at h
 refine wO J 8 h fun e f h=>eCl (z255_12_ct N d true _ f) [] [] ?_
 exact oi h▸wr J 2 func234 []
theorem z207_14_ct (N:Nat) (d:ByteArray) (r:Bool) (h:z207_14 N d=some r) :
 Fn Tryz.prog 207 ⟨0,[.c (.s d),.c (.cl 231 [] [])],[],[],0,.O r,[],[]⟩:=by
 refine eFn func207 rfl (fun E F w=>?_)
 unfold z207_14 at h
 refine wO J 8 h fun e f h=>eCl (z234_13_ct N d _ f) [] [] ?_
 exact oi h▸wr J 3 func207 []
theorem z201_ct (N:Nat) (d:ByteArray) (r:Bool) (h:z201 N d=some r) :
 Fn Tryz.prog 201 ⟨0,[.c (.s d)],[],[],0,.O r,[],[]⟩:=by
 refine eFn func201 rfl (fun E F w=>?_)
 unfold z201 at h
 refine wO J 7 h fun e f h=>eCl (z207_14_ct N d _ f) [] [] ?_
 exact oi h▸wr J 3 func201 []
theorem z148_ct (N:Nat) (c:T12) (r:Bool) (h:z148 N c=some r) :
 Fn Tryz.prog 148 ⟨0,[.a (cC12 c)],[],[],0,.O r,[],[]⟩:=by
 refine eFn func148 rfl (fun E F w=>?_)
 unfold z148 at h
 refine wB J 17 h (fun h=>?_) fun h=>?_
 ·refine wB' J 7 h (fun h=>oi h▸wr J 11 func148 []) fun h=>?_
  exact wB J 5 h (fun h=>oi h▸wr J 6 func148 []) fun h=>oi h▸wr J 6 func148 []
 refine wB' J 6 h (fun h=>oi h▸wr J 7 func148 []) fun h=>?_
 refine wB' J 7 h (fun h=>oi h▸wr J 12 func148 []) fun h=>?_
 refine wB' J 6 h (fun h=>oi h▸wr J 6 func148 []) fun h=>?_
 refine wO J 2 h fun d e h=>eCl (z201_ct N c.S _ e) [] [] ?_
 exact oi h▸wr J 3 func148 []
theorem z78_ct (N:Nat) (c:T10) (d:T12) (r:Bool) (h:z78 N c d=some r) :
 Fn Tryz.prog 78 ⟨0,[.a (cC10 c),.a (cC12 d)],[],[],0,.O r,[],[]⟩:=by
 refine eFn func78 rfl (fun E F w=>?_)
 unfold z78 at h
 refine wO J 9 h fun e f h=>eCl (z146_ct N d _ f) [] [] ?_
 refine wO J 5 h fun g i h=>eCl (z147_ct N c _ i) [] [] ?_
 refine wB' J 1 h (fun h=>oi h▸wr J 24 func78 []) fun h=>?_
 refine wO J 1 h fun j k h=>eCl (z148_ct N d _ k) [] [] ?_
 refine wB' J 2 h (fun h=>oi h▸wr J 20 func78 []) fun h=>?_
 refine wB' J 7 h (fun h=>oi h▸wr J 13 func78 []) fun h=>?_
 exact wB J 6 h (fun h=>oi h▸wr J 7 func78 []) fun h=>oi h▸wr J 7 func78 []
theorem z77_ct (N:Nat) (c:T4) (d:T12) (r:Bool) (h:z77 N c d=some r) :
 Fn Tryz.prog 77 ⟨0,[.a (cC4 c),.a (cC12 d)],[],[],0,.O r,[],[]⟩:=by
 refine eFn func77 rfl (fun E F w=>?_)
 unfold z77 at h
 refine wa J 10 (eEq ?_)
 refine wB J 1 h (fun h=>oi h▸wr J 7 func77 []) fun h=>?_
 refine wO J 3 h fun e f h=>eCl (z78_ct N c.Sort' d _ f) [] [] ?_
 exact oi h▸wr J 3 func77 []
theorem z79_15_ct (N:Nat) (d:(List T4)) (e:(List T12)) (r:Bool) (h:z79_15 N d e=some r) :
 Fn Tryz.prog 79 ⟨2,[.S 0,.S 1,.c (.cl 77 [] [])],[(0,.sl rR4 d),(1,.sl rR12 e)],[],2,.O r,[],[]⟩:=by
 refine eFn func79 rfl (fun E F w=>?_)
 unfold z79_15 at h
 refine wB J 13 h (fun h=>oi h▸wr J 5 func79 []) fun h=>wa J 9 (eCut (σ:=Unit) (fun st=>(zz5 d e [])) (fun st=>z79_15_k1=some r) ?_ (fun j1=>?_))
 ·intro _ h
  unfold z79_15_k1 at h
  exact oi h▸wr J 4 func79 []
 refine wa J 1 (eLoop (σ:=Int) (fun st=>(zz5 d e [(1,.S 1),(2,.c (.cl 77 [] [])),(15,.S 0),(16,.I (d.length:Int)),(17,.I st)])) (fun n st=>z79_15_l2 N d e n st) (r:=r) (fun _=>rfl) ?_ (fun ih=>?_))
 ·intro n2 ih3
  intro f h
  unfold z79_15_l2 at h
  refine wB' J 5 h (fun h=>wa J 2 (eSub [] (j1 () h))) fun h=>?_
  refine wO J 7 h fun g i h=>eIx J oO4 i ?_
  refine wO J 9 h fun j k h=>eIx J oO12 k ?_
  refine wO J 9 h fun l m h=>eCl (z77_ct N g j _ m) [] [] ?_
  exact wB J 2 h (fun h=>oi h▸wr J 5 func79 []) fun h=>wa J 7 (eSub [] (ih3 (w64 (f+1)) h))
 exact eSub [] (ih N 0 h)
theorem z34_ct (N:Nat) (c:T5) (d:T8) (e:T18) (r:Bool) (h:z34 N c d e=some r) :
 Fn Tryz.prog 34 ⟨9,[.a (cC5 0 1 2 3 c),.a (cC8 4 5 6 d),.a (cC18 7 8 e)],((0,.sl rS c.Roles)::(1,.sl rR0 c.Decls)::(2,.sl rR2 c.Edges)::(3,.sl rR11 c.Timeouts)::(4,.sl rB d.Finals)::(5,.sl rR9 d.Moves)::(6,.sl rR11 d.Timeouts)::vV18 7 8 e []),[],9,.O r,[],[]⟩:=by
 refine eFn func34 rfl (fun E F w=>?_)
 unfold z34 at h
 refine wO J 15 h fun f g h=>eCl (z39_ct N c d _ g) [] [(0,.sl 0),(1,.sl 1),(2,.sl 2),(3,.sl 3),(4,.sl 4),(5,.sl 5),(6,.sl 6)] ?_
 refine wB' J 1 h (fun h=>wa J 20 (eEnd ?_)) fun h=>?_
 ·cases h
  exact eRet J func34 []
 refine wB' J 5 h (fun h=>wa J 15 (eEnd ?_)) fun h=>?_
 ·cases h
  exact eRet J func34 []
 refine wB' J 7 h (fun h=>wa J 8 (eEnd ?_)) fun h=>?_
 ·cases h
  exact eRet J func34 []
 refine wO J 1 h fun i j h=>eCl (z40_ct N c _ j) [] [(0,.sl 0),(1,.sl 1),(2,.sl 2),(3,.sl 3)] ?_
 refine wO J 3 h fun k l h=>eCb (z79_15_ct N i e.Known _ l) [] [(0,.sl 12),(1,.sl 7)] [12] (.inr ⟨rfl,trivial⟩) (wa J 2 (eEnd ?_))
 cases h
 exact eRet J func34 []
theorem z29_ct (N:Nat) (c:T5) (d:T8) (r:Bool) (h:z29 N c d=some r) :
 Fn Tryz.prog 29 ⟨7,[.a (cC5 0 1 2 3 c),.a (cC8 4 5 6 d)],((0,.sl rS c.Roles)::(1,.sl rR0 c.Decls)::(2,.sl rR2 c.Edges)::(3,.sl rR11 c.Timeouts)::vV8 4 5 6 d []),[],7,.O r,[],[]⟩:=by
 refine eFn func29 rfl (fun E F w=>?_)
 unfold z29 at h
 refine wO J 12 h fun e f h=>eCl (z13_ct N c d _ f) [] [(0,.sl 0),(1,.sl 1),(2,.sl 2),(3,.sl 3),(4,.sl 4),(5,.sl 5),(6,.sl 6)] ?_
 obtain ⟨g,i,h⟩:=ob h
 refine eCl (z34_ct N c d e _ i) [] [(0,.sl 0),(1,.sl 1),(2,.sl 2),(3,.sl 3),(4,.sl 4),(5,.sl 5),(6,.sl 6),(7,.sl 9),(8,.sl 10)] (wa J 1 (eEnd ?_))
 cases h
 exact eRet J func29 []
theorem z35_ct (N:Nat) (c:T8) (d:Int) (r:(List Int)) (h:z35 N c d=some r) :
 Fn Tryz.prog 35 ⟨3,[.a (cC8 0 1 2 c),.I d],(vV8 0 1 2 c []),[],4,.S 3,[(3,.sl (rI .i64) r)],[]⟩:=by
 refine eFn func35 rfl (fun E F w=>?_)
 unfold z35 at h
 obtain ⟨e,f,h⟩:=ob h
 rcases oO h with ⟨ox1,h⟩ | ⟨q2,ox1,h⟩
 ·refine wa J 8 (eCl (machine_open_ctn N c _ f ox1) [] [(0,.sl 0),(1,.sl 1),(2,.sl 2)] ?_)
  refine wB J 12 h (fun h=>oi h▸wr J 15 func35 [(3,.nil)]) fun h=>?_
  refine wB J 4 h (fun h=>oi h▸wr J 11 func35 [(3,.nil)]) fun h=>?_
  refine wB J 6 h (fun h=>oi h▸wr J 5 func35 [(3,.nil)]) fun h=>?_
  cases h
 refine wa J 8 (eCl (machine_open_cts N c _ f q2 ox1) [] [(0,.sl 0),(1,.sl 1),(2,.sl 2)] ?_)
 refine wB J 12 h (fun h=>oi h▸wr J 15 func35 [(3,.nil)]) fun h=>?_
 refine wB J 4 h (fun h=>oi h▸wr J 11 func35 [(3,.nil)]) fun h=>?_
 refine wB J 6 h (fun h=>oi h▸wr J 5 func35 [(3,.nil)]) fun h=>?_
 refine wO J 9 h fun g i h=>eIx J (oSl (rI .i64)) i ?_
 exact oi h▸wr J 3 func35 [(3,.sl 10)]
theorem z48_ct (N:Nat) (d:Int) (r:ByteArray) (h:z48 N d=some r):Fn Tryz.prog 48 ⟨1,[.I d],[],[(0,.abs powT)],1,.c (.s r),[],[(0,.abs powT)]⟩:=by
 unfold z48 at h
 cases hb:(decide ((-9223372036854775808)≤d) && decide (d≤9223372036854775807)) with
 | false=>rw [hb] at h;cases h
 | true =>
  rw [hb] at h
  simp only [cond_true,Option.some.injEq] at h
  subst h
  simp only [Bool.and_eq_true,decide_eq_true_eq] at hb
  exact itoa_fn d hb.1 hb.2
theorem z23_ct (N:Nat) (d:T4) (r:ByteArray) (h:z23 N d=some r) :
 Fn Tryz.prog 23 ⟨1,[.a (cC4 d)],[],[(0,.abs powT)],1,.c (.s r),[],[(0,.abs powT)]⟩:=by
 refine eFn func23 rfl (fun E F w=>?_)
 unfold z23 at h
 refine wa J 17 (eCut (σ:=ByteArray) (fun st=>⟨[(1,.B 1 0),(3,.c (.s st))],[(0,.abs powT),(1,.box (cC4 d) 49)],[],2⟩) (fun st=>z23_k1 N d st=some r) ?_ (fun j1=>?_))
 ·intro e h
  unfold z23_k1 at h
  refine wO J 4 h fun f g h=>eCa g ?_
  refine wO J 1 h fun i j h=>eCa j ?_
  obtain ⟨k,l,h⟩:=ob h
  refine eCa l ?_
  refine wO J 3 h fun m o h=>eCl (z48_ct N d.Sort'.Lo _ o) [] [(0,.sl 0)] ?_
  obtain ⟨p,q,h⟩:=ob h
  refine eCa q ?_
  obtain ⟨t,u,h⟩:=ob h
  refine eCa u ?_
  refine wO J 3 h fun v x h=>eCl (z48_ct N d.Sort'.Hi _ x) [] [(0,.sl 0)] ?_
  obtain ⟨y,z,h⟩:=ob h
  refine eCa z (wa J 1 (eEnd ?_))
  cases h
  exact eRet J func23 []
 exact eB h (fun h=>wa J 4 (eSub [] (j1 (str [116,101,120,116]) h))) fun h=>wa J 2 (eSub [] (j1 (str [105,110,116]) h))
theorem z108_ct (N:Nat) (c:(List T0)) (d:Int) (r:T0 × T4 × Bool) (h:z108 N c d=some r) :
 Fn Tryz.prog 108 ⟨1,[.S 0,.I d],[(0,.sl rR0 c)],[],4,.t [.inr (cC0 1 2 3 r.1),.inr (cC4 r.2.1),.inl (.b r.2.2)],(vV0 1 2 3 r.1 []),[]⟩:=by
 refine eFn func108 rfl (fun E F w=>?_)
 unfold z108 at h
 refine wa J 13 (eCut (σ:=Unit) (fun st=>(zz27 c [(4,.B 1 0),(5,.B 2 0)])) (fun st=>z108_k1=some r) ?_ (fun j1=>?_))
 ·intro _ h
  unfold z108_k1 at h
  exact oi h▸wr J 8 func108 [(1,.nil),(2,.nil),(3,.nil)]
 refine wa J 1 (eLoop (σ:=Int × Int) (fun st=>(zz27 c [(1,.I st.1),(4,.B 1 0),(5,.B 2 0),(9,.S 0),(10,.I (c.length:Int)),(11,.I st.2)])) (fun n st=>z108_l2 c n st.1 st.2) (r:=r) (fun _=>rfl) ?_ (fun ih=>?_))
 ·intro n2 ih3
  rintro ⟨e,f⟩ h
  unfold z108_l2 at h
  refine wB' J 5 h (fun h=>wa J 2 (eSub [] (j1 () h))) fun h=>?_
  refine wO J 6 h fun g i h=>eIx J oO0 i ?_
  refine wB' J 10 h (fun h=>wa J 22 (eSub [] (ih3 ((w64 (e-(g.Fields.length:Int))),(w64 (f+1))) h))) fun h=>?_
  refine wB' J 7 h (fun h=>wa J 15 (eSub [] (ih3 ((w64 (e-(g.Fields.length:Int))),(w64 (f+1))) h))) fun h=>?_
  refine wO J 7 h fun j k h=>eIx J oO4 k (wa J 4 (eEnd ?_))
  cases h
  exact eRet J func108 [(1,.sl 4),(2,.sl 5),(3,.sl 6)]
 exact eSub [] (ih N (d,0) h)
theorem z50_ct (N:Nat) (d:(List T0)) (e:Int) (r:ByteArray) (h:z50 N d e=some r) :
 Fn Tryz.prog 50 ⟨1,[.S 0,.I e],[(0,.sl rR0 d)],[],1,.c (.s r),[],[]⟩:=by
 refine eFn func50 rfl (fun E F w=>?_)
 unfold z50 at h
 refine wO J 8 h fun f g h=>eCl (z108_ct N d e _ g) [] [(0,.sl 0)] ?_
 refine wO J 14 h fun i j h=>eCa j ?_
 refine wO J 2 h fun k l h=>eCa l ?_
 exact oi h▸wr J 2 func50 []
theorem z107_ct (N:Nat) (d:(List T0)) (e:Int) (r:ByteArray) (h:z107 N d e=some r) :
 Fn Tryz.prog 107 ⟨1,[.S 0,.I e],[(0,.sl rR0 d)],[],1,.c (.s r),[],[]⟩:=by
 refine eFn func107 rfl (fun E F w=>?_)
 unfold z107 at h
 refine wO J 9 h fun f g h=>eCl (z108_ct N d e _ g) [] [(0,.sl 0)] ?_
 refine wB' J 17 h (fun h=>?_) fun h=>?_
 ·refine wO J 6 h fun i j h=>eCl (z50_ct N d e _ j) [] [(0,.sl 0)] ?_
  exact oi h▸wr J 2 func107 []
 refine wO J 5 h fun k l h=>eCl (z50_ct N d e _ l) [] [(0,.sl 0)] ?_
 obtain ⟨m,o,h⟩:=ob h
 refine eCa o ?_
 obtain ⟨p,q,h⟩:=ob h
 refine eCa q ?_
 exact oi h▸wr J 2 func107 []
theorem z49_ct (N:Nat) (d:(List T0)) (e:T1) (r:ByteArray) (h:z49 N d e=some r) :
 Fn Tryz.prog 49 ⟨2,[.S 0,.a (cC1 e)],[(0,.sl rR0 d)],[(1,.abs powT)],2,.c (.s r),[],[(1,.abs powT)]⟩:=by
 refine eFn func49 rfl (fun E F w=>?_)
 unfold z49 at h
 refine wa J 13 (eCut (σ:=Bool) (fun st=>⟨[(0,.S 0),(3,.B 2 0),(6,.O st)],[(1,.abs powT),(2,.box (cC1 e) 116)],[(0,.sl rR0 d)],3⟩) (fun st=>z49_k1 N d e st=some r) ?_ (fun j1=>?_))
 ·intro f h
  unfold z49_k1 at h
  refine eB h (fun h=>?_) fun h=>?_
  ·refine wO J 5 h fun g i h=>eCl (z48_ct N e.C _ i) [] [(0,.sl 1)] ?_
   obtain ⟨j,k,h⟩:=ob h
   refine eCa k ?_
   exact oi h▸wr J 2 func49 []
  refine wB J 8 h (fun h=>?_) fun h=>?_
  ·refine wO J 6 h fun l m h=>eCl (z107_ct N d e.X _ m) [] [(0,.sl 0)] ?_
   obtain ⟨o,p,h⟩:=ob h
   refine eCa p ?_
   refine wO J 2 h fun q t h=>eCl (z48_ct N e.C _ t) [] [(0,.sl 1)] ?_
   obtain ⟨u,v,h⟩:=ob h
   refine eCa v (wa J 1 (eEnd ?_))
   cases h
   exact eRet J func49 []
  refine wB J 8 h (fun h=>?_) fun h=>?_
  ·refine wO J 6 h fun x y h=>eCl (z107_ct N d e.Y _ y) [] [(0,.sl 0)] ?_
   obtain ⟨z,A,h⟩:=ob h
   refine eCa A ?_
   refine wO J 3 h fun D G h=>eCl (z48_ct N (w64 (0-e.C)) _ G) [] [(0,.sl 1)] ?_
   obtain ⟨H,R,h⟩:=ob h
   refine eCa R (wa J 1 (eEnd ?_))
   cases h
   exact eRet J func49 []
  refine wO J 8 h fun T U h=>eCl (z107_ct N d e.X _ U) [] [(0,.sl 0)] ?_
  obtain ⟨Z,a0,h⟩:=ob h
  refine eCa a0 ?_
  refine wO J 3 h fun b0 c0 h=>eCl (z107_ct N d e.Y _ c0) [] [(0,.sl 0)] ?_
  obtain ⟨d0,e0,h⟩:=ob h
  refine eCa e0 (wa J 1 (eEnd ?_))
  refine wB J 9 h (fun h=>?_) fun h=>?_
  ·refine wO J 4 h fun f0 g0 h=>eCa g0 ?_
   refine wO J 2 h fun i0 j0 h=>eCl (z48_ct N e.C _ j0) [] [(0,.sl 1)] ?_
   obtain ⟨k0,l0,h⟩:=ob h
   refine eCa l0 ?_
   exact oi h▸wr J 2 func49 []
  refine wB' J 8 h (fun h=>oi h▸wr J 8 func49 []) fun h=>?_
  refine wO J 4 h fun m0 o0 h=>eCa o0 ?_
  refine wO J 3 h fun p0 q0 h=>eCl (z48_ct N (w64 (0-e.C)) _ q0) [] [(0,.sl 1)] ?_
  obtain ⟨s0,t0,h⟩:=ob h
  refine eCa t0 ?_
  exact oi h▸wr J 2 func49 []
 exact eB h (fun h=>wa J 6 (eSub [] (j1 (decide (e.Y < 0)) h))) fun h=>wa J 6 (eSub [] (j1 false h))
theorem z24_ct (N:Nat) (d:(List T0)) (e:Int) (f:Int) (r:ByteArray) (h:z24 N d e f=some r) :
 Fn Tryz.prog 24 ⟨2,[.S 0,.I e,.I f],[(0,.sl rR0 d)],[(1,.abs powT)],2,.c (.s r),[],[(1,.abs powT)]⟩:=by
 refine eFn func24 rfl (fun E F w=>?_)
 unfold z24 at h
 refine wO J 9 h fun g i h=>eCl (z22_ct N d e _ i) [] [(0,.sl 0)] ?_
 refine wB J 11 h (fun h=>oi h▸wr J 9 func24 []) fun h=>?_
 refine wB J 4 h (fun h=>oi h▸wr J 5 func24 []) fun h=>?_
 refine wO J 6 h fun j k h=>eIx J oO0 k ?_
 refine wB J 14 h (fun h=>?_) fun h=>?_
 ·refine wO J 7 h fun l m h=>eIx J oO1 m ?_
  refine wO J 1 h fun o p h=>eCl (z49_ct N d l _ p) [] [(0,.sl 0),(1,.sl 1)] ?_
  exact oi h▸wr J 2 func24 []
 refine wB' J 20 h (fun h=>oi h▸wr J 6 func24 []) fun h=>?_
 refine wO J 7 h fun q t h=>eIx J (oP (oI .i64) (oI .i64)) t (eAq 0 rfl ?_)
 refine wO J 1 h fun u v h=>eCl (z50_ct N d q.1 _ v) [] [(0,.sl 0)] ?_
 obtain ⟨x,y,h⟩:=ob h
 refine eCa y ?_
 refine wO J 4 h fun z A h=>eIx J (oP (oI .i64) (oI .i64)) A (eAq 1 rfl ?_)
 refine wO J 1 h fun C D h=>eCl (z50_ct N d z.2 _ D) [] [(0,.sl 0)] ?_
 obtain ⟨G,H,h⟩:=ob h
 refine eCa H (wa J 1 (eEnd ?_))
 cases h
 exact eRet J func24 []
theorem z25_ct (N:Nat) (d:List ByteArray) (e:ByteArray) (r:ByteArray) (h:z25 N d e=some r):Fn Tryz.prog 25 ⟨1,[.S 0,.c (.s e)],[(0,.sl rS d)],[],1,.c (.s r),[],[]⟩:=by
  unfold z25 at h
  cases hb:(decide (d.length≤140737488355328) && decide ((joinL e.data.toList (d.map (·.data.toList))).length≤140737488355328)) with
  | false=>rw [hb] at h;cases h
  | true =>
    rw [hb] at h
    simp only [cond_true,Option.some.injEq] at h
    subst h
    simp only [Bool.and_eq_true,decide_eq_true_eq] at hb
    exact join_fn d e hb.1 hb.2
theorem z7_ct (N:Nat) (d:(List T0)) (e:Int) (r:ByteArray) (h:z7 N d e=some r) :
 Fn Tryz.prog 7 ⟨2,[.S 0,.I e],[(0,.sl rR0 d)],[(1,.abs powT)],2,.c (.s r),[],[(1,.abs powT)]⟩:=by
 refine eFn func7 rfl (fun E F w=>?_)
 unfold z7 at h
 refine wO J 9 h fun f g h=>eCl (z22_ct N d e _ g) [] [(0,.sl 0)] ?_
 refine wB J 11 h (fun h=>oi h▸wr J 5 func7 []) fun h=>?_
 refine wO J 6 h fun i j h=>eIx J oO0 j (wa J 17 (eCut (σ:=(List ByteArray)) (fun st=>(zz28 powT i st d [(0,.S 0),(1,.I e),(7,.B 7 0),(8,.S 8),(9,.c .nil)])) (fun st=>z7_k3 N d e i st=some r) ?_ (fun j1=>?_)))
 ·intro k h
  unfold z7_k3 at h
  refine wa J 14 (eCut (σ:=(List ByteArray)) (fun st=>(zz29 powT i k st d [(7,.B 7 0),(8,.S 8),(9,.S 9)])) (fun st=>z7_k1 N i k st=some r) ?_ (fun j3=>?_))
  ·intro l h
   unfold z7_k1 at h
   refine wO J 4 h fun m o h=>eCa o ?_
   refine wO J 1 h fun p q h=>eCb (z25_ct N k (str [44,32]) _ q) [] [(0,.sl 8)] [8] (.inr ⟨rfl,trivial⟩) ?_
   obtain ⟨t,u,h⟩:=ob h
   refine eCa u ?_
   obtain ⟨v,x,h⟩:=ob h
   refine eCa x (wa J 1 (eEnd ?_))
   refine wB' J 7 h (fun h=>oi h▸wr J 7 func7 []) fun h=>?_
   refine wO J 4 h fun y z h=>eCb (z25_ct N l (str [32,97,110,100,32]) _ z) [] [(0,.sl 9)] [9] (.inr ⟨rfl,trivial⟩) ?_
   obtain ⟨A,C,h⟩:=ob h
   refine eCa C ?_
   obtain ⟨D,G,h⟩:=ob h
   refine eCa G ?_
   exact oi h▸wr J 7 func7 []
  refine wa J 1 (eLoop (σ:=(List ByteArray) × Int) (fun st=>(zz29 powT i k st.1 d [(0,.S 0),(1,.I e),(7,.B 7 0),(8,.S 8),(9,.S 9),(47,.I (w64 ((i.Guard.Diffs.length:Int)+(i.Guard.Equals.length:Int)))),(48,.I st.2)])) (fun n st=>z7_l2 N d e i k n st.1 st.2) (r:=r) (fun _=>rfl) ?_ (fun ih=>?_))
  ·intro n3 ih5
   rintro ⟨H,R⟩ h
   unfold z7_l2 at h
   refine wB' J 5 h (fun h=>wa J 2 (eSub [] (j3 H h))) fun h=>?_
   refine wO J 14 h fun T U h=>eCl (z24_ct N d e R _ U) [] [(0,.sl 0),(1,.sl 1)] (eBs J [] oS ([T]:List ByteArray) ?_)
   obtain ⟨X,Y,h⟩:=ob h
   exact eAp J rS Y (wa J 7 (eSub [(9,.sl 11)] (ih5 (X,(w64 (R+1))) h)))
  exact eSub [(9,.nil)] (ih N (([]:List ByteArray),0) h)
 refine wa J 1 (eLoop (σ:=(List ByteArray) × Int) (fun st=>(zz28 powT i st.1 d [(0,.S 0),(1,.I e),(7,.B 7 0),(8,.S 8),(9,.c .nil),(27,.S 4),(28,.I (i.Fields.length:Int)),(29,.I st.2)])) (fun n st=>z7_l4 N d e i n st.1 st.2) (r:=r) (fun _=>rfl) ?_ (fun ih=>?_))
 ·intro n4 ih6
  rintro ⟨Z,a0⟩ h
  unfold z7_l4 at h
  refine wB' J 5 h (fun h=>wa J 2 (eSub [] (j1 Z h))) fun h=>?_
  refine wO J 6 h fun b0 c0 h=>eIx J oO4 c0 ?_
  refine wO J 7 h fun d0 e0 h=>eCl (z23_ct N b0 _ e0) [] [(0,.sl 1)] (eBs J [] oS ([d0]:List ByteArray) ?_)
  obtain ⟨f0,g0,h⟩:=ob h
  exact eAp J rS g0 (wa J 7 (eSub [(8,.sl 12)] (ih6 (f0,(w64 (a0+1))) h)))
 exact eSub [(8,.nil)] (ih N (([]:List ByteArray),0) h)
theorem z135_16_ct (N:Nat) (c:T11) (d:Int) (r:Bool) (h:z135_16 N c d=some r) :
 Fn Tryz.prog 135 ⟨1,[.a (cC11 c),.B 0 0],[],[(0,.box [.I d] 3)],1,.O r,[],[(0,.box [.I d] 3)]⟩:=by
 refine eFn func135 rfl (fun E F w=>?_)
 unfold z135_16 at h
 exact oi h▸wr J 13 func135 []
theorem z134_17_ct (N:Nat) (d:(List T11)) (e:Int) (r:Int) (h:z134_17 N d e=some r) :
 Fn Tryz.prog 134 ⟨2,[.S 0,.c (.cl 135 [] [1])],[(0,.sl rR11 d)],[(1,.box [.I e] 3)],2,.I r,[],[(1,.box [.I e] 3)]⟩:=by
 refine eFn func134 rfl (fun E F w=>?_)
 unfold z134_17 at h
 refine wa J 11 (eCut (σ:=Unit) (fun st=>⟨[],[(1,.box [.I e] 3)],[(0,.sl rR11 d)],2⟩) (fun st=>z134_17_k1=some r) ?_ (fun j1=>?_))
 ·intro _ h
  unfold z134_17_k1 at h
  exact oi h▸wr J 4 func134 []
 refine wa J 1 (eLoop (σ:=Int) (fun st=>⟨[(0,.S 0),(1,.c (.cl 135 [] [1])),(7,.I (d.length:Int)),(8,.I st)],[(1,.box [.I e] 3)],[(0,.sl rR11 d)],2⟩) (fun n st=>z134_17_l2 N d e n st) (r:=r) (fun _=>rfl) ?_ (fun ih=>?_))
 ·intro n2 ih3
  intro f h
  unfold z134_17_l2 at h
  refine wB' J 5 h (fun h=>wa J 2 (eSub [] (j1 () h))) fun h=>?_
  refine wO J 14 h fun g i h=>eIx J oO11 i ?_
  refine wO J 1 h fun j k h=>eCl (z135_16_ct N g e _ k) [] [(0,.bp 1 0)] ?_
  exact wB J 1 h (fun h=>oi h▸wr J 6 func134 []) fun h=>wa J 7 (eSub [] (ih3 (w64 (f+1)) h))
 exact eSub [] (ih N 0 h)
theorem z72_ct (N:Nat) (c:T8) (d:Int) (r:T11 × Bool) (h:z72 N c d=some r) :
 Fn Tryz.prog 72 ⟨3,[.a (cC8 0 1 2 c),.I d],(vV8 0 1 2 c []),[],3,.t [.inr (cC11 r.1),.inl (.b r.2)],[],[]⟩:=by
 refine eFn func72 rfl (fun E F w=>?_)
 unfold z72 at h
 refine wO J 11 h fun e f h=>eCl (z93_ct N c _ f) [] [(0,.sl 0),(1,.sl 1),(2,.sl 2)] ?_
 refine wB J 2 h (fun h=>oi h▸wr J 7 func72 []) fun h=>?_
 refine wO J 7 h fun g i h=>eCl (z134_17_ct N c.Timeouts d _ i) [] [(0,.sl 2),(1,.bp 4 0)] ?_
 refine wB J 8 h (fun h=>oi h▸wr J 7 func72 []) fun h=>?_
 refine wO J 7 h fun j k h=>eIx J oO11 k ?_
 exact oi h▸wr J 4 func72 []
theorem z30_ct (N:Nat) (c:T5) (d:T8) (e:Int) (r:(List ByteArray)) (h:z30 N c d e=some r) :
 Fn Tryz.prog 30 ⟨8,[.a (cC5 0 1 2 3 c),.a (cC8 4 5 6 d),.I e],((0,.sl rS c.Roles)::(1,.sl rR0 c.Decls)::(2,.sl rR2 c.Edges)::(3,.sl rR11 c.Timeouts)::vV8 4 5 6 d []),[(7,.abs powT)],9,.S 8,[],[(8,.own rS r true),(7,.abs powT)]⟩:=by
 refine eFn func30 rfl (fun E F w=>?_)
 unfold z30 at h
 refine wO J 15 h fun f g h=>eCl (z35_ct N d e _ g) [] [(0,.sl 4),(1,.sl 5),(2,.sl 6)] (wa J 3 (eCut (σ:=(List ByteArray)) (fun st=>⟨[(2,.I e),(3,.B 8 0),(4,.B 9 0),(7,.S 11)],[(7,.abs powT),(8,.box (cC5 0 1 2 3 c) 58),(9,.box (cC8 4 5 6 d) 64),(11,.own rS st true)],((0,.sl rS c.Roles)::(1,.sl rR0 c.Decls)::(2,.sl rR2 c.Edges)::(3,.sl rR11 c.Timeouts)::vV8 4 5 6 d []),12⟩) (fun st=>z30_k1 N c d e st=some r) ?_ (fun j1=>?_)))
 ·intro i h
  unfold z30_k1 at h
  refine wO J 5 h fun j k h=>eCl (z72_ct N d e _ k) [] [(0,.sl 4),(1,.sl 5),(2,.sl 6)] ?_
  refine wB' J 11 h (fun h=>?_) fun h=>?_
  ·refine wO J 8 h fun l m h=>eIx J oB m ?_
   refine wB' J 2 h (fun h=>oi h▸wr J 7 func30 [(8,.sl 11)]) fun h=>wa J 3 (eBs J [] oS ([(str [116,104,101,32,101,110,100])]:List ByteArray) ?_)
   obtain ⟨o,p,h⟩:=ob h
   refine eAp J rS p ?_
   exact oi h▸wr J 7 func30 [(8,.sl 15)]
  refine wO J 7 h fun q s h=>eIx J oO9 s ?_
  refine wO J 8 h fun t u h=>eCl (z48_ct N j.1.Ticks _ u) [] [(0,.sl 7)] ?_
  obtain ⟨v,x,h⟩:=ob h
  refine eCa x ?_
  obtain ⟨y,z,h⟩:=ob h
  refine eCa z ?_
  refine wO J 4 h fun A C h=>eIx J oO0 C ?_
  refine wO J 2 h fun D G h=>eCa G ?_
  obtain ⟨H,R,h⟩:=ob h
  refine eCa R ?_
  refine wO J 4 h fun T U h=>eIx J oS U ?_
  refine wO J 1 h fun X Y h=>eCa Y (eBs J [] oS ([X]:List ByteArray) ?_)
  obtain ⟨Z,a0,h⟩:=ob h
  refine eAp J rS a0 (wa J 1 (eEnd ?_))
  refine wO J 6 h fun b0 c0 h=>eIx J oB c0 ?_
  refine wB' J 2 h (fun h=>oi h▸wr J 7 func30 [(8,.sl 21)]) fun h=>wa J 3 (eBs J [] oS ([(str [116,104,101,32,101,110,100])]:List ByteArray) ?_)
  obtain ⟨d0,e0,h⟩:=ob h
  refine eAp J rS e0 ?_
  exact oi h▸wr J 7 func30 [(8,.sl 24)]
 refine wa J 1 (eLoop (σ:=(List ByteArray) × Int) (fun st=>⟨[(2,.I e),(3,.B 8 0),(4,.B 9 0),(7,.S 11),(17,.S 10),(18,.I (f.length:Int)),(19,.I st.2)],[(7,.abs powT),(8,.box (cC5 0 1 2 3 c) 58),(9,.box (cC8 4 5 6 d) 64),(11,.own rS st.1 true)],((0,.sl rS c.Roles)::(1,.sl rR0 c.Decls)::(2,.sl rR2 c.Edges)::(3,.sl rR11 c.Timeouts)::vV8 4 5 6 d [(10,.sl (rI .i64) f)]),12⟩) (fun n st=>z30_l2 N c d e f n st.1 st.2) (r:=r) (fun _=>rfl) ?_ (fun ih=>?_))
 ·intro n2 ih3
  rintro ⟨f0,g0⟩ h
  unfold z30_l2 at h
  refine wB' J 5 h (fun h=>wa J 2 (eSub [] (j1 f0 h))) fun h=>?_
  refine wO J 6 h fun i0 j0 h=>eIx J (oI .i64) j0 ?_
  refine wO J 8 h fun k0 l0 h=>eIx J oO9 l0 ?_
  refine wO J 10 h fun m0 o0 h=>eIx J oS o0 ?_
  refine wB J 10 h (fun h=>?_) fun h=>?_
  ·refine wO J 7 h fun p0 q0 h=>eIx J oO0 q0 ?_
   refine wO J 2 h fun s0 t0 h=>eCa t0 ?_
   obtain ⟨u0,v0,h⟩:=ob h
   refine eCa v0 ?_
   refine wO J 1 h fun x0 y0 h=>eCa y0 (eBs J [] oS ([x0]:List ByteArray) ?_)
   obtain ⟨z0,A0,h⟩:=ob h
   exact eAp J rS A0 (wa J 8 (eSub [(11,.sl 21)] (ih3 (z0,(w64 (g0+1))) h)))
  refine wB J 7 h (fun h=>?_) fun h=>?_
  ·refine wO J 7 h fun B0 C0 h=>eCl (z7_ct N c.Decls k0.Label _ C0) [] [(0,.sl 1),(1,.sl 7)] ?_
   obtain ⟨D0,G0,h⟩:=ob h
   refine eCa G0 ?_
   obtain ⟨H0,I0,h⟩:=ob h
   refine eCa I0 ?_
   refine wO J 1 h fun L0 M0 h=>eCa M0 (eBs J [] oS ([L0]:List ByteArray) ?_)
   obtain ⟨O0,R0,h⟩:=ob h
   exact eAp J rS R0 (wa J 8 (eSub [(11,.sl 17)] (ih3 (O0,(w64 (g0+1))) h)))
  refine wO J 7 h fun S0 T0 h=>eCl (z7_ct N c.Decls k0.Label _ T0) [] [(0,.sl 1),(1,.sl 7)] ?_
  obtain ⟨U0,V0,h⟩:=ob h
  refine eCa V0 ?_
  obtain ⟨X0,Y0,h⟩:=ob h
  refine eCa Y0 ?_
  refine wO J 1 h fun Z0 a1 h=>eCa a1 (eBs J [] oS ([Z0]:List ByteArray) ?_)
  obtain ⟨b1,c1,h⟩:=ob h
  exact eAp J rS c1 (wa J 8 (eSub [(11,.sl 17)] (ih3 (b1,(w64 (g0+1))) h)))
 exact eSub [(11,.nil)] (ih N (([]:List ByteArray),0) h)
theorem z10_ct (N:Nat) (c:T5) (d:T8) (e:Int) (r:(List ByteArray) × Int) (h:z10 N c d e=some r) :
 Fn Tryz.prog 10 ⟨8,[.a (cC5 0 1 2 3 c),.a (cC8 4 5 6 d),.I e],((0,.sl rS c.Roles)::(1,.sl rR0 c.Decls)::(2,.sl rR2 c.Edges)::(3,.sl rR11 c.Timeouts)::vV8 4 5 6 d []),[(7,.abs powT)],9,.t [.inl (.sl 8),.inl (.I r.2)],[],[(8,.own rS r.1 true),(7,.abs powT)]⟩:=by
 refine eFn func10 rfl (fun E F w=>?_)
 unfold z10 at h
 refine wO J 12 h fun f g h=>eCl (z29_ct N c d _ g) [] [(0,.sl 0),(1,.sl 1),(2,.sl 2),(3,.sl 3),(4,.sl 4),(5,.sl 5),(6,.sl 6)] ?_
 refine wB J 2 h (fun h=>oi h▸wr J 16 func10 [(8,.nil)]) fun h=>?_
 refine wB J 4 h (fun h=>oi h▸wr J 12 func10 [(8,.nil)]) fun h=>?_
 refine wB J 6 h (fun h=>oi h▸wr J 6 func10 [(8,.nil)]) fun h=>?_
 refine wO J 7 h fun i j h=>eCl (z30_ct N c d e _ j) [] [(0,.sl 0),(1,.sl 1),(2,.sl 2),(3,.sl 3),(4,.sl 4),(5,.sl 5),(6,.sl 6),(7,.sl 7)] ?_
 exact oi h▸wr J 3 func10 [(8,.sl 10)]
theorem z137_18_ct (N:Nat) (c:T9) (d:T18) (e:T3) (r:Bool) (h:z137_18 N c d e=some r) :
 Fn Tryz.prog 137 ⟨5,[.a (cC9 c),.B 0 0,.B 3 0],(vV18 1 2 d [(4,.sl rR12 e.Values)]),[(0,.box (cC18 1 2 d) 75),(3,.box (cC3 4 e) 71)],5,.O r,[],[(0,.box (cC18 1 2 d) 75),(3,.box (cC3 4 e) 71)]⟩:=by
 refine eFn func137 rfl (fun E F w=>?_)
 unfold z137_18 at h
 refine wB' J 13 h (fun h=>oi h▸wr J 22 func137 []) fun h=>?_
 refine wB' J 7 h (fun h=>oi h▸wr J 15 func137 []) fun h=>?_
 exact wB J 7 h (fun h=>oi h▸wr J 8 func137 []) fun h=>oi h▸wr J 8 func137 []
theorem z136_19_ct (N:Nat) (d:(List T9)) (e:T18) (f:T3) (r:Int) (h:z136_19 N d e f=some r) :
 Fn Tryz.prog 136 ⟨6,[.S 0,.c (.cl 137 [] [1,4])],((0,.sl rR9 d)::vV18 2 3 e [(5,.sl rR12 f.Values)]),[(1,.box (cC18 2 3 e) 75),(4,.box (cC3 5 f) 71)],6,.I r,[],[(1,.box (cC18 2 3 e) 75),(4,.box (cC3 5 f) 71)]⟩:=by
 refine eFn func136 rfl (fun E F w=>?_)
 unfold z136_19 at h
 refine wa J 11 (eCut (σ:=Unit) (fun st=>(zz30 e f d f.Values [])) (fun st=>z136_19_k1=some r) ?_ (fun j1=>?_))
 ·intro _ h
  unfold z136_19_k1 at h
  exact oi h▸wr J 4 func136 []
 refine wa J 1 (eLoop (σ:=Int) (fun st=>(zz30 e f d f.Values [(0,.S 0),(1,.c (.cl 137 [] [1,4])),(7,.I (d.length:Int)),(8,.I st)])) (fun n st=>z136_19_l2 N d e f n st) (r:=r) (fun _=>rfl) ?_ (fun ih=>?_))
 ·intro n2 ih3
  intro g h
  unfold z136_19_l2 at h
  refine wB' J 5 h (fun h=>wa J 2 (eSub [] (j1 () h))) fun h=>?_
  refine wO J 14 h fun i j h=>eIx J oO9 j ?_
  refine wO J 1 h fun k l h=>eCl (z137_18_ct N i e f _ l) [] [(0,.bp 1 0),(1,.sl 2),(2,.sl 3),(3,.bp 4 0),(4,.sl 5)] ?_
  exact wB J 1 h (fun h=>oi h▸wr J 6 func136 []) fun h=>wa J 7 (eSub [] (ih3 (w64 (g+1)) h))
 exact eSub [] (ih N 0 h)
theorem z193_ct (N:Nat) (c:T4) (d:T12) (r:Bool) (h:z193 N c d=some r) :
 Fn Tryz.prog 193 ⟨0,[.a (cC4 c),.a (cC12 d)],[],[],0,.O r,[],[]⟩:=by
 refine eFn func193 rfl (fun E F w=>?_)
 unfold z193 at h
 refine wO J 11 h fun e f h=>eCl (z78_ct N c.Sort' d _ f) [] [] ?_
 exact oi h▸wr J 2 func193 []
theorem z79_20_ct (N:Nat) (d:(List T4)) (e:(List T12)) (r:Bool) (h:z79_20 N d e=some r) :
 Fn Tryz.prog 79 ⟨2,[.S 0,.S 1,.c (.cl 193 [] [])],[(0,.sl rR4 d),(1,.sl rR12 e)],[],2,.O r,[],[]⟩:=by
 refine eFn func79 rfl (fun E F w=>?_)
 unfold z79_20 at h
 refine wB J 13 h (fun h=>oi h▸wr J 5 func79 []) fun h=>wa J 9 (eCut (σ:=Unit) (fun st=>(zz5 d e [])) (fun st=>z79_20_k1=some r) ?_ (fun j1=>?_))
 ·intro _ h
  unfold z79_20_k1 at h
  exact oi h▸wr J 4 func79 []
 refine wa J 1 (eLoop (σ:=Int) (fun st=>(zz5 d e [(1,.S 1),(2,.c (.cl 193 [] [])),(15,.S 0),(16,.I (d.length:Int)),(17,.I st)])) (fun n st=>z79_20_l2 N d e n st) (r:=r) (fun _=>rfl) ?_ (fun ih=>?_))
 ·intro n2 ih3
  intro f h
  unfold z79_20_l2 at h
  refine wB' J 5 h (fun h=>wa J 2 (eSub [] (j1 () h))) fun h=>?_
  refine wO J 7 h fun g i h=>eIx J oO4 i ?_
  refine wO J 9 h fun j k h=>eIx J oO12 k ?_
  refine wO J 9 h fun l m h=>eCl (z193_ct N g j _ m) [] [] ?_
  exact wB J 2 h (fun h=>oi h▸wr J 5 func79 []) fun h=>wa J 7 (eSub [] (ih3 (w64 (f+1)) h))
 exact eSub [] (ih N 0 h)
theorem z138_ct (N:Nat) (c:(List T4)) (d:(List T12)) (r:Bool) (h:z138 N c d=some r) :
 Fn Tryz.prog 138 ⟨2,[.S 0,.S 1],[(0,.sl rR4 c),(1,.sl rR12 d)],[],2,.O r,[],[]⟩:=by
 refine eFn func138 rfl (fun E F w=>?_)
 unfold z138 at h
 refine wO J 8 h fun e f h=>eCl (z79_20_ct N c d _ f) [] [(0,.sl 0),(1,.sl 1)] ?_
 exact oi h▸wr J 2 func138 []
theorem z83_ct (N:Nat) (c:T12) (r:Int) (h:z83 N c=some r) :
 Fn Tryz.prog 83 ⟨0,[.a (cC12 c)],[],[],0,.I r,[],[]⟩:=by
 refine eFn func83 rfl (fun E F w=>?_)
 unfold z83 at h
 exact wB J 12 h (fun h=>oi h▸wr J 8 func83 []) fun h=>oi h▸wr J 8 func83 []
theorem z208_ct (N:Nat) (d:Int) (r:Bool) (h:z208 N d=some r) :
 Fn Tryz.prog 208 ⟨0,[.c (.i .i32 d)],[],[],0,.O r,[],[]⟩:=by
 refine eFn func208 rfl (fun E F w=>?_)
 unfold z208 at h
 exact wB J 9 h (fun h=>oi h▸wr J 5 func208 []) fun h=>oi h▸wr J 5 func208 []
theorem z255_21_ct (N:Nat) (d:ByteArray) (e:Bool) (r:Int) (h:z255_21 N d e=some r) :
 Fn Tryz.prog 255 ⟨0,[.c (.s d),.c (.cl 208 [] []),.O e],[],[],0,.I r,[],[]⟩:=by
 refine eFn func255 rfl (fun E F w=>?_)
 unfold z255_21 at h
 refine wa J 8 (eRn J (fun bk1=>wa J 1 (eCut (σ:=Nat) (fun st=>(zz3 (itR bk1 d st) [])) (fun st=>z255_21_k1 st=some r) ?_ (fun j1=>?_))))
 ·intro vi0_1 h
  unfold z255_21_k1 at h
  exact oi h▸wr J 4 func255 []
 refine wa J 1 (eLoop (σ:=Nat) (fun st=>(zz3 (itR bk1 d st) [(1,.c (.cl 208 [] [])),(2,.O e),(10,.c (.v (.pointer (some ⟨bk1,0,none⟩))))])) (fun n st=>z255_21_l2 N d e n st) (r:=r) (fun _=>rfl) ?_ (fun ih=>?_))
 ·intro n2 ih3
  intro vi0_3 h
  unfold z255_21_l2 at h
  obtain ⟨K,h⟩|⟨K,h⟩:=oc' h
  ·exact wa J 2 (eNf bk1 0 K (wa J 5 (eSub [] (j1 vi0_3 h))))
  refine wa J 2 (eNt bk1 0 K ?_)
  refine wO J 17 h fun f g h=>eCl (z208_ct N ((Utf8.decode d vi0_3).1:Int) _ g) [] [] ?_
  exact wB J 3 h (fun h=>oi h▸wr J 6 func255 []) fun h=>wa J 3 (eSub [] (ih3 (vi0_3+(Utf8.decode d vi0_3).2) h))
 exact eSub [] (ih N (0:Nat) h)
theorem z234_22_ct (N:Nat) (d:ByteArray) (r:Int) (h:z234_22 N d=some r) :
 Fn Tryz.prog 234 ⟨0,[.c (.s d),.c (.cl 208 [] [])],[],[],0,.I r,[],[]⟩:=by
 refine eFn func234 rfl (fun E F w=>?_)
 unfold z234_22 at h
 refine wO J 8 h fun e f h=>eCl (z255_21_ct N d true _ f) [] [] ?_
 exact oi h▸wr J 2 func234 []
theorem z207_23_ct (N:Nat) (d:ByteArray) (r:Bool) (h:z207_23 N d=some r) :
 Fn Tryz.prog 207 ⟨0,[.c (.s d),.c (.cl 208 [] [])],[],[],0,.O r,[],[]⟩:=by
 refine eFn func207 rfl (fun E F w=>?_)
 unfold z207_23 at h
 refine wO J 8 h fun e f h=>eCl (z234_22_ct N d _ f) [] [] ?_
 exact oi h▸wr J 3 func207 []
theorem z155_ct (N:Nat) (c:T10) (d:T12) (r:Bool) (h:z155 N c d=some r) :
 Fn Tryz.prog 155 ⟨0,[.a (cC10 c),.a (cC12 d)],[],[],0,.O r,[],[]⟩:=by
 refine eFn func155 rfl (fun E F w=>?_)
 unfold z155 at h
 refine wB J 15 h (fun h=>wa J 13 (eEnd (oi h▸wr J 5 func155 []))) fun h=>?_
 refine wO J 1 h fun e f h=>eCl (z83_ct N d _ f) [] [] ?_
 refine wB J 5 h (fun h=>wa J 6 (eEnd (oi h▸wr J 5 func155 []))) fun h=>?_
 refine wO J 1 h fun g i h=>eCl (z83_ct N d _ i) [] [] (wa J 4 (eEnd ?_))
 refine eB h (fun h=>oi h▸wr J 5 func155 []) fun h=>?_
 refine wB J 9 h (fun h=>oi h▸wr J 8 func155 []) fun h=>?_
 refine wB' J 8 h (fun h=>oi h▸wr J 7 func155 []) fun h=>?_
 refine wO J 2 h fun j k h=>eCl (z207_23_ct N d.S _ k) [] [] ?_
 exact oi h▸wr J 4 func155 []
theorem z81_ct (N:Nat) (c:(List T0)) (d:Int) (e:(List T12)) (r:Bool) (h:z81 N c d e=some r) :
 Fn Tryz.prog 81 ⟨2,[.S 0,.I d,.S 1],[(0,.sl rR0 c),(1,.sl rR12 e)],[],2,.O r,[],[]⟩:=by
 refine eFn func81 rfl (fun E F w=>?_)
 unfold z81 at h
 refine wB J 10 h (fun h=>oi h▸wr J 16 func81 []) fun h=>?_
 refine wB J 6 h (fun h=>oi h▸wr J 10 func81 []) fun h=>?_
 refine wO J 1 h fun f g h=>eCl (z46_ct N c _ g) [] [(0,.sl 0)] ?_
 refine wB J 3 h (fun h=>oi h▸wr J 5 func81 []) fun h=>?_
 refine wO J 5 h fun i j h=>eCl (z98_ct N c _ j) [] [(0,.sl 0)] ?_
 refine wB J 11 h (fun h=>oi h▸wr J 5 func81 []) fun h=>wa J 9 (eCut (σ:=Unit) (fun st=>⟨[],[],[(0,.sl rR0 c),(1,.sl rR12 e)],3⟩) (fun st=>z81_k1=some r) ?_ (fun j1=>?_))
 ·intro _ h
  unfold z81_k1 at h
  exact oi h▸wr J 4 func81 []
 refine wa J 1 (eLoop (σ:=Int) (fun st=>⟨[(7,.S 2),(30,.S 1),(31,.I (e.length:Int)),(32,.I st)],[(2,.own rR4 i true)],[(0,.sl rR0 c),(1,.sl rR12 e)],3⟩) (fun n st=>z81_l2 N e i n st) (r:=r) (fun _=>rfl) ?_ (fun ih=>?_))
 ·intro n2 ih3
  intro k h
  unfold z81_l2 at h
  refine wB' J 5 h (fun h=>wa J 2 (eSub [] (j1 () h))) fun h=>?_
  refine wO J 7 h fun l m h=>eIx J oO12 m (wa J 9 (eEq ?_))
  refine wB' J 1 h (fun h=>wa J 9 (eEnd (wa J 7 (eSub [] (ih3 (w64 (k+1)) h))))) fun h=>?_
  refine wO J 2 h fun o p h=>eIo J rR4 p (wa J 1 (eLd J oO4 p ?_))
  refine wO J 1 h fun q s h=>eCl (z155_ct N o.Sort' l _ s) [] [] (wa J 2 (eEnd ?_))
  exact eB h (fun h=>oi h▸wr J 5 func81 []) fun h=>wa J 7 (eSub [] (ih3 (w64 (k+1)) h))
 exact eSub [] (ih N 0 h)
theorem z90_ct (N:Nat) (c:(List T4)) (d:(List T12)) (r:Bool) (h:z90 N c d=some r) :
 Fn Tryz.prog 90 ⟨2,[.S 0,.S 1],[(0,.sl rR4 c),(1,.sl rR12 d)],[],2,.O r,[],[]⟩:=by
 refine eFn func90 rfl (fun E F w=>?_)
 unfold z90 at h
 refine wB J 13 h (fun h=>oi h▸wr J 5 func90 []) fun h=>wa J 9 (eCut (σ:=Unit) (fun st=>(zz5 c d [])) (fun st=>z90_k1=some r) ?_ (fun j1=>?_))
 ·intro _ h
  unfold z90_k1 at h
  exact oi h▸wr J 4 func90 []
 refine wa J 1 (eLoop (σ:=Int) (fun st=>(zz5 c d [(1,.S 1),(12,.S 0),(13,.I (c.length:Int)),(14,.I st)])) (fun n st=>z90_l2 N c d n st) (r:=r) (fun _=>rfl) ?_ (fun ih=>?_))
 ·intro n2 ih3
  intro e h
  unfold z90_l2 at h
  refine wB' J 5 h (fun h=>wa J 2 (eSub [] (j1 () h))) fun h=>?_
  refine wO J 7 h fun f g h=>eIx J oO4 g ?_
  refine wO J 11 h fun i j h=>eIx J oO12 j ?_
  refine wO J 1 h fun k l h=>eCl (z155_ct N f.Sort' i _ l) [] [] (wa J 1 (eEnd ?_))
  exact eB h (fun h=>oi h▸wr J 5 func90 []) fun h=>wa J 7 (eSub [] (ih3 (w64 (e+1)) h))
 exact eSub [] (ih N 0 h)
theorem z37_ct (N:Nat) (c:(List T12)) (r:(List T12)) (h:z37 N c=some r) :
 Fn Tryz.prog 37 ⟨1,[.S 0],[(0,.sl rR12 c)],[],2,.S 1,[],[(1,.own rR12 r true)]⟩:=by
 refine eFn func37 rfl (fun E F w=>?_)
 unfold z37 at h
 refine wa J 8 (eNi rR12 c false ?_)
 intro nb hnb
 cases nb
 ·refine wa J 5 (eBs J [] oO12 ([]:List T12) ?_)
  refine wO J 1 h fun d e h=>eAp J rR12 e ?_
  exact oi h▸wr J 2 func37 [(1,.sl 2)]
 ·obtain rfl:=hnb rfl
  replace h:(some ([]:List T12):Option (List T12))=some r:=h
  exact oi h▸wr J 6 func37 [(1,.nil)]
theorem z87_ct (N:Nat) (c:T0) (d:(List T12)) (e:(List T12)) (r:(List T12)) (h:z87 N c d e=some r) :
 Fn Tryz.prog 87 ⟨5,[.a (cC0 0 1 2 c),.S 3,.S 4],(vV0 0 1 2 c [(3,.sl rR12 d),(4,.sl rR12 e)]),[],6,.S 5,[],[(5,.own rR12 r true)]⟩:=by
 refine eFn func87 rfl (fun E F w=>?_)
 unfold z87 at h
 refine wO J 8 h fun f g h=>eCl (z37_ct N e _ g) [] [(0,.sl 4)] ?_
 refine wO J 7 h fun i j h=>eVw J rR12 j ?_
 refine wO J 1 h fun k l h=>eCw J rR12 l ?_
 exact oi h▸wr J 6 func87 [(5,.sl 6)]
theorem z89_ct (N:Nat) (c:T6) (d:(List T12)) (r:Bool) (h:z89 N c d=some r) :
 Fn Tryz.prog 89 ⟨3,[.a [.sl 0,.sl 1],.S 2],[(0,.sl rR1 c.Diffs),(1,.sl (rP (rI .i64) (rI .i64)) c.Equals),(2,.sl rR12 d)],[],3,.O r,[],[]⟩:=by
 refine eFn func89 rfl (fun E F w=>?_)
 unfold z89 at h
 refine wa J 13 (eCut (σ:=Unit) (fun st=>(zz10 c.Diffs c.Equals d [(1,.S 2),(2,.B 3 0)])) (fun st=>z89_k3 N c d=some r) ?_ (fun j1=>?_))
 ·intro _ h
  unfold z89_k3 at h
  refine wa J 8 (eCut (σ:=Unit) (fun st=>(zz20 c.Diffs c.Equals d [])) (fun st=>z89_k1=some r) ?_ (fun j12=>?_))
  ·intro _ h
   unfold z89_k1 at h
   exact oi h▸wr J 4 func89 []
  refine wa J 1 (eLoop (σ:=Int) (fun st=>(zz20 c.Diffs c.Equals d [(1,.S 2),(55,.S 1),(56,.I (c.Equals.length:Int)),(57,.I st)])) (fun n st=>z89_l2 c d n st) (r:=r) (fun _=>rfl) ?_ (fun ih=>?_))
  ·intro n9 ih14
   intro e h
   unfold z89_l2 at h
   refine wB' J 5 h (fun h=>wa J 2 (eSub [] (j12 () h))) fun h=>?_
   refine wO J 6 h fun f g h=>eIx J (oP (oI .i64) (oI .i64)) g (wa J 7 (eAb 0 rfl ?_))
   refine wO J 1 h fun j k h=>eIx J oO12 k ?_
   refine wB J 4 h (fun h=>wa J 23 (eEnd (oi h▸wr J 5 func89 []))) fun h=>wa J 1 (eAb 1 rfl ?_)
   refine wO J 1 h fun l m h=>eIx J oO12 m ?_
   refine wB J 5 h (fun h=>wa J 14 (eEnd (oi h▸wr J 5 func89 []))) fun h=>wa J 1 (eAb 0 rfl ?_)
   refine wO J 1 h fun o p h=>eIx J oO12 p (wa J 3 (eAb 1 rfl ?_))
   refine wO J 1 h fun q s h=>eIx J oO12 s (wa J 4 (eEnd ?_))
   exact eB h (fun h=>oi h▸wr J 5 func89 []) fun h=>wa J 7 (eSub [] (ih14 (w64 (e+1)) h))
  exact eSub [] (ih N 0 h)
 refine wa J 1 (eLoop (σ:=Int) (fun st=>(zz10 c.Diffs c.Equals d [(1,.S 2),(2,.B 3 0),(13,.S 0),(14,.I (c.Diffs.length:Int)),(15,.I st)])) (fun n st=>z89_l4 N c d n st) (r:=r) (fun _=>rfl) ?_ (fun ih=>?_))
 ·intro n14 ih15
  intro t h
  unfold z89_l4 at h
  refine wB' J 5 h (fun h=>wa J 2 (eSub [] (j1 () h))) fun h=>?_
  refine wO J 6 h fun u v h=>eIx J oO1 v (wa J 20 (eCut (σ:=Int × Int) (fun st=>(zz31 u st.1 st.2 c.Diffs c.Equals d [(1,.S 2),(2,.B 3 0),(6,.B 5 0),(7,.B 6 0),(13,.S 0),(14,.I (c.Diffs.length:Int)),(15,.I t)])) (fun st=>z89_k5 t (z89_l4 N c d n14) u st.1 st.2=some r) ?_ (fun j22=>?_)))
  ·rintro ⟨x,y⟩ h
   unfold z89_k5 at h
   refine wa J 2 (eAb 0 rfl (wa J 1 (eAb 1 rfl ?_)))
   exact wB J 6 h (fun h=>oi h▸wr J 5 func89 []) fun h=>wa J 7 (eSub [] (ih15 (w64 (t+1)) h))
  refine wa J 1 (eLoop (σ:=Int × Int × Int) (fun st=>(zz31 u st.1 st.2.1 c.Diffs c.Equals d [(1,.S 2),(2,.B 3 0),(6,.B 5 0),(7,.B 6 0),(13,.S 0),(14,.I (c.Diffs.length:Int)),(15,.I t),(24,.a [.I u.X,.I u.Y]),(25,.I st.2.2)])) (fun n st=>z89_l6 N d t (z89_l4 N c d n14) u n st.1 st.2.1 st.2.2) (r:=r) (fun _=>rfl) ?_ (fun ih=>?_))
  ·intro n16 ih24
   rintro ⟨z,A,C⟩ h
   unfold z89_l6 at h
   refine wB' J 5 h (fun h=>wa J 2 (eSub [] (j22 (z,A) h))) fun h=>?_
   refine wO J 7 h fun D G h=>eAx (SC.i .i64) ([u.X,u.Y]:List Int) G ?_
   refine wB J 9 h (fun h=>wa J 6 (eSub [] (ih24 (z,A,(w64 (C+1))) h))) fun h=>?_
   refine wO J 7 h fun H R h=>eIx J oO12 R ?_
   refine wB J 4 h (fun h=>oi h▸wr J 5 func89 []) fun h=>?_
   refine wO J 6 h fun T U h=>eIx J oO12 U ?_
   refine wO J 1 h fun Z a0 h=>eCl (z83_ct N T _ a0) [] [] ?_
   obtain ⟨K,h⟩|⟨K,h⟩:=oc h
   ·exact eAb 0 (by exact eq_of_beq K) (wa J 7 (eSub [] (ih24 (Z,A,(w64 (C+1))) h)))
   obtain ⟨K,h⟩|⟨K,h⟩:=oc h
   ·exact eAb 1 (by exact eq_of_beq K) (wa J 7 (eSub [] (ih24 (z,Z,(w64 (C+1))) h)))
   cases h
  exact eSub [] (ih N (0,0,0) h)
 exact eSub [] (ih N 0 h)
theorem z38_ct (N:Nat) (c:(List T0)) (d:Int) (e:(List T12)) (f:(List T12)) (r:Bool) (h:z38 N c d e f=some r) :
 Fn Tryz.prog 38 ⟨3,[.S 0,.I d,.S 1,.S 2],[(0,.sl rR0 c),(1,.sl rR12 e),(2,.sl rR12 f)],[],3,.O r,[],[]⟩:=by
 refine eFn func38 rfl (fun E F w=>?_)
 unfold z38 at h
 refine wO J 10 h fun g i h=>eCl (z81_ct N c d f _ i) [] [(0,.sl 0),(1,.sl 2)] ?_
 refine wB J 2 h (fun h=>oi h▸wr J 15 func38 []) fun h=>?_
 refine wO J 2 h fun j k h=>eIx J oO0 k ?_
 refine wO J 3 h fun l m h=>eCl (z90_ct N j.Fields e _ m) [] [(0,.sl 4),(1,.sl 1)] ?_
 refine wB J 3 h (fun h=>oi h▸wr J 5 func38 []) fun h=>?_
 refine wO J 6 h fun o p h=>eIx J oO0 p ?_
 refine wO J 11 h fun q s h=>eCl (z87_ct N o e f _ s) [] [(0,.sl 8),(1,.sl 9),(2,.sl 10),(3,.sl 1),(4,.sl 2)] ?_
 obtain ⟨t,u,h⟩:=ob h
 refine eCb (z89_ct N o.Guard q _ u) [] [(0,.sl 9),(1,.sl 10),(2,.sl 12)] [12] (.inr ⟨rfl,trivial⟩) (wa J 1 (eEnd ?_))
 cases h
 exact eRet J func38 []
theorem z245_ct (N:Nat) (d:ByteArray) (r:Bool) (h:z245 N d=some r) :
 Fn Tryz.prog 245 ⟨0,[.c (.s d)],[],[],0,.O r,[],[]⟩:=by
 refine eFn func245 rfl (fun E F w=>?_)
 unfold z245 at h
 exact oi h▸wr J 11 func245 []
theorem z229_ct (N:Nat) (d:ByteArray) (e:ByteArray) (r:Int) (h:z229 N d e=some r) :
 Fn Tryz.prog 229 ⟨0,[.c (.s d),.c (.s e)],[],[],0,.I r,[],[]⟩:=by
 refine eFn func229 rfl (fun E F w=>?_)
 unfold z229 at h
 refine wO J 7 h fun f g h=>eCl (z245_ct N d _ g) [] [] ?_
 refine wO J 5 h fun i j h=>eCl (z245_ct N e _ j) [] [] ?_
 refine wB J 7 h (fun h=>?_) fun h=>?_
 ·exact wB J 6 h (fun h=>oi h▸wr J 5 func229 []) fun h=>oi h▸wr J 6 func229 []
 refine wB J 7 h (fun h=>oi h▸wr J 5 func229 []) fun h=>?_
 refine wB J 9 h (fun h=>oi h▸wr J 5 func229 []) fun h=>?_
 exact wB J 9 h (fun h=>oi h▸wr J 5 func229 []) fun h=>oi h▸wr J 6 func229 []
theorem z196_ct (N:Nat) (c:T12) (d:T12) (r:Int) (h:z196 N c d=some r) :
 Fn Tryz.prog 196 ⟨0,[.a (cC12 c),.a (cC12 d)],[],[],0,.I r,[],[]⟩:=by
 refine eFn func196 rfl (fun E F w=>?_)
 unfold z196 at h
 refine wO J 12 h fun e f h=>eCl (z228_ct N c.Kind d.Kind _ f) [] [] ?_
 refine wO J 4 h fun g i h=>eCl (z228_ct N c.N d.N _ i) [] [] ?_
 refine wO J 6 h fun j k h=>eCl (z228_ct N (c.S.size:Int) (d.S.size:Int) _ k) [] [] ?_
 refine wO J 4 h fun l m h=>eCl (z229_ct N c.S d.S _ m) [] [] (eBs J [] (oI .i64) ([e,g,j,l]:List Int) ?_)
 obtain ⟨o,p,h⟩:=ob h
 refine eCb (z227_ct N ([e,g,j,l]:List Int) _ p) [] [(0,.sl 2)] [2] (.inr ⟨rfl,trivial⟩) (wa J 1 (eEnd ?_))
 cases h
 exact eRet J func196 []
theorem z195_ct (N:Nat) (c:T12) (d:T12) (r:Bool) (h:z195 N c d=some r) :
 Fn Tryz.prog 195 ⟨0,[.a (cC12 c),.a (cC12 d)],[],[],0,.O r,[],[]⟩:=by
 refine eFn func195 rfl (fun E F w=>?_)
 unfold z195 at h
 refine wO J 10 h fun e f h=>eCl (z196_ct N c d _ f) [] [] ?_
 exact oi h▸wr J 3 func195 []
theorem z194_24_ct (N:Nat) (d:(List T12)) (e:(List T12)) (r:Bool) (h:z194_24 N d e=some r) :
 Fn Tryz.prog 194 ⟨2,[.S 0,.S 1,.c (.cl 195 [] [])],[(0,.sl rR12 d),(1,.sl rR12 e)],[],2,.O r,[],[]⟩:=by
 refine eFn func194 rfl (fun E F w=>?_)
 unfold z194_24 at h
 refine wB J 13 h (fun h=>oi h▸wr J 5 func194 []) fun h=>wa J 9 (eCut (σ:=Unit) (fun st=>(zz6 d e [])) (fun st=>z194_24_k1=some r) ?_ (fun j1=>?_))
 ·intro _ h
  unfold z194_24_k1 at h
  exact oi h▸wr J 4 func194 []
 refine wa J 1 (eLoop (σ:=Int) (fun st=>(zz6 d e [(1,.S 1),(2,.c (.cl 195 [] [])),(15,.S 0),(16,.I (d.length:Int)),(17,.I st)])) (fun n st=>z194_24_l2 N d e n st) (r:=r) (fun _=>rfl) ?_ (fun ih=>?_))
 ·intro n2 ih3
  intro f h
  unfold z194_24_l2 at h
  refine wB' J 5 h (fun h=>wa J 2 (eSub [] (j1 () h))) fun h=>?_
  refine wO J 7 h fun g i h=>eIx J oO12 i ?_
  refine wO J 9 h fun j k h=>eIx J oO12 k ?_
  refine wO J 9 h fun l m h=>eCl (z195_ct N g j _ m) [] [] ?_
  exact wB J 2 h (fun h=>oi h▸wr J 5 func194 []) fun h=>wa J 7 (eSub [] (ih3 (w64 (f+1)) h))
 exact eSub [] (ih N 0 h)
theorem z139_ct (N:Nat) (c:(List T12)) (d:(List T12)) (r:Bool) (h:z139 N c d=some r) :
 Fn Tryz.prog 139 ⟨2,[.S 0,.S 1],[(0,.sl rR12 c),(1,.sl rR12 d)],[],2,.O r,[],[]⟩:=by
 refine eFn func139 rfl (fun E F w=>?_)
 unfold z139 at h
 refine wO J 8 h fun e f h=>eCl (z194_24_ct N c d _ f) [] [(0,.sl 0),(1,.sl 1)] ?_
 exact oi h▸wr J 2 func139 []
theorem z140_ct (N:Nat) (c:(List T0)) (d:Int) (e:(List T12)) (f:(List T12)) (r:(List T12) × Int) (h:z140 N c d e f=some r) :
 Fn Tryz.prog 140 ⟨3,[.S 0,.I d,.S 1,.S 2],[(0,.sl rR0 c),(1,.sl rR12 e),(2,.sl rR12 f)],[],4,.t [.inl (.sl 3),.inl (.I r.2)],[],[(3,.own rR12 r.1 true)]⟩:=by
 refine eFn func140 rfl (fun E F w=>?_)
 unfold z140 at h
 refine wO J 11 h fun g i h=>eCl (z81_ct N c d f _ i) [] [(0,.sl 0),(1,.sl 2)] ?_
 refine wB J 2 h (fun h=>oi h▸wr J 6 func140 [(3,.nil)]) fun h=>?_
 refine wO J 7 h fun j k h=>eIx J oO0 k ?_
 refine wO J 3 h fun l m h=>eCl (z90_ct N j.Fields e _ m) [] [(0,.sl 4),(1,.sl 1)] ?_
 refine wB J 2 h (fun h=>oi h▸wr J 6 func140 [(3,.nil)]) fun h=>?_
 refine wO J 6 h fun o p h=>eIx J oO0 p ?_
 refine wO J 3 h fun q s h=>eCl (z87_ct N o e f _ s) [] [(0,.sl 8),(1,.sl 9),(2,.sl 10),(3,.sl 1),(4,.sl 2)] ?_
 exact oi h▸wr J 3 func140 [(3,.sl 11)]
theorem z73_ct (N:Nat) (c:T5) (d:T8) (e:T18) (f:T3) (r:T18 × Int) (h:z73 N c d e f=some r) :
 Fn Tryz.prog 73 ⟨10,[.a (cC5 0 1 2 3 c),.a (cC8 4 5 6 d),.a (cC18 7 8 e),.a (cC3 9 f)],((0,.sl rS c.Roles)::(1,.sl rR0 c.Decls)::(2,.sl rR2 c.Edges)::(3,.sl rR11 c.Timeouts)::(4,.sl rB d.Finals)::(5,.sl rR9 d.Moves)::(6,.sl rR11 d.Timeouts)::vV18 7 8 e [(9,.sl rR12 f.Values)]),[],12,.t [.inr (cC18 10 11 r.1),.inl (.I r.2)],(vV18 10 11 r.1 []),[]⟩:=by
 refine eFn func73 rfl (fun E F w=>?_)
 unfold z73 at h
 refine wO J 14 h fun g i h=>eCl (z136_19_ct N d.Moves e f _ i) [] [(0,.sl 5),(1,.bp 12 0),(2,.sl 7),(3,.sl 8),(4,.bp 13 0),(5,.sl 9)] ?_
 refine wB J 13 h (fun h=>oi h▸wr J 7 func73 [(10,.nil),(11,.nil)]) fun h=>?_
 refine wB J 7 h (fun h=>oi h▸wr J 7 func73 [(10,.nil),(11,.nil)]) fun h=>?_
 refine wO J 7 h fun j k h=>eIx J oO0 k ?_
 refine wO J 4 h fun l m h=>eCl (z138_ct N j.Fields f.Values _ m) [] [(0,.sl 16),(1,.sl 9)] (wa J 2 (eEnd ?_))
 refine eB h (fun h=>oi h▸wr J 7 func73 [(10,.nil),(11,.nil)]) fun h=>?_
 refine wO J 12 h fun o p h=>eCl (z38_ct N c.Decls f.Label f.Values e.Known _ p) [] [(0,.sl 1),(1,.sl 9),(2,.sl 7)] (wa J 3 (eCut (σ:=Bool) (fun st=>⟨[(4,.B 10 0),(5,.B 11 0),(6,.B 12 0),(7,.B 13 0),(8,.B 14 0),(10,.I g),(40,.O st)],[(10,.box (cC5 0 1 2 3 c) 58),(11,.box (cC8 4 5 6 d) 64),(12,.box (cC18 7 8 e) 75),(13,.box (cC3 9 f) 71),(14,.box [.I 0,.nil,.nil] 75)],((0,.sl rS c.Roles)::(1,.sl rR0 c.Decls)::(2,.sl rR2 c.Edges)::(3,.sl rR11 c.Timeouts)::(4,.sl rB d.Finals)::(5,.sl rR9 d.Moves)::(6,.sl rR11 d.Timeouts)::vV18 7 8 e [(9,.sl rR12 f.Values)]),19⟩) (fun st=>z73_k1 N c d e f g st=some r) ?_ (fun j1=>?_)))
 ·intro q h
  unfold z73_k1 at h
  refine eB h (fun h=>oi h▸wr J 7 func73 [(10,.nil),(11,.nil)]) fun h=>?_
  refine wO J 8 h fun s u h=>eIx J oO9 u ?_
  refine wO J 16 h fun v x h=>eCl (z140_ct N c.Decls f.Label f.Values e.Known _ x) [] [(0,.sl 1),(1,.sl 9),(2,.sl 7)] ?_
  refine wB' J 12 h (fun h=>wa J 8 (eFr [21] ?_)) fun h=>?_
  ·cases h
   exact eRet J func73 [(10,.sl 21),(11,.nil)]
  refine wO J 4 h fun y z h=>eCl (z37_ct N f.Values _ z) [] [(0,.sl 9)] (wa J 9 (eFr [21] (eFr [22] ?_)))
  cases h
  exact eRet J func73 [(10,.sl 21),(11,.sl 22)]
 refine eB h (fun h=>wa J 2 (eSub [] (j1 true h))) fun h=>?_
 refine wO J 5 h fun A C h=>eIx J oO9 C ?_
 refine wB' J 3 h (fun h=>wa J 9 (eSub [] (j1 false h))) fun h=>?_
 exact wO J 4 h fun D G h=>eCl (z139_ct N f.Values e.Pending _ G) [] [(0,.sl 9),(1,.sl 8)] (wa J 4 (eSub [] (j1 (!D) h)))
theorem z31_ct (N:Nat) (c:T5) (d:T8) (e:(List T3)) (r:T18 × Int × Int) (h:z31 N c d e=some r) :
 Fn Tryz.prog 31 ⟨8,[.a (cC5 0 1 2 3 c),.a (cC8 4 5 6 d),.S 7],((0,.sl rS c.Roles)::(1,.sl rR0 c.Decls)::(2,.sl rR2 c.Edges)::(3,.sl rR11 c.Timeouts)::vV8 4 5 6 d [(7,.sl rR3 e)]),[],10,.t [.inr (cC18 8 9 r.1),.inl (.I r.2.1),.inl (.I r.2.2)],(vV18 8 9 r.1 []),[]⟩:=by
 refine eFn func31 rfl (fun E F w=>?_)
 unfold z31 at h
 refine wO J 12 h fun f g h=>eCl (z13_ct N c d _ g) [] [(0,.sl 0),(1,.sl 1),(2,.sl 2),(3,.sl 3),(4,.sl 4),(5,.sl 5),(6,.sl 6)] ?_
 refine wO J 8 h fun i j h=>eCl (z34_ct N c d f _ j) [] [(0,.sl 0),(1,.sl 1),(2,.sl 2),(3,.sl 3),(4,.sl 4),(5,.sl 5),(6,.sl 6),(7,.sl 11),(8,.sl 12)] ?_
 refine wB J 2 h (fun h=>oi h▸wr J 8 func31 [(8,.nil),(9,.nil)]) fun h=>wa J 9 (eCut (σ:=Int × (List T12) × (List T12)) (fun st=>⟨[(2,.S 7),(6,.B 10 0)],[(10,.box [.I st.1,.sl 13,.sl 14] 75)],((0,.sl rS c.Roles)::(1,.sl rR0 c.Decls)::(2,.sl rR2 c.Edges)::(3,.sl rR11 c.Timeouts)::vV8 4 5 6 d [(7,.sl rR3 e),(13,.sl rR12 st.2.1),(14,.sl rR12 st.2.2)]),15⟩) (fun st=>z31_k1 e st.1 st.2.1 st.2.2=some r) ?_ (fun j1=>?_))
 ·rintro ⟨k,l,m⟩ h
  unfold z31_k1 at h
  exact oi h▸wr J 9 func31 [(8,.sl 13),(9,.sl 14)]
 refine wa J 1 (eLoop (σ:=Int × (List T12) × (List T12) × Int) (fun st=>⟨[(2,.S 7),(3,.B 8 0),(4,.B 9 0),(6,.B 10 0),(22,.S 7),(23,.I (e.length:Int)),(24,.I st.2.2.2)],[(8,.box (cC5 0 1 2 3 c) 58),(9,.box (cC8 4 5 6 d) 64),(10,.box [.I st.1,.sl 13,.sl 14] 75)],((0,.sl rS c.Roles)::(1,.sl rR0 c.Decls)::(2,.sl rR2 c.Edges)::(3,.sl rR11 c.Timeouts)::vV8 4 5 6 d [(7,.sl rR3 e),(13,.sl rR12 st.2.1),(14,.sl rR12 st.2.2.1)]),15⟩) (fun n st=>z31_l2 N c d e n st.1 st.2.1 st.2.2.1 st.2.2.2) (r:=r) (fun _=>rfl) ?_ (fun ih=>?_))
 ·intro n2 ih3
  rintro ⟨o,p,q,s⟩ h
  unfold z31_l2 at h
  refine wB' J 5 h (fun h=>wa J 2 (eSub [] (j1 (o,p,q) h))) fun h=>?_
  refine wO J 7 h fun u v h=>eIx J oO3 v ?_
  refine wO J 11 h fun x y h=>eCl (z73_ct N c d (⟨o,p,q⟩:T18) u _ y) [] [(0,.sl 0),(1,.sl 1),(2,.sl 2),(3,.sl 3),(4,.sl 4),(5,.sl 5),(6,.sl 6),(7,.sl 13),(8,.sl 14),(9,.sl 16)] ?_
  exact wB J 13 h (fun h=>oi h▸wr J 10 func31 [(8,.sl 13),(9,.sl 14)]) fun h=>wa J 11 (eSub [(13,.sl 18),(14,.sl 19)] (ih3 (x.1.At,x.1.Known,x.1.Pending,(w64 (s+1))) h))
 exact eSub [(13,.sl 11),(14,.sl 12)] (ih N (f.At,f.Known,f.Pending,0) h)
theorem z33_ct (N:Nat) (c:(List T3)) (r:(List T3)) (h:z33 N c=some r) :
 Fn Tryz.prog 33 ⟨1,[.S 0],[(0,.sl rR3 c)],[],2,.S 1,[],[(1,.own rR3 r true)]⟩:=by
 refine eFn func33 rfl (fun E F w=>?_)
 unfold z33 at h
 refine wa J 8 (eNi rR3 c false ?_)
 intro nb hnb
 cases nb
 ·refine wa J 5 (eBs J [] oO3 ([]:List T3) ?_)
  refine wO J 1 h fun d e h=>eAp J rR3 e ?_
  exact oi h▸wr J 2 func33 [(1,.sl 2)]
 ·obtain rfl:=hnb rfl
  replace h:(some ([]:List T3):Option (List T3))=some r:=h
  exact oi h▸wr J 6 func33 [(1,.nil)]
theorem z198_ct (N:Nat) (c:(List T0)) (d:Int) (e:(List T12)) (f:(List T12)) (r:(List T12)) (h:z198 N c d e f=some r) :
 Fn Tryz.prog 198 ⟨3,[.S 0,.I d,.S 1,.S 2],[(0,.sl rR0 c),(1,.sl rR12 e),(2,.sl rR12 f)],[],4,.S 3,[],[(3,.own rR12 r true)]⟩:=by
 refine eFn func198 rfl (fun E F w=>?_)
 unfold z198 at h
 refine wa J 6 (eBs J [] oO12 ([]:List T12) ?_)
 refine wO J 1 h fun g i h=>eAp J rR12 i ?_
 refine wO J 7 h fun j k h=>eIx J oO0 k ?_
 refine wO J 2 h fun l m h=>eVw J rR12 m ?_
 refine wO J 1 h fun o p h=>eCw J rR12 p ?_
 exact oi h▸wr J 6 func198 [(3,.sl 4)]
theorem z230_ct (N:Nat) (c:(List T12)) (d:Int) (r:Int × Bool) (h:z230 N c d=some r) :
 Fn Tryz.prog 230 ⟨1,[.S 0,.I d],[(0,.sl rR12 c)],[],1,.t [.inl (.I r.1),.inl (.b r.2)],[],[]⟩:=by
 refine eFn func230 rfl (fun E F w=>?_)
 unfold z230 at h
 refine wB J 11 h (fun h=>oi h▸wr J 6 func230 []) fun h=>?_
 refine wO J 6 h fun e f h=>eIx J oO12 f ?_
 refine wO J 1 h fun g i h=>eCl (z146_ct N e _ i) [] [] ?_
 refine wO J 2 h fun j k h=>eIx J oO12 k (wa J 5 (eEnd ?_))
 cases h
 exact eRet J func230 []
theorem z197_ct (N:Nat) (c:T6) (d:(List T12)) (r:Int × Bool) (h:z197 N c d=some r) :
 Fn Tryz.prog 197 ⟨3,[.a [.sl 0,.sl 1],.S 2],[(0,.sl rR1 c.Diffs),(1,.sl (rP (rI .i64) (rI .i64)) c.Equals),(2,.sl rR12 d)],[],3,.t [.inl (.I r.1),.inl (.b r.2)],[],[]⟩:=by
 refine eFn func197 rfl (fun E F w=>?_)
 unfold z197 at h
 refine wa J 14 (eCut (σ:=Unit) (fun st=>(zz10 c.Diffs c.Equals d [(1,.S 2),(2,.B 3 0)])) (fun st=>z197_k3 N c d=some r) ?_ (fun j1=>?_))
 ·intro _ h
  unfold z197_k3 at h
  refine wa J 8 (eCut (σ:=Unit) (fun st=>(zz20 c.Diffs c.Equals d [])) (fun st=>z197_k1=some r) ?_ (fun j3=>?_))
  ·intro _ h
   unfold z197_k1 at h
   exact oi h▸wr J 5 func197 []
  refine wa J 1 (eLoop (σ:=Int) (fun st=>(zz10 c.Diffs c.Equals d [(1,.S 2),(2,.B 3 0),(55,.S 1),(56,.I (c.Equals.length:Int)),(57,.I st)])) (fun n st=>z197_l2 c d n st) (r:=r) (fun _=>rfl) ?_ (fun ih=>?_))
  ·intro n3 ih5
   intro e h
   unfold z197_l2 at h
   refine wB' J 5 h (fun h=>wa J 2 (eSub [] (j3 () h))) fun h=>?_
   refine wO J 7 h fun f g h=>eIx J (oP (oI .i64) (oI .i64)) g (wa J 8 (eAb 0 rfl ?_))
   refine wO J 1 h fun i j h=>eIx J oO12 j (wa J 2 (eAb 1 rfl ?_))
   refine wO J 1 h fun k l h=>eIx J oO12 l (wa J 5 (eEnd ?_))
   refine wB J 6 h (fun h=>oi h▸wr J 23 func197 []) fun h=>?_
   refine wB J 5 h (fun h=>oi h▸wr J 18 func197 []) fun h=>?_
   exact wB J 7 h (fun h=>oi h▸wr J 11 func197 []) fun h=>wa J 7 (eSub [] (ih5 (w64 (e+1)) h))
  exact eSub [] (ih N 0 h)
 refine wa J 1 (eLoop (σ:=Int) (fun st=>(zz10 c.Diffs c.Equals d [(1,.S 2),(2,.B 3 0),(17,.S 0),(18,.I (c.Diffs.length:Int)),(19,.I st)])) (fun n st=>z197_l4 N c d n st) (r:=r) (fun _=>rfl) ?_ (fun ih=>?_))
 ·intro n4 ih6
  intro m h
  unfold z197_l4 at h
  refine wB' J 5 h (fun h=>wa J 2 (eSub [] (j1 () h))) fun h=>?_
  refine wO J 7 h fun o p h=>eIx J oO1 p ?_
  refine wO J 10 h fun q s h=>eCl (z230_ct N d o.X _ s) [] [(0,.sl 2)] ?_
  refine wO J 11 h fun u v h=>eCl (z230_ct N d o.Y _ v) [] [(0,.sl 2)] ?_
  refine wB J 11 h (fun h=>oi h▸wr J 19 func197 []) fun h=>?_
  refine wB J 4 h (fun h=>oi h▸wr J 15 func197 []) fun h=>?_
  exact wB J 8 h (fun h=>oi h▸wr J 7 func197 []) fun h=>wa J 7 (eSub [] (ih6 (w64 (m+1)) h))
 exact eSub [] (ih N 0 h)
theorem z199_ct (N:Nat) (c:(List T12)) (d:(List T12)) (r:Int) (h:z199 N c d=some r) :
 Fn Tryz.prog 199 ⟨2,[.S 0,.S 1],[(0,.sl rR12 c),(1,.sl rR12 d)],[],2,.I r,[],[]⟩:=by
 refine eFn func199 rfl (fun E F w=>?_)
 unfold z199 at h
 refine wa J 11 (eCut (σ:=Unit) (fun st=>(zz6 c d [(0,.S 0)])) (fun st=>z199_k1 c=some r) ?_ (fun j1=>?_))
 ·intro _ h
  unfold z199_k1 at h
  exact oi h▸wr J 6 func199 []
 refine wa J 1 (eLoop (σ:=Int) (fun st=>(zz6 c d [(0,.S 0),(1,.S 1),(7,.I (c.length:Int)),(8,.I st)])) (fun n st=>z199_l2 N c d n st) (r:=r) (fun _=>rfl) ?_ (fun ih=>?_))
 ·intro n2 ih3
  intro e h
  unfold z199_l2 at h
  refine wB' J 5 h (fun h=>wa J 2 (eSub [] (j1 () h))) fun h=>?_
  refine wB J 16 h (fun h=>wa J 11 (eEnd (oi h▸wr J 6 func199 []))) fun h=>?_
  refine wO J 2 h fun f g h=>eIx J oO12 g ?_
  refine wO J 3 h fun i j h=>eIx J oO12 j ?_
  refine wO J 1 h fun k l h=>eCl (z196_ct N f i _ l) [] [] (wa J 2 (eEnd ?_))
  exact eB h (fun h=>oi h▸wr J 6 func199 []) fun h=>wa J 7 (eSub [] (ih3 (w64 (e+1)) h))
 exact eSub [] (ih N 0 h)
theorem z141_ct (N:Nat) (c:T5) (d:T18) (e:T3) (f:Int) (r:Int × Int) (h:z141 N c d e f=some r) :
 Fn Tryz.prog 141 ⟨7,[.a (cC5 0 1 2 3 c),.a (cC18 4 5 d),.a (cC3 6 e),.I f],((0,.sl rS c.Roles)::(1,.sl rR0 c.Decls)::(2,.sl rR2 c.Edges)::(3,.sl rR11 c.Timeouts)::vV18 4 5 d [(6,.sl rR12 e.Values)]),[],7,.t [.inl (.I r.1),.inl (.I r.2)],[],[]⟩:=by
 refine eFn func141 rfl (fun E F w=>?_)
 unfold z141 at h
 refine wB J 19 h (fun h=>oi h▸wr J 6 func141 []) fun h=>?_
 refine wB J 6 h (fun h=>oi h▸wr J 6 func141 []) fun h=>?_
 refine wO J 9 h fun g i h=>eIx J oO0 i ?_
 refine wB J 15 h (fun h=>oi h▸wr J 6 func141 []) fun h=>wa J 10 (eCut (σ:=Unit) (fun st=>(zz32 c d e g c.Roles c.Decls c.Edges c.Timeouts e.Values [(4,.B 7 0),(5,.B 8 0),(6,.B 9 0),(10,.B 14 0)])) (fun st=>z141_k1 N c d e g=some r) ?_ (fun j1=>?_))
 ·intro _ h
  unfold z141_k1 at h
  refine wO J 13 h fun j k h=>eCl (z198_ct N c.Decls e.Label e.Values d.Known _ k) [] [(0,.sl 1),(1,.sl 6),(2,.sl 4)] ?_
  obtain ⟨l,m,h⟩:=ob h
  refine eCb (z197_ct N g.Guard j _ m) [] [(0,.sl 12),(1,.sl 13),(2,.sl 15)] [15] (.inr ⟨rfl,trivial⟩) (wa J 5 (eEnd ?_))
  refine wB J 4 h (fun h=>oi h▸wr J 7 func141 []) fun h=>?_
  refine wO J 8 h fun o p h=>eCl (z199_ct N e.Values d.Pending _ p) [] [(0,.sl 6),(1,.sl 5)] ?_
  exact oi h▸wr J 3 func141 []
 refine wa J 1 (eLoop (σ:=Int) (fun st=>(zz32 c d e g c.Roles c.Decls c.Edges c.Timeouts e.Values [(4,.B 7 0),(5,.B 8 0),(6,.B 9 0),(10,.B 14 0),(34,.S 11),(35,.I (g.Fields.length:Int)),(36,.I st)])) (fun n st=>z141_l2 N c d e g n st) (r:=r) (fun _=>rfl) ?_ (fun ih=>?_))
 ·intro n2 ih3
  intro q h
  unfold z141_l2 at h
  refine wB' J 5 h (fun h=>wa J 2 (eSub [] (j1 () h))) fun h=>?_
  refine wO J 7 h fun s u h=>eIx J oO4 u ?_
  refine wO J 12 h fun v x h=>eIx J oO12 x ?_
  refine wO J 1 h fun y z h=>eCl (z78_ct N s.Sort' v _ z) [] [] (wa J 1 (eEnd ?_))
  exact eB h (fun h=>oi h▸wr J 7 func141 []) fun h=>wa J 7 (eSub [] (ih3 (w64 (q+1)) h))
 exact eSub [] (ih N 0 h)
theorem z74_ct (N:Nat) (c:T5) (d:T8) (e:(List T3)) (r:T13 × Bool × Int) (h:z74 N c d e=some r) :
 Fn Tryz.prog 74 ⟨8,[.a (cC5 0 1 2 3 c),.a (cC8 4 5 6 d),.S 7],((0,.sl rS c.Roles)::(1,.sl rR0 c.Decls)::(2,.sl rR2 c.Edges)::(3,.sl rR11 c.Timeouts)::vV8 4 5 6 d [(7,.sl rR3 e)]),[],8,.t [.inr (cC13 r.1),.inl (.b r.2.1),.inl (.I r.2.2)],[],[]⟩:=by
 refine eFn func74 rfl (fun E F w=>?_)
 unfold z74 at h
 refine wO J 13 h fun f g h=>eCl (z31_ct N c d e _ g) [] [(0,.sl 0),(1,.sl 1),(2,.sl 2),(3,.sl 3),(4,.sl 4),(5,.sl 5),(6,.sl 6),(7,.sl 7)] (wa J 21 (eCut (σ:=Bool) (fun st=>⟨[(2,.S 7),(3,.B 8 0),(4,.B 9 0),(6,.B 10 0),(8,.I f.2.2),(9,.B 13 0),(10,.I f.2.1),(21,.O st)],[(8,.box (cC5 0 1 2 3 c) 58),(9,.box (cC8 4 5 6 d) 64),(10,.box [.I 0,.I 0,.I 0,.I 0] 153),(13,.box (cC18 11 12 f.1) 75)],((0,.sl rS c.Roles)::(1,.sl rR0 c.Decls)::(2,.sl rR2 c.Edges)::(3,.sl rR11 c.Timeouts)::(4,.sl rB d.Finals)::(5,.sl rR9 d.Moves)::(6,.sl rR11 d.Timeouts)::(7,.sl rR3 e)::vV18 11 12 f.1 []),14⟩) (fun st=>z74_k1 N c d e f st=some r) ?_ (fun j1=>?_)))
 ·intro i h
  unfold z74_k1 at h
  refine eB h (fun h=>oi h▸wr J 9 func74 []) fun h=>?_
  refine wO J 7 h fun j k h=>eIx J oO3 k ?_
  refine wO J 16 h fun l m h=>eCl (z141_ct N c f.1 j f.2.2 _ m) [] [(0,.sl 0),(1,.sl 1),(2,.sl 2),(3,.sl 3),(4,.sl 11),(5,.sl 12),(6,.sl 15)] ?_
  refine wB J 17 h (fun h=>oi h▸wr J 15 func74 []) fun h=>?_
  exact wB J 7 h (fun h=>oi h▸wr J 15 func74 []) fun h=>oi h▸wr J 15 func74 []
 exact eB h (fun h=>wa J 2 (eSub [] (j1 true h))) fun h=>wa J 5 (eSub [] (j1 (f.2.2==1) h))
theorem z142_ct (N:Nat) (d:(List ByteArray)) (e:Int) (r:ByteArray) (h:z142 N d e=some r) :
 Fn Tryz.prog 142 ⟨1,[.S 0,.I e],[(0,.sl rS d)],[],1,.c (.s r),[],[]⟩:=by
 refine eFn func142 rfl (fun E F w=>?_)
 unfold z142 at h
 refine wB J 10 h (fun h=>oi h▸wr J 11 func142 []) fun h=>?_
 refine wB J 6 h (fun h=>oi h▸wr J 5 func142 []) fun h=>?_
 refine wO J 6 h fun f g h=>eIx J oS g ?_
 exact oi h▸wr J 3 func142 []
theorem z143_ct (N:Nat) (c:(List T0)) (r:(List ByteArray)) (h:z143 N c=some r) :
 Fn Tryz.prog 143 ⟨1,[.S 0],[(0,.sl rR0 c)],[],2,.S 1,[],[(1,.own rS r true)]⟩:=by
 refine eFn func143 rfl (fun E F w=>?_)
 unfold z143 at h
 refine wa J 15 (eCut (σ:=(List ByteArray)) (fun st=>⟨[(3,.S 1)],[(1,.own rS st true)],[(0,.sl rR0 c)],2⟩) (fun st=>z143_k1 st=some r) ?_ (fun j1=>?_))
 ·intro d h
  unfold z143_k1 at h
  exact oi h▸wr J 5 func143 [(1,.sl 1)]
 refine wa J 1 (eLoop (σ:=(List ByteArray) × Int) (fun st=>⟨[(3,.S 1),(6,.S 0),(7,.I (c.length:Int)),(8,.I st.2)],[(1,.own rS st.1 true)],[(0,.sl rR0 c)],2⟩) (fun n st=>z143_l2 c n st.1 st.2) (r:=r) (fun _=>rfl) ?_ (fun ih=>?_))
 ·intro n2 ih3
  rintro ⟨e,f⟩ h
  unfold z143_l2 at h
  refine wB' J 5 h (fun h=>wa J 2 (eSub [] (j1 e h))) fun h=>?_
  refine wO J 6 h fun g i h=>eIx J oO0 i (wa J 8 (eBs J [] oS ([g.Name]:List ByteArray) ?_))
  obtain ⟨j,k,h⟩:=ob h
  exact eAp J rS k (wa J 7 (eSub [(1,.sl 8)] (ih3 (j,(w64 (f+1))) h)))
 exact eSub [(1,.nil)] (ih N (([]:List ByteArray),0) h)
theorem z109_25_ct (N:Nat) (c:ByteArray) (r:ByteArray) (h:z109_25 N c=some r) :
 Fn Tryz.prog 109 ⟨1,[.B 0 0],[],[(0,.box [.v (.pointer none),.nil] 124)],2,.t [],[],[(1,.buf r 5),(0,.box [.bp 0 0,.sl 1] 124)]⟩:=by
 refine eFn func109 rfl (fun E F w=>?_)
 unfold z109_25 at h
 refine wa J 6 (ePz (wa J 5 (eCu (eNe func177 (by kernel_rfl) (by kernel_rfl) (by kernel_rfl) (by kernel_rfl) (eCq ?_)))))
 exact oi h▸wr J 4 func109 [(1,.nil)]
theorem z200_26_ct (N:Nat) (d:Int) (e:ByteArray) (r:Unit × ByteArray) (h:z200_26 N d e=some r) :
 Fn Tryz.prog 200 ⟨1,[.B 0 0,.c (.i .u8 d)],[],[(0,.box [.v (.pointer none),.nil] 124)],2,.c (.v .nilIface),[],[(1,.buf r.2 5),(0,.box [.bp 0 0,.sl 1] 124)]⟩:=by
 refine eFn func200 rfl (fun E F w=>?_)
 unfold z200_26 at h
 refine wO J 7 h fun f g h=>eCl (z109_25_ct N ByteArray.empty _ g) [] [(0,.bp 0 0)] (wa J 9 (eBs J [] (oI .u8) ([d]:List Int) ?_))
 obtain ⟨j,k,h⟩:=ob h
 refine eBo (ty:=5) (fr:=true) (q:=2) J k ?_
 exact oi h▸wr J 8 func200 [(1,.sl 3)]
theorem z109_27_ct (N:Nat) (c:ByteArray) (r:Unit) (h:z109_27 N c=some r) :
 Fn Tryz.prog 109 ⟨2,[.B 0 0],[],[(0,.box [.bp 0 0,.sl 1] 124),(1,.buf c 5)],2,.t [],[],[(0,.box [.bp 0 0,.sl 1] 124),(1,.buf c 5)]⟩:=by
 refine eFn func109 rfl (fun E F w=>?_)
 unfold z109_27 at h
 refine wa J 6 (ePn false (wa J 9 (ePs ?_)))
 cases h
 exact wr J 3 func109 []
theorem z200_28_ct (N:Nat) (d:Int) (e:ByteArray) (r:Unit × ByteArray) (h:z200_28 N d e=some r) :
 Fn Tryz.prog 200 ⟨2,[.B 0 0,.c (.i .u8 d)],[],[(0,.box [.bp 0 0,.sl 1] 124),(1,.buf e 5)],3,.c (.v .nilIface),[],[(1,.gone),(2,.buf r.2 5),(0,.box [.bp 0 0,.sl 2] 124)]⟩:=by
 refine eFn func200 rfl (fun E F w=>?_)
 unfold z200_28 at h
 refine wO J 7 h fun f g h=>eCl (z109_27_ct N e _ g) [] [(0,.bp 0 0),(1,.sl 1)] (wa J 9 (eBs J [] (oI .u8) ([d]:List Int) ?_))
 obtain ⟨j,k,h⟩:=ob h
 refine eBo (ty:=5) (fr:=true) (q:=2) J k ?_
 exact oi h▸wr J 8 func200 [(2,.sl 3)]
theorem z53_29_ct (N:Nat) (d:ByteArray) (r:ByteArray) (h:z53_29 N d=some r) :
 Fn Tryz.prog 53 ⟨2,[.B 0 0],[],[(0,.box [.bp 0 0,.sl 1] 124),(1,.buf d 5)],2,.c (.s r),[],[(0,.box [.bp 0 0,.sl 1] 124),(1,.gone)]⟩:=by
 refine eFn func53 rfl (fun E F w=>?_)
 unfold z53_29 at h
 refine wO J 10 h fun e f h=>eUd (ty:=5) (gdB_ok f) (wa J 4 (eBl (sb:=d) (ty:=5) J ?_))
 obtain ⟨g,i,h⟩:=ob h
 refine eUs (ty:=5) (gdB_ok i) (wa J 1 (eEnd ?_))
 cases h
 exact eRet J func53 []
theorem z145_ct (N:Nat) (d:T12) (r:ByteArray) (h:z145 N d=some r) :
 Fn Tryz.prog 145 ⟨1,[.a (cC12 d)],[],[(0,.abs powT)],1,.c (.s r),[],[(0,.abs powT)]⟩:=by
 refine eFn func145 rfl (fun E F w=>?_)
 unfold z145 at h
 refine wO J 10 h fun e f h=>eCl (z148_ct N d _ f) [] [] ?_
 refine wB J 3 h (fun h=>oi h▸wr J 5 func145 []) fun h=>?_
 refine wB J 8 h (fun h=>?_) fun h=>?_
 ·refine wO J 5 h fun g i h=>eCl (z48_ct N d.N _ i) [] [(0,.sl 0)] ?_
  exact oi h▸wr J 2 func145 []
 refine wO J 9 h fun j k h=>eCl (z200_26_ct N 34 ByteArray.empty _ k) [] [(0,.bp 2 0)] (wa J 9 (eCut (σ:=ByteArray) (fun st=>⟨[(3,.B 2 0)],[(0,.abs powT),(2,.box [.bp 2 0,.sl 4] 124),(4,.buf st 5)],[],5⟩) (fun st=>z145_k1 N st=some r) ?_ (fun j1=>?_)))
 ·intro l h
  unfold z145_k1 at h
  refine wO J 2 h fun m o h=>eCl (z200_28_ct N 34 l _ o) [] [(0,.bp 2 0),(1,.sl 4)] ?_
  refine wO J 3 h fun p q h=>eCl (z53_29_ct N m.2 _ q) [] [(0,.bp 2 0),(1,.sl 5)] ?_
  exact oi h▸wr J 2 func145 []
 refine wa J 1 (eLoop (σ:=ByteArray × Int) (fun st=>⟨[(1,.B 1 0),(3,.B 2 0),(19,.I (d.S.size:Int)),(20,.I st.2)],[(0,.abs powT),(1,.box (cC12 d) 80),(2,.box [.bp 2 0,.sl 4] 124),(4,.buf st.1 5)],[],5⟩) (fun n st=>z145_l2 N d n st.1 st.2) (r:=r) (fun _=>rfl) ?_ (fun ih=>?_))
 ·intro n2 ih3
  rintro ⟨t,u⟩ h
  unfold z145_l2 at h
  refine wB' J 5 h (fun h=>wa J 2 (eSub [] (j1 t h))) fun h=>?_
  refine wO J 15 h fun v x h=>eSx J x ?_
  refine wB J 2 h (fun h=>?_) fun h=>?_
  ·refine wO J 9 h fun y z h=>eCl (z200_28_ct N 92 t _ z) [] [(0,.bp 2 0),(1,.sl 4)] ?_
   refine wO J 5 h fun A C h=>eSx J C ?_
   obtain ⟨D,G,h⟩:=ob h
   exact eCl (z200_28_ct N A y.2 _ G) [] [(0,.bp 2 0),(1,.sl 5)] (wa J 6 (eSub [(4,.sl 6)] (ih3 (D.2,(w64 (u+1))) h)))
  refine wO J 3 h fun H R h=>eSx J R ?_
  refine wB' J 3 h (fun h=>?_) fun h=>?_
  ·refine wO J 6 h fun T U h=>eSx J U ?_
   obtain ⟨X,Y,h⟩:=ob h
   exact eCl (z200_28_ct N T t _ Y) [] [(0,.bp 2 0),(1,.sl 4)] (wa J 6 (eSub [(4,.sl 5)] (ih3 (X.2,(w64 (u+1))) h)))
  refine wO J 2 h fun Z a0 h=>eCl (z200_28_ct N 92 t _ a0) [] [(0,.bp 2 0),(1,.sl 4)] ?_
  refine wO J 5 h fun b0 c0 h=>eSx J c0 ?_
  obtain ⟨d0,e0,h⟩:=ob h
  exact eCl (z200_28_ct N b0 Z.2 _ e0) [] [(0,.bp 2 0),(1,.sl 5)] (wa J 6 (eSub [(4,.sl 6)] (ih3 (d0.2,(w64 (u+1))) h)))
 exact eSub [(4,.sl 3)] (ih N (j.2,0) h)
theorem z144_ct (N:Nat) (d:(List T12)) (r:ByteArray) (h:z144 N d=some r) :
 Fn Tryz.prog 144 ⟨2,[.S 0],[(0,.sl rR12 d)],[(1,.abs powT)],2,.c (.s r),[],[(1,.abs powT)]⟩:=by
 refine eFn func144 rfl (fun E F w=>?_)
 unfold z144 at h
 refine wa J 15 (eCut (σ:=(List ByteArray)) (fun st=>⟨[(3,.S 2)],[(1,.abs powT),(2,.own rS st true)],[(0,.sl rR12 d)],3⟩) (fun st=>z144_k1 N st=some r) ?_ (fun j1=>?_))
 ·intro e h
  unfold z144_k1 at h
  refine wO J 3 h fun f g h=>eCb (z25_ct N e (str [44,32]) _ g) [] [(0,.sl 2)] [2] (.inr ⟨rfl,trivial⟩) ?_
  obtain ⟨i,j,h⟩:=ob h
  refine eCa j ?_
  obtain ⟨k,l,h⟩:=ob h
  refine eCa l ?_
  exact oi h▸wr J 2 func144 []
 refine wa J 1 (eLoop (σ:=(List ByteArray) × Int) (fun st=>⟨[(3,.S 2),(6,.S 0),(7,.I (d.length:Int)),(8,.I st.2)],[(1,.abs powT),(2,.own rS st.1 true)],[(0,.sl rR12 d)],3⟩) (fun n st=>z144_l2 N d n st.1 st.2) (r:=r) (fun _=>rfl) ?_ (fun ih=>?_))
 ·intro n2 ih3
  rintro ⟨m,o⟩ h
  unfold z144_l2 at h
  refine wB' J 5 h (fun h=>wa J 2 (eSub [] (j1 m h))) fun h=>?_
  refine wO J 6 h fun p q h=>eIx J oO12 q ?_
  refine wO J 7 h fun t u h=>eCl (z145_ct N p _ u) [] [(0,.sl 1)] (eBs J [] oS ([t]:List ByteArray) ?_)
  obtain ⟨v,x,h⟩:=ob h
  exact eAp J rS x (wa J 7 (eSub [(2,.sl 6)] (ih3 (v,(w64 (o+1))) h)))
 exact eSub [(2,.nil)] (ih N (([]:List ByteArray),0) h)
theorem z75_ct (N:Nat) (d:T5) (e:T3) (r:ByteArray) (h:z75 N d e=some r) :
 Fn Tryz.prog 75 ⟨6,[.a (cC5 0 1 2 3 d),.a (cC3 4 e)],(vV5 0 1 2 3 d [(4,.sl rR12 e.Values)]),[(5,.abs powT)],6,.c (.s r),[],[(5,.abs powT)]⟩:=by
 refine eFn func75 rfl (fun E F w=>?_)
 unfold z75 at h
 refine wa J 17 (eCut (σ:=ByteArray × ByteArray) (fun st=>⟨[(2,.B 6 0),(3,.B 7 0),(5,.c (.s st.1)),(6,.c (.s st.2))],[(5,.abs powT),(6,.box (cC5 0 1 2 3 d) 58),(7,.box (cC3 4 e) 71)],(vV5 0 1 2 3 d [(4,.sl rR12 e.Values)]),8⟩) (fun st=>z75_k1 N d e st.1 st.2=some r) ?_ (fun j1=>?_))
 ·rintro ⟨f,g⟩ h
  unfold z75_k1 at h
  refine wO J 6 h fun i j h=>eCl (z142_ct N d.Roles e.Role _ j) [] [(0,.sl 0)] ?_
  refine wO J 1 h fun k l h=>eCa l ?_
  refine wO J 2 h fun m o h=>eCl (z143_ct N d.Decls _ o) [] [(0,.sl 1)] ?_
  refine wO J 2 h fun p q h=>eCb (z142_ct N m e.Label _ q) [] [(0,.sl 8)] [8] (.inr ⟨rfl,trivial⟩) ?_
  obtain ⟨t,u,h⟩:=ob h
  refine eCa u ?_
  refine wO J 2 h fun v x h=>eCl (z144_ct N e.Values _ x) [] [(0,.sl 4),(1,.sl 5)] ?_
  obtain ⟨y,z,h⟩:=ob h
  refine eCa z ?_
  refine wO J 1 h fun A C h=>eCa C ?_
  refine wO J 4 h fun D G h=>eCl (z142_ct N d.Roles e.Peer _ G) [] [(0,.sl 0)] ?_
  obtain ⟨H,R,h⟩:=ob h
  refine eCa R (wa J 1 (eEnd ?_))
  cases h
  exact eRet J func75 []
 exact eB h (fun h=>wa J 5 (eSub [] (j1 ((str [32,115,101,110,100,115,32]),(str [32,116,111,32])) h))) fun h=>wa J 2 (eSub [] (j1 ((str [32,103,101,116,115,32]),(str [32,102,114,111,109,32])) h))
theorem z76_ct (N:Nat) (d:T5) (e:T8) (f:T13) (g:T3) (r:ByteArray) (h:z76 N d e f g=some r) :
 Fn Tryz.prog 76 ⟨9,[.a (cC5 0 1 2 3 d),.a (cC8 4 5 6 e),.a (cC13 f),.a (cC3 7 g)],((0,.sl rS d.Roles)::(1,.sl rR0 d.Decls)::(2,.sl rR2 d.Edges)::(3,.sl rR11 d.Timeouts)::vV8 4 5 6 e [(7,.sl rR12 g.Values)]),[(8,.abs powT)],9,.c (.s r),[],[(8,.abs powT)]⟩:=by
 refine eFn func76 rfl (fun E F w=>?_)
 unfold z76 at h
 refine wB J 20 h (fun h=>?_) fun h=>?_
 ·refine wO J 7 h fun i j h=>eCl (z142_ct N d.Roles e.Role _ j) [] [(0,.sl 0)] ?_
  obtain ⟨k,l,h⟩:=ob h
  refine eCa l ?_
  exact oi h▸wr J 2 func76 []
 refine wB J 6 h (fun h=>oi h▸wr J 5 func76 []) fun h=>?_
 refine wB J 6 h (fun h=>?_) fun h=>?_
 ·refine wO J 6 h fun m o h=>eCl (z48_ct N (g.Values.length:Int) _ o) [] [(0,.sl 8)] ?_
  obtain ⟨p,q,h⟩:=ob h
  refine eCa q ?_
  obtain ⟨t,u,h⟩:=ob h
  refine eCa u ?_
  refine wO J 4 h fun v x h=>eIx J oO0 x ?_
  refine wO J 3 h fun y z h=>eCl (z48_ct N (v.Fields.length:Int) _ z) [] [(0,.sl 8)] ?_
  obtain ⟨A,C,h⟩:=ob h
  refine eCa C (wa J 1 (eEnd ?_))
  cases h
  exact eRet J func76 []
 refine wB' J 6 h (fun h=>?_) fun h=>?_
 ·refine wB' J 6 h (fun h=>oi h▸wr J 7 func76 []) fun h=>?_
  refine wO J 9 h fun D G h=>eCl (z24_ct N d.Decls g.Label f.Part _ G) [] [(0,.sl 1),(1,.sl 8)] ?_
  obtain ⟨H,R,h⟩:=ob h
  refine eCa R ?_
  exact oi h▸wr J 2 func76 []
 refine wO J 7 h fun T U h=>eIx J oO0 U ?_
 refine wO J 4 h fun X Y h=>eIx J oO4 Y (wa J 3 (eEnd ?_))
 refine wO J 6 h fun Z a0 h=>eIx J oO12 a0 ?_
 refine wO J 1 h fun b0 c0 h=>eCl (z145_ct N Z _ c0) [] [(0,.sl 8)] ?_
 obtain ⟨d0,e0,h⟩:=ob h
 refine eCa e0 ?_
 obtain ⟨f0,g0,h⟩:=ob h
 refine eCa g0 ?_
 refine wO J 2 h fun i0 j0 h=>eCa j0 ?_
 obtain ⟨k0,l0,h⟩:=ob h
 refine eCa l0 ?_
 refine wO J 3 h fun m0 o0 h=>eCl (z48_ct N X.Sort'.Lo _ o0) [] [(0,.sl 8)] ?_
 obtain ⟨p0,q0,h⟩:=ob h
 refine eCa q0 ?_
 obtain ⟨s0,t0,h⟩:=ob h
 refine eCa t0 ?_
 refine wO J 3 h fun u0 v0 h=>eCl (z48_ct N X.Sort'.Hi _ v0) [] [(0,.sl 8)] ?_
 obtain ⟨x0,y0,h⟩:=ob h
 refine eCa y0 (wa J 1 (eEnd ?_))
 cases h
 exact eRet J func76 []
theorem z32_ct (N:Nat) (c:T5) (d:T8) (e:(List T3)) (r:ByteArray × Int) (h:z32 N c d e=some r) :
 Fn Tryz.prog 32 ⟨9,[.a (cC5 0 1 2 3 c),.a (cC8 4 5 6 d),.S 7],((0,.sl rS c.Roles)::(1,.sl rR0 c.Decls)::(2,.sl rR2 c.Edges)::(3,.sl rR11 c.Timeouts)::vV8 4 5 6 d [(7,.sl rR3 e)]),[(8,.abs powT)],9,.t [.inl (.s r.1),.inl (.I r.2)],[],[(8,.abs powT)]⟩:=by
 refine eFn func32 rfl (fun E F w=>?_)
 unfold z32 at h
 refine wO J 12 h fun f g h=>eCl (z74_ct N c d e _ g) [] [(0,.sl 0),(1,.sl 1),(2,.sl 2),(3,.sl 3),(4,.sl 4),(5,.sl 5),(6,.sl 6),(7,.sl 7)] ?_
 refine wB J 15 h (fun h=>oi h▸wr J 11 func32 []) fun h=>?_
 refine wB J 4 h (fun h=>oi h▸wr J 7 func32 []) fun h=>?_
 refine wO J 7 h fun i j h=>eIx J oO3 j ?_
 refine wO J 8 h fun k l h=>eCl (z75_ct N c i _ l) [] [(0,.sl 0),(1,.sl 1),(2,.sl 2),(3,.sl 3),(4,.sl 13),(5,.sl 8)] ?_
 obtain ⟨m,o,h⟩:=ob h
 refine eCa o ?_
 refine wO J 4 h fun p q h=>eCl (z76_ct N c d f.1 i _ q) [] [(0,.sl 0),(1,.sl 1),(2,.sl 2),(3,.sl 3),(4,.sl 4),(5,.sl 5),(6,.sl 6),(7,.sl 13),(8,.sl 8)] ?_
 obtain ⟨u,v,h⟩:=ob h
 refine eCa v (wa J 2 (eEnd ?_))
 cases h
 exact eRet J func32 []
theorem z11_ct (N:Nat) (c:T5) (d:T8) (e:(List T3)) (f:T3) (r:ByteArray × Int) (h:z11 N c d e f=some r) :
 Fn Tryz.prog 11 ⟨10,[.a (cC5 0 1 2 3 c),.a (cC8 4 5 6 d),.S 7,.a (cC3 8 f)],((0,.sl rS c.Roles)::(1,.sl rR0 c.Decls)::(2,.sl rR2 c.Edges)::(3,.sl rR11 c.Timeouts)::vV8 4 5 6 d [(7,.sl rR3 e),(8,.sl rR12 f.Values)]),[(9,.abs powT)],10,.t [.inl (.s r.1),.inl (.I r.2)],[],[(9,.abs powT)]⟩:=by
 refine eFn func11 rfl (fun E F w=>?_)
 unfold z11 at h
 refine wO J 13 h fun g i h=>eCl (z31_ct N c d e _ i) [] [(0,.sl 0),(1,.sl 1),(2,.sl 2),(3,.sl 3),(4,.sl 4),(5,.sl 5),(6,.sl 6),(7,.sl 7)] ?_
 refine wB J 17 h (fun h=>oi h▸wr J 6 func11 []) fun h=>?_
 refine wB J 7 h (fun h=>oi h▸wr J 6 func11 []) fun h=>?_
 refine wO J 8 h fun j k h=>eCl (z33_ct N e _ k) [] [(0,.sl 7)] (wa J 1 (eBs J [] oO3 ([f]:List T3) ?_))
 obtain ⟨l,m,h⟩:=ob h
 refine eAp J rR3 m ?_
 obtain ⟨o,p,h⟩:=ob h
 refine eCl (z32_ct N c d l _ p) [18] [(0,.sl 0),(1,.sl 1),(2,.sl 2),(3,.sl 3),(4,.sl 4),(5,.sl 5),(6,.sl 6),(7,.sl 18),(8,.sl 9)] (wa J 5 (eEnd ?_))
 refine wB J 6 h (fun h=>oi h▸wr J 11 func11 []) fun h=>?_
 refine wB J 4 h (fun h=>oi h▸wr J 7 func11 []) fun h=>?_
 refine wO J 8 h fun q u h=>eCl (z30_ct N c d g.1.At _ u) [] [(0,.sl 0),(1,.sl 1),(2,.sl 2),(3,.sl 3),(4,.sl 4),(5,.sl 5),(6,.sl 6),(7,.sl 9)] ?_
 obtain ⟨v,x,h⟩:=ob h
 refine eCb (z25_ct N q (str [59,32]) _ x) [] [(0,.sl 19)] [19] (.inr ⟨rfl,trivial⟩) ?_
 refine wB J 8 h (fun h=>?_) fun h=>?_
 ·refine wO J 7 h fun y z h=>eCa z ?_
  refine wO J 1 h fun A C h=>eCa C ?_
  exact oi h▸wr J 3 func11 []
 refine wO J 5 h fun D G h=>eCa G ?_
 refine wO J 1 h fun H R h=>eCa R ?_
 exact oi h▸wr J 3 func11 []
theorem z209_ct (N:Nat) (c:Int) (d:Int) (r:Int) (h:z209 N c d=some r) :
 Fn Tryz.prog 209 ⟨0,[.I c,.I d],[],[],0,.I r,[],[]⟩:=by
 refine eFn func209 rfl (fun E F w=>?_)
 unfold z209 at h
 refine wB J 13 h (fun h=>oi h▸wr J 5 func209 []) fun h=>?_
 refine wB J 6 h (fun h=>oi h▸wr J 10 func209 []) fun h=>?_
 exact wB J 5 h (fun h=>oi h▸wr J 5 func209 []) fun h=>oi h▸wr J 7 func209 []
theorem z156_ct (N:Nat) (c:Int) (r:T26) (h:z156 N c=some r) :
 Fn Tryz.prog 156 ⟨0,[.I c],[],[],1,.a (cC26 0 r),[(0,.sl (rI .i64) r.B)],[]⟩:=by
 refine eFn func156 rfl (fun E F w=>?_)
 unfold z156 at h
 refine wO J 12 h fun d e h=>eMk J (oI .i64) e (wa J 11 (eCut (σ:=(List Int)) (fun st=>(zz14 st c [(2,.B 0 0),(3,.B 2 0)])) (fun st=>z156_k1 c st=some r) ?_ (fun j1=>?_)))
 ·intro f h
  unfold z156_k1 at h
  refine wa J 5 (eFr [1] ?_)
  cases h
  exact eRet J func156 [(0,.sl 1)]
 refine wa J 1 (eLoop (σ:=(List Int) × Int) (fun st=>(zz14 st.1 c [(0,.I c),(2,.B 0 0),(3,.B 2 0),(15,.I (w64 (c+1))),(16,.I st.2)])) (fun n st=>z156_l2 N c n st.1 st.2) (r:=r) (fun _=>rfl) ?_ (fun ih=>?_))
 ·intro n12 ih12
  rintro ⟨g,i⟩ h
  unfold z156_l2 at h
  refine wB' J 5 h (fun h=>wa J 2 (eSub [] (j1 g h))) fun h=>wa J 15 (eCut (σ:=(List Int)) (fun st=>(zz14 st c [(0,.I c),(2,.B 0 0),(3,.B 2 0),(15,.I (w64 (c+1))),(16,.I i)])) (fun st=>z156_k3 i (z156_l2 N c n12) st=some r) ?_ (fun j19=>?_))
  ·intro j h
   unfold z156_k3 at h
   exact wa J 5 (eSub [] (ih12 (j,(w64 (i+1))) h))
  refine wa J 1 (eLoop (σ:=(List Int) × Int) (fun st=>(zz14 st.1 c [(0,.I c),(2,.B 0 0),(3,.B 2 0),(4,.I i),(15,.I (w64 (c+1))),(16,.I i),(20,.I (w64 (c+1))),(21,.I st.2)])) (fun n st=>z156_l4 N c i (z156_l2 N c n12) n st.1 st.2) (r:=r) (fun _=>rfl) ?_ (fun ih=>?_))
  ·intro n14 ih21
   rintro ⟨k,l⟩ h
   unfold z156_l4 at h
   refine wB' J 5 h (fun h=>wa J 2 (eSub [] (j19 k h))) fun h=>?_
   refine wO J 20 h fun m o h=>eCl (z209_ct N i l _ o) [] [] ?_
   obtain ⟨p,q,h⟩:=ob h
   exact eIo J (rI .i64) q (eSt J [] (oI .i64) m q (eEnd (wa J 5 (eSub [] (ih21 ((setL' k (w64 ((w64 (i * (w64 (c+1))))+l)) m),(w64 (l+1))) h)))))
  exact eSub [] (ih N (g,0) h)
 exact eSub [] (ih N (d,0) h)
theorem z82_ct (N:Nat) (c:Int) (r:T26 × Int) (h:z82 N c=some r) :
 Fn Tryz.prog 82 ⟨0,[.I c],[],[],1,.t [.inr (cC26 0 r.1),.inl (.I r.2)],[(0,.sl (rI .i64) r.1.B)],[]⟩:=by
 refine eFn func82 rfl (fun E F w=>?_)
 unfold z82 at h
 refine wB J 11 h (fun h=>oi h▸wr J 11 func82 [(0,.nil)]) fun h=>?_
 refine wB J 4 h (fun h=>oi h▸wr J 7 func82 [(0,.nil)]) fun h=>?_
 refine wO J 5 h fun d e h=>eCl (z156_ct N c _ e) [] [] ?_
 exact oi h▸wr J 3 func82 [(0,.sl 1)]
theorem z210_ct (N:Nat) (c:(List Int)) (r:Int) (h:z210 N c=some r) :
 Fn Tryz.prog 210 ⟨1,[.S 0],[(0,.sl (rI .i64) c)],[],1,.I r,[],[]⟩:=by
 refine eFn func210 rfl (fun E F w=>?_)
 unfold z210 at h
 refine wB J 11 h (fun h=>?_) fun h=>?_
 ·cases h
 refine wO J 5 h fun d e h=>eIx J (oI .i64) e (wa J 8 (eCut (σ:=Int) (fun st=>(zz15 c [(3,.I st)])) (fun st=>z210_k1 st=some r) ?_ (fun j2=>?_)))
 ·intro f h
  unfold z210_k1 at h
  exact oi h▸wr J 5 func210 []
 refine wa J 1 (eLoop (σ:=Int × Int) (fun st=>(zz15 c [(0,.S 0),(3,.I st.1),(4,.I st.2)])) (fun n st=>z210_l2 c n st.1 st.2) (r:=r) (fun _=>rfl) ?_ (fun ih=>?_))
 ·intro n2 ih4
  rintro ⟨g,i⟩ h
  unfold z210_l2 at h
  refine wB' J 8 h (fun h=>wa J 2 (eSub [] (j2 g h))) fun h=>?_
  exact wO J 8 h fun j k h=>eIx J (oI .i64) k (wa J 10 (eSub [] (ih4 ((minI g j),(w64 (i+1))) h)))
 exact eSub [] (ih N (d,1) h)
theorem z211_ct (N:Nat) (c:(List Int)) (r:Int) (h:z211 N c=some r) :
 Fn Tryz.prog 211 ⟨1,[.S 0],[(0,.sl (rI .i64) c)],[],1,.I r,[],[]⟩:=by
 refine eFn func211 rfl (fun E F w=>?_)
 unfold z211 at h
 refine wB J 11 h (fun h=>?_) fun h=>?_
 ·cases h
 refine wO J 5 h fun d e h=>eIx J (oI .i64) e (wa J 8 (eCut (σ:=Int) (fun st=>(zz15 c [(3,.I st)])) (fun st=>z211_k1 st=some r) ?_ (fun j2=>?_)))
 ·intro f h
  unfold z211_k1 at h
  exact oi h▸wr J 5 func211 []
 refine wa J 1 (eLoop (σ:=Int × Int) (fun st=>(zz15 c [(0,.S 0),(3,.I st.1),(4,.I st.2)])) (fun n st=>z211_l2 c n st.1 st.2) (r:=r) (fun _=>rfl) ?_ (fun ih=>?_))
 ·intro n2 ih4
  rintro ⟨g,i⟩ h
  unfold z211_l2 at h
  refine wB' J 8 h (fun h=>wa J 2 (eSub [] (j2 g h))) fun h=>?_
  exact wO J 8 h fun j k h=>eIx J (oI .i64) k (wa J 10 (eSub [] (ih4 ((maxI g j),(w64 (i+1))) h)))
 exact eSub [] (ih N (d,1) h)
theorem z157_ct (N:Nat) (c:T26) (r:Bool) (h:z157 N c=some r) :
 Fn Tryz.prog 157 ⟨1,[.a (cC26 0 c)],[(0,.sl (rI .i64) c.B)],[],1,.O r,[],[]⟩:=by
 refine eFn func157 rfl (fun E F w=>?_)
 unfold z157 at h
 refine wB' J 11 h (fun h=>oi h▸wr J 31 func157 []) fun h=>?_
 refine wB' J 5 h (fun h=>oi h▸wr J 26 func157 []) fun h=>?_
 refine wB' J 13 h (fun h=>oi h▸wr J 13 func157 []) fun h=>?_
 refine wO J 2 h fun d e h=>eCl (z210_ct N c.B _ e) [] [(0,.sl 0)] ?_
 refine wB' J 3 h (fun h=>oi h▸wr J 7 func157 []) fun h=>?_
 refine wO J 2 h fun f g h=>eCl (z211_ct N c.B _ g) [] [(0,.sl 0)] ?_
 exact oi h▸wr J 4 func157 []
theorem z158_ct (N:Nat) (c:T26) (d:Int) (r:Bool) (h:z158 N c d=some r) :
 Fn Tryz.prog 158 ⟨1,[.a (cC26 0 c),.I d],[(0,.sl (rI .i64) c.B)],[],1,.O r,[],[]⟩:=by
 refine eFn func158 rfl (fun E F w=>?_)
 unfold z158 at h
 exact wB J 10 h (fun h=>oi h▸wr J 7 func158 []) fun h=>oi h▸wr J 7 func158 []
theorem z159_ct (N:Nat) (c:(List Int)) (r:(List Int)) (h:z159 N c=some r) :
 Fn Tryz.prog 159 ⟨1,[.S 0],[(0,.sl (rI .i64) c)],[],2,.S 1,[],[(1,.own (rI .i64) r true)]⟩:=by
 refine eFn func159 rfl (fun E F w=>?_)
 unfold z159 at h
 refine wa J 8 (eNi (rI .i64) c false ?_)
 intro nb hnb
 cases nb
 ·refine wa J 5 (eBs J [] (oI .i64) ([]:List Int) ?_)
  refine wO J 1 h fun d e h=>eAp J (rI .i64) e ?_
  exact oi h▸wr J 2 func159 [(1,.sl 2)]
 ·obtain rfl:=hnb rfl
  replace h:(some ([]:List Int):Option (List Int))=some r:=h
  exact oi h▸wr J 6 func159 [(1,.nil)]
theorem z84_ct (N:Nat) (c:T26) (d:T1) (r:T26 × Int) (h:z84 N c d=some r) :
 Fn Tryz.prog 84 ⟨1,[.a (cC26 0 c),.a (cC1 d)],[(0,.sl (rI .i64) c.B)],[],2,.t [.inr (cC26 1 r.1),.inl (.I r.2)],[(1,.sl (rI .i64) r.1.B)],[]⟩:=by
 refine eFn func84 rfl (fun E F w=>?_)
 unfold z84 at h
 refine wO J 11 h fun e f h=>eCl (z157_ct N c _ f) [] [(0,.sl 0)] ?_
 refine wB J 2 h (fun h=>oi h▸wr J 7 func84 [(1,.nil)]) fun h=>?_
 refine wO J 8 h fun g i h=>eCl (z158_ct N c d.X _ i) [] [(0,.sl 0)] ?_
 refine wB J 2 h (fun h=>oi h▸wr J 14 func84 [(1,.nil)]) fun h=>?_
 refine wO J 3 h fun j k h=>eCl (z158_ct N c d.Y _ k) [] [(0,.sl 0)] ?_
 refine wB J 3 h (fun h=>oi h▸wr J 7 func84 [(1,.nil)]) fun h=>?_
 refine wO J 8 h fun l m h=>eCl (z159_ct N c.B _ m) [] [(0,.sl 0)] (wa J 3 (eEnd ?_))
 refine wO J 23 h fun o p h=>eIo J (rI .i64) p (eLd J (oI .i64) p ?_)
 refine wO J 4 h fun q s h=>eIo J (rI .i64) s (eSt J [] (oI .i64) (minI o (maxI d.C (-20001))) s (eEnd (wa J 6 (eFr [4] ?_))))
 cases h
 exact eRet J func84 [(1,.sl 4)]
theorem z160_ct (N:Nat) (c:T26) (r:T26 × Bool) (h:z160 N c=some r) :
 Fn Tryz.prog 160 ⟨1,[.a (cC26 0 c)],[(0,.sl (rI .i64) c.B)],[],2,.t [.inr (cC26 1 r.1),.inl (.b r.2)],[(1,.sl (rI .i64) r.1.B)],[]⟩:=by
 refine eFn func160 rfl (fun E F w=>?_)
 unfold z160 at h
 refine wO J 10 h fun d e h=>eCl (z157_ct N c _ e) [] [(0,.sl 0)] ?_
 refine wB J 2 h (fun h=>oi h▸wr J 7 func160 [(1,.nil)]) fun h=>?_
 refine wO J 15 h fun f g h=>eCl (z159_ct N c.B _ g) [] [(0,.sl 0)] (wa J 3 (eEnd (wa J 6 (eCut (σ:=(List Int)) (fun st=>(zz1 st c c.B [(2,.B 2 0),(4,.I (w64 (c.N+1))),(5,.B 4 0)])) (fun st=>z160_k9 N c st=some r) ?_ (fun j1=>?_)))))
 ·intro i h
  unfold z160_k9 at h
  refine wa J 6 (eCut (σ:=(List Int)) (fun st=>(zz1 st c c.B [(2,.B 2 0),(5,.B 4 0)])) (fun st=>z160_k1 c st=some r) ?_ (fun j12=>?_))
  ·intro j h
   unfold z160_k1 at h
   refine wa J 6 (eFr [3] ?_)
   cases h
   exact eRet J func160 [(1,.sl 3)]
  refine wa J 1 (eLoop (σ:=(List Int) × Int) (fun st=>(zz1 st.1 c c.B [(2,.B 2 0),(4,.I (w64 (c.N+1))),(5,.B 4 0),(56,.I (w64 (c.N+1))),(57,.I st.2)])) (fun n st=>z160_l2 N c n st.1 st.2) (r:=r) (fun _=>rfl) ?_ (fun ih=>?_))
  ·intro n89 ih86
   rintro ⟨k,l⟩ h
   unfold z160_l2 at h
   refine wB' J 5 h (fun h=>wa J 2 (eSub [] (j12 k h))) fun h=>wa J 15 (eCut (σ:=(List Int)) (fun st=>(zz1 st c c.B [(2,.B 2 0),(4,.I (w64 (c.N+1))),(5,.B 4 0),(56,.I (w64 (c.N+1))),(57,.I l)])) (fun st=>z160_k5 N c l (z160_l2 N c n89) st=some r) ?_ (fun j135=>?_))
   ·intro m h
    unfold z160_k5 at h
    refine wa J 5 (eCut (σ:=Unit) (fun st=>(zz1 m c c.B [(2,.B 2 0),(4,.I (w64 (c.N+1))),(5,.B 4 0),(56,.I (w64 (c.N+1))),(57,.I l)])) (fun st=>z160_k3 l (z160_l2 N c n89) m=some r) ?_ (fun j146=>?_))
    ·intro _ h
     unfold z160_k3 at h
     exact wa J 5 (eSub [] (ih86 (m,(w64 (l+1))) h))
    refine wa J 1 (eLoop (σ:=Int) (fun st=>(zz1 m c c.B [(2,.B 2 0),(4,.I (w64 (c.N+1))),(5,.B 4 0),(56,.I (w64 (c.N+1))),(57,.I l),(107,.I (w64 (c.N+1))),(108,.I st)])) (fun n st=>z160_l4 c l (z160_l2 N c n89) m n st) (r:=r) (fun _=>rfl) ?_ (fun ih=>?_))
    ·intro n98 ih148
     intro o h
     unfold z160_l4 at h
     refine wB' J 5 h (fun h=>wa J 2 (eSub [] (j146 () h))) fun h=>?_
     refine wO J 18 h fun p q h=>eIo J (rI .i64) q (eLd J (oI .i64) q ?_)
     exact wB J 2 h (fun h=>oi h▸wr J 7 func160 [(1,.nil)]) fun h=>wa J 7 (eSub [] (ih148 (w64 (o+1)) h))
    exact eSub [] (ih N 0 h)
   refine wa J 1 (eLoop (σ:=(List Int) × Int) (fun st=>(zz1 st.1 c c.B [(2,.B 2 0),(4,.I (w64 (c.N+1))),(5,.B 4 0),(8,.I l),(56,.I (w64 (c.N+1))),(57,.I l),(60,.I (w64 (c.N+1))),(61,.I st.2)])) (fun n st=>z160_l6 N c l (z160_l2 N c n89) n st.1 st.2) (r:=r) (fun _=>rfl) ?_ (fun ih=>?_))
   ·intro n103 ih149
    rintro ⟨s,u⟩ h
    unfold z160_l6 at h
    refine wB' J 5 h (fun h=>wa J 2 (eSub [] (j135 s h))) fun h=>wa J 14 (eCut (σ:=(List Int)) (fun st=>(zz1 st c c.B [(2,.B 2 0),(4,.I (w64 (c.N+1))),(5,.B 4 0),(8,.I l),(56,.I (w64 (c.N+1))),(57,.I l),(60,.I (w64 (c.N+1))),(61,.I u)])) (fun st=>z160_k7 u (z160_l6 N c l (z160_l2 N c n89) n103) st=some r) ?_ (fun j156=>?_))
    ·intro v h
     unfold z160_k7 at h
     exact wa J 5 (eSub [] (ih149 (v,(w64 (u+1))) h))
    refine wa J 1 (eLoop (σ:=(List Int) × Int) (fun st=>(zz1 st.1 c c.B [(2,.B 2 0),(4,.I (w64 (c.N+1))),(5,.B 4 0),(8,.I l),(9,.I u),(56,.I (w64 (c.N+1))),(57,.I l),(60,.I (w64 (c.N+1))),(61,.I u),(64,.I (w64 (c.N+1))),(65,.I st.2)])) (fun n st=>z160_l8 c l u (z160_l6 N c l (z160_l2 N c n89) n103) n st.1 st.2) (r:=r) (fun _=>rfl) ?_ (fun ih=>?_))
    ·intro n105 ih158
     rintro ⟨x,y⟩ h
     unfold z160_l8 at h
     refine wB' J 5 h (fun h=>wa J 2 (eSub [] (j156 x h))) fun h=>?_
     refine wO J 24 h fun z A h=>eIo J (rI .i64) A (eLd J (oI .i64) A ?_)
     refine wO J 7 h fun C D h=>eIo J (rI .i64) D (eLd J (oI .i64) D ?_)
     refine wO J 7 h fun G H h=>eIo J (rI .i64) H (eLd J (oI .i64) H ?_)
     exact wO J 2 h fun R T h=>eIo J (rI .i64) T (eSt J [] (oI .i64) (minI z (w64 (C+G))) T (eEnd (wa J 5 (eSub [] (ih158 ((setL' x (w64 ((w64 (u * (w64 (c.N+1))))+y)) (minI z (w64 (C+G)))),(w64 (y+1))) h)))))
    exact eSub [] (ih N (s,0) h)
   exact eSub [] (ih N (k,0) h)
  exact eSub [] (ih N (i,0) h)
 refine wa J 1 (eLoop (σ:=(List Int) × Int) (fun st=>(zz1 st.1 c c.B [(2,.B 2 0),(4,.I (w64 (c.N+1))),(5,.B 4 0),(25,.I (w64 (c.N+1))),(26,.I st.2)])) (fun n st=>z160_l10 N c n st.1 st.2) (r:=r) (fun _=>rfl) ?_ (fun ih=>?_))
 ·intro n110 ih159
  rintro ⟨U,X⟩ h
  unfold z160_l10 at h
  refine wB' J 5 h (fun h=>wa J 2 (eSub [] (j1 U h))) fun h=>wa J 14 (eCut (σ:=(List Int)) (fun st=>(zz1 st c c.B [(2,.B 2 0),(4,.I (w64 (c.N+1))),(5,.B 4 0),(25,.I (w64 (c.N+1))),(26,.I X)])) (fun st=>z160_k11 X (z160_l10 N c n110) st=some r) ?_ (fun j166=>?_))
  ·intro Y h
   unfold z160_k11 at h
   exact wa J 5 (eSub [] (ih159 (Y,(w64 (X+1))) h))
  refine wa J 1 (eLoop (σ:=(List Int) × Int) (fun st=>(zz1 st.1 c c.B [(2,.B 2 0),(4,.I (w64 (c.N+1))),(5,.B 4 0),(6,.I X),(25,.I (w64 (c.N+1))),(26,.I X),(29,.I (w64 (c.N+1))),(30,.I st.2)])) (fun n st=>z160_l12 N c X (z160_l10 N c n110) n st.1 st.2) (r:=r) (fun _=>rfl) ?_ (fun ih=>?_))
  ·intro n112 ih168
   rintro ⟨Z,a0⟩ h
   unfold z160_l12 at h
   refine wB' J 5 h (fun h=>wa J 2 (eSub [] (j166 Z h))) fun h=>?_
   refine wO J 24 h fun b0 c0 h=>eIo J (rI .i64) c0 (eLd J (oI .i64) c0 ?_)
   refine wO J 2 h fun d0 e0 h=>eCl (z209_ct N X a0 _ e0) [] [] ?_
   exact wO J 1 h fun f0 g0 h=>eIo J (rI .i64) g0 (eSt J [] (oI .i64) (minI b0 d0) g0 (eEnd (wa J 5 (eSub [] (ih168 ((setL' Z (w64 ((w64 (X * (w64 (c.N+1))))+a0)) (minI b0 d0)),(w64 (a0+1))) h)))))
  exact eSub [] (ih N (U,0) h)
 exact eSub [] (ih N (f,0) h)
theorem z161_ct (N:Nat) (c:T26) (d:Int) (e:Int) (r:Int) (h:z161 N c d e=some r) :
 Fn Tryz.prog 161 ⟨1,[.a (cC26 0 c),.I d,.I e],[(0,.sl (rI .i64) c.B)],[],1,.I r,[],[]⟩:=by
 refine eFn func161 rfl (fun E F w=>?_)
 unfold z161 at h
 refine wO J 16 h fun f g h=>eIx J (oI .i64) g ?_
 exact oi h▸wr J 3 func161 []
theorem z85_ct (N:Nat) (c:T26) (r:(List Int) × Bool) (h:z85 N c=some r) :
 Fn Tryz.prog 85 ⟨1,[.a (cC26 0 c)],[(0,.sl (rI .i64) c.B)],[],2,.t [.inl (.sl 1),.inl (.b r.2)],[],[(1,.own (rI .i64) r.1 true)]⟩:=by
 refine eFn func85 rfl (fun E F w=>?_)
 unfold z85 at h
 refine wO J 9 h fun d e h=>eCl (z160_ct N c _ e) [] [(0,.sl 0)] ?_
 refine wB J 13 h (fun h=>oi h▸wr J 6 func85 [(1,.nil)]) fun h=>wa J 4 (eBs J [] (oI .i64) ([]:List Int) (wa J 9 (eCut (σ:=(List Int)) (fun st=>⟨[(6,.S 5)],[(5,.own (rI .i64) st true)],[(0,.sl (rI .i64) c.B)],6⟩) (fun st=>z85_k1 st=some r) ?_ (fun j1=>?_))))
 ·intro f h
  unfold z85_k1 at h
  exact oi h▸wr J 6 func85 [(1,.sl 5)]
 refine wa J 1 (eLoop (σ:=(List Int) × Int) (fun st=>(zz21 d.1 st.1 c.B d.1.B [(4,.B 3 0),(6,.S 5),(20,.I c.N),(21,.I st.2)])) (fun n st=>z85_l2 N c d n st.1 st.2) (r:=r) (fun _=>rfl) ?_ (fun ih=>?_))
 ·intro n12 ih12
  rintro ⟨g,i⟩ h
  unfold z85_l2 at h
  refine wB' J 5 h (fun h=>wa J 2 (eSub [] (j1 g h))) fun h=>?_
  refine wO J 14 h fun j k h=>eCl (z161_ct N d.1 0 (w64 (i+1)) _ k) [] [(0,.sl 2)] (wa J 10 (eCut (σ:=Int) (fun st=>(zz21 d.1 g c.B d.1.B [(4,.B 3 0),(6,.S 5),(8,.I st),(20,.I c.N),(21,.I i)])) (fun st=>z85_k3 g i (z85_l2 N c d n12) st=some r) ?_ (fun j19=>?_)))
  ·intro l h
   unfold z85_k3 at h
   refine wa J 3 (eBs J [] (oI .i64) ([l]:List Int) ?_)
   obtain ⟨m,o,h⟩:=ob h
   exact eAp J (rI .i64) o (wa J 7 (eSub [(5,.sl 7)] (ih12 (m,(w64 (i+1))) h)))
  refine wa J 1 (eLoop (σ:=Int × Int) (fun st=>(zz21 d.1 g c.B d.1.B [(4,.B 3 0),(6,.S 5),(7,.I i),(8,.I st.1),(20,.I c.N),(21,.I i),(29,.S 5),(30,.I (g.length:Int)),(31,.I st.2)])) (fun n st=>z85_l4 N d g i (z85_l2 N c d n12) n st.1 st.2) (r:=r) (fun _=>rfl) ?_ (fun ih=>?_))
  ·intro n14 ih21
   rintro ⟨p,q⟩ h
   unfold z85_l4 at h
   refine wB' J 5 h (fun h=>wa J 2 (eSub [] (j19 p h))) fun h=>?_
   refine wO J 7 h fun s u h=>eIo J (rI .i64) u (eLd J (oI .i64) u ?_)
   exact wO J 11 h fun v x h=>eCl (z161_ct N d.1 (w64 (q+1)) (w64 (i+1)) _ x) [] [(0,.sl 2)] (wa J 9 (eSub [] (ih21 ((maxI p (w64 (s-v))),(w64 (q+1))) h)))
  exact eSub [] (ih N ((w64 (0-j)),0) h)
 exact eSub [(5,.sl 4)] (ih N (([]:List Int),0) h)
end Gx
end
